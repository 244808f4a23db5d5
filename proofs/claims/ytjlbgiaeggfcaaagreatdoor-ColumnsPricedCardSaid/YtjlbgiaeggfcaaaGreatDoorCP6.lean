/-Lemmas for the law. No condition.-/
import Derived.Test.YtjlbgiaeggfcaaaGreatDoorCP5

set_option linter.unusedSimpArgs false
set_option linter.unusedVariables false
open Nat renaming reduceEqDiff->γ,reduceAdd->δ,reduceSub->ε,reduceMul->ζ,reduceLT->η,reduceLeDiff->θ,reduceBEq->τ
open Int renaming reduceLT->ι,reduceLE->κ,reduceEq->μ,reduceToNat->ν,reduceAdd->ξ,reduceNeg->ο,reduceBEq->ρ,reduceBNe->σ
open List renaming reduceReplicate->υ
open List renaming length_map->bkG,range->bkH,getElem_mem->bkK,replicate->bkM,length_append->bkQ,all_eq_true->bkS,getElem?_eq_getElem->bkT,length_singleton->bkV,mem_cons->bkX,length_take->bkY,take_of_length_le->bkZ,getD_eq_getElem?_getD->blB,getElem?_map->blC,not_mem_nil->blD,take_length->blE,mem_map->blF,map_append->blK,map_cons->blM,mem_range->blN,take_succ_eq_append_getElem->blO,getElem?_eq_some_iff->blQ,mem_append->blV,append_assoc->blW,getElem_map->blX,getElem_of_mem->blZ,getElem?_eq_none->bmA,length_cons->bmB,length_set->bmD,map_nil->bmE,mem_singleton->bmF,append_nil->bmJ,mem_of_getElem?->bmK,range'->bmR,getElem?_append_left->bmU,getElem?_append_right->bmY,map_congr_left->bnH,set_append_right->bnJ,map_map->bnN,map_take->bnO,all_append->bnX,all_cons->bnY,mem_of_mem_take->boC,nil_append->boD,range_succ->boE,getElem?_drop->boL,getElem?_set->boM,mem_or_eq_of_mem_set->boN,countP_le_length->boO,length_filter_le->boP
open Bool renaming and_eq_true->bkI,not_true->bkO,false_and->bkP,true_and->bkR,not_false->bkW,and_false->blR,and_true->bmO,false_eq_true->bmT,and_self->bmV,and_assoc->bnT
open Nat renaming gcd->bkJ,zero_le->bkL,le_refl->bkN,mul_add->blA,zero_add->blG,le_trans->blH,lt_or_ge->blI,mul_comm->blP,mul_le_mul_right->blU,beq->bmL,add_zero->bmS,eq_zero_or_pos->bmZ,sub_self->bnF,pow_le_pow_right->bnR,succ_mul->bnS,mul_le_mul->bnV
open Option renaming map_some->blJ,some->bmH,getD_some->bnG,bind_some->bnW
open Int renaming toNat->blS,toNat_natCast->bmI,tdiv->bmX
open List renaming length->Z'
set_option maxRecDepth 100000
set_option maxHeartbeats 800000
open Go.IntKind renaming i64->i_,u64->u_
open Go.PM.PF renaming nil->n_,args->g_
open Go.PM.PH renaming nil->h_
noncomputable section
namespace Go.PM
open Go Go.Na
theorem qy{l:List Nat}(h:l.Pairwise (· < ·)):(cA l).Pairwise (· < ·):=by
 unfold cA;rw[List.pairwise_map];exact h.imp λh=>by omega
theorem zg{f:aE}(hV:VF f)(U:List (List Int))(p:Z' U<=40)(n:Nat):(tV f U n).length<=1099511627776/\∀s∈tV f U n,Z' s<=24/\s.Pairwise (· < ·):=by
 have u:=hV.small.biV;unfold tV;constructor
 ·rw[bkG];have i:=vY U.length n 0;have l:2^(Z' U-0)<=2^40:=bnR Om Om;have e:(2:Nat)^40=1099511627776:=by decide
  omega
 ·intro s d;obtain⟨t,-,rfl⟩:=blF.1 d;refine⟨?_,qy (List.pairwise_lt_range.filter _)⟩;rw[fZ];exact blH (boP ..) (by simp;omega)
def VN(f:aE)(bjH:Int)(set:List Int)(lv cnt:Int):Int:=if eZ f lv cnt≠0 then eZ f lv cnt else if aVJ f bjH set then 0 else 1
def aKW(f:aE)(bjH:Int)(set:List Int)(lv cnt:Int):Nat:=if VN f bjH set lv cnt=0 then lG (fH f lv cnt) set (dS f bjH).m else 0
structure aOP(C:Ctx):Prop extends Zu C where
 tU:∀(f:aE)(lv cnt:Int),f.Ok->aH C 230 [.agg f.cells,oI lv cnt] .nil (aF (.tup [lay (fH f lv cnt),.int .i64 (eZ f lv cnt)]))
 loss:∀(sc:List (List Int)) (set:List Int) (m:Int),Z' sc<=1000000000000000->(∀s∈sc,Z' s<=1000000000000000/\s.Pairwise (· < ·))->Z' set<=1000000000000000->set.Pairwise (· < ·)->aH C 208 [lay sc,ints set,.int .i64 m] .nil (aF (.int .i64 (lG sc set m:Nat)))
def FR.got:FR->FV
 | .ok x=>x
 | .error _=>(false,0,0)
def FR.err:FR->Int
 | .ok _=>0
 | .error e=>e
theorem zA(r:FR):frV r=.tup [.agg r.got.rf.cells,.int .i64 r.err]:=by
 rcases r with e|⟨n,a,b⟩
 ·show frV (.error e)=.tup [.agg (fC false (aM 0) (aM 0)),.int .i64 e];rw[fJ];rfl
 ·rfl
def akQ:FV->FV
 |(n,a,b)=>(!n,a,b)
def vX(x y:FV):FR:=gJ x (akQ y)
def aMB:FV->FV
 |(n,a,b)=>if a=0 then(n,a,b)else(!n,a,b)
theorem a7H(x y:FV):gJ x (aMB y)=vX x y:=by
 obtain⟨d,a1,b1⟩:=x;obtain⟨e,a2,b2⟩:=y;unfold vX aMB akQ;by_cases h:a2=0
 ·subst h;simp only[if_true,gJ,Nat.zero_mul,bmS,Nat.sub_zero,bkL];split<;>rename_i i
  ·cases d<;>cases e<;>simp
  ·rfl
 ·simp only[aD h]
def Cst(j:Nat)(x:FV):Prop:=x.2.2≠0/\nl x.2.1<=2+9*j/\nl x.2.2<=1+8*j
theorem a5J{neg:Bool}{a b m n:Nat}(hb:b≠0)(d:nl a<=m)(e:nl b<=n)(l:m<=128)(p:n<=128):∃x,kB neg a b=.ok x/\x.2.2≠0/\nl x.2.1<=m/\nl x.2.2<=n:=by
 have u:=(kJ (a/bkJ a b) 128).2 (blH (xQ _ d) l);have e2:=(kJ (b/bkJ a b) 128).2 (blH (xQ _ e) p);unfold kB;rw[aD Om];refine⟨_,rfl,?_,xQ _ d,xQ _ e⟩;have i:0<bkJ a b:=Nat.gcd_pos_of_pos_right _ Om;have:=Nat.div_pos (Nat.le_of_dvd Om (Nat.gcd_dvd_right a b)) i;show b/bkJ a b≠0;omega
theorem a7G{j:Nat}{x y:FV}(B:Cst j x)(N:j<=12)(E:y.2.2≠0/\nl y.2.1<=8/\nl y.2.2<=8):∃r,vX x y=.ok r/\Cst (j+1) r:=by
 obtain⟨Q,a1,b1⟩:=x;obtain⟨R,a2,b2⟩:=y;obtain⟨e,l,i⟩:=B;obtain⟨g1,g2,g3⟩:=E;simp only at e l i g1 g2 g3;have K:cB a1 b1=true:=eK.2 ⟨e,by omega,by omega⟩;have M:cB a2 b2=true:=eK.2 ⟨g1,by omega,by omega⟩;have F:=kZ l g3;have H:=kZ g2 i;have J:=kZ i g3;have p:b1*b2≠0:=Nat.mul_ne_zero e g1;have d:∀neg A,nl A<=2+9*j+8+1->∃r,kB neg A (b1*b2)=.ok r/\Cst (j+1) r:=by intro neg A u;obtain⟨r,w,k1,k2,O⟩:=a5J (neg:=neg) p u J Om Om;exact⟨r,w,k1,by omega,by omega⟩
 unfold vX akQ;simp only[gJ,K,M,bmV,if_true];have s1:=Gr (m:=2+9*j+8) F (blH H Om);have s2:=jO (Om:a1*b2-a2*b1<=a1*b2);have s3:=jO (Om:a2*b1-a1*b2<=a2*b1);split
 ·exact d _ _ s1
 ·split
  ·exact d _ _ Om
  ·exact d _ _ Om
def pA(prices:List RF)(d:Int):FV:=(prices.map RF.v).getD d.toNat (false,0,1)
def mA(prices:List RF)(n:Nat)(l:List Int):FV:=l.foldl (λc d=>(vX c (pA prices d)).got) (false,n,1)
theorem FZ(prices:List RF)(n:Nat)(l:List Int)(d:Int):mA prices n (l++[d])=(vX (mA prices n l) (pA prices d)).got:=by
 unfold mA;rw[List.foldl_append];rfl
def Modest(prices:List RF):Prop:=∀x∈prices,val x.den≠0/\nl (val x.num)<=8/\nl (val x.den)<=8
theorem auO{prices:List RF}(h:Modest prices)(d:Int):(pA prices d).2.2≠0/\nl (pA prices d).2.1<=8/\nl (pA prices d).2.2<=8:=by
 unfold pA;rw[blB];cases e:(prices.map RF.v)[d.toNat]? with
 |none=>
  refine⟨Nat.one_ne_zero,?_,?_⟩
  ·show nl 0<=8;rw[nl,fJ];simp
  ·show nl 1<=8;rw[nl,nS];simp
 |some x =>obtain⟨y,i,rfl⟩:=blF.1 (bmK e);exact h y i
theorem JP{prices:List RF}(h:Modest prices){n:Nat}(A:n<18446744073709551616)(l:List Int)(i:Z' l<=12):Cst l.length (mA prices n l):=by
 obtain⟨r,rfl⟩:∃r,l=List.reverse r:=⟨l.reverse,by simp⟩
 induction r with
 |nil=>
  refine⟨Nat.one_ne_zero,?_,?_⟩
  ·exact blH (lE (n:=n) (k:=2) Om) Om
  ·show nl 1<=_;rw[nl,nS];simp
 |cons d r y=>
  rw[List.reverse_cons]at i ⊢;have u:Z' r.reverse+1<=12:=by simpa using i
  have p:=y Om;rw[FZ];obtain⟨x,w,e⟩:=a7G p Om (auO h d);rw[w,bkQ];exact e
def tQ(x y:FV):Int:=sW x.1 x.2.1 x.2.2 y.1 y.2.1 y.2.2
def yB{α:Type}(d:α->FV):Option α->α->Option α
 |none,s=>some s
 |some b,s=>if tQ (d s) (d b)<0 then some s else some b
def jI{α:Type}(d:α->FV)(l:List α):Option α:=l.foldl (yB d) none
theorem EJ{α:Type}(d:α->FV)(l:List α)(s:α):jI d (l++[s])=yB d (jI d l) s:=by
 unfold jI;rw[List.foldl_append];rfl
def dZ(x:RF):Bool:=match mY x with
 | .ok (_,a,b)=>decide (nl a<=2)&&decide (nl b<=2)
 | .error _=>false
def mL(f:aE)(bjH lv cnt:Int)(prices:List RF):Int:=
 if eZ f lv cnt≠0 then eZ f lv cnt
 else if(decide (0<=bjH)&&decide (bjH<Z' f.biZ))&&(decide (Z' prices=Z' f.biV)&&prices.all dZ)then(if gP f (dS f bjH)=[]then 12 else 0)else 1
def mC(f:aE)(bjH lv cnt:Int)(prices:List RF)(set:List Int):FV:=mA prices (lG (fH f lv cnt) set (dS f bjH).m) set
def uD(f:aE)(bjH lv cnt:Int)(prices:List RF):Option (List Int):=if mL f bjH lv cnt prices=0 then jI (mC f bjH lv cnt prices) (gP f (dS f bjH))else none
def sX(f:aE)(bjH lv cnt:Int)(prices:List RF):PV:=.tup [ints ((uD f bjH lv cnt prices).getD []),.agg ((uD f bjH lv cnt prices).elim (FV.rf (false,0,0)) λs=>(mC f bjH lv cnt prices s).rf).cells,.int .i64 (mL f bjH lv cnt prices)]
def qZ:FV->FV->FR
 |(d,a1,b1),(e,a2,b2)=>if cB a1 b1&&cB a2 b2 then kB (d != e) (a1*a2) (b1*b2)else .error 1
theorem a5T{x y r:FV}(h:qZ x y=.ok r):r.rf.Ok:=by
 obtain⟨d,a1,b1⟩:=x;obtain⟨e,a2,b2⟩:=y;simp only[qZ]at h;split at h
 ·exact(wQ h).2
 ·cases h
theorem aQZ(x y:FV):qZ x y=qZ y x:=by
 obtain⟨d,a1,b1⟩:=x;obtain⟨e,a2,b2⟩:=y;simp only[qZ,Bool.and_comm (cB a2 b2),blP a2,blP b2];cases d<;>cases e<;>rfl
theorem nw:(FV.rf (false,0,0)).Ok:=by
 have h:FV.rf (false,0,0)=⟨false,[],[]⟩:=by show RF.mk false (aM 0) (aM 0)=_;rw[fJ]
 rw[h];exact⟨λx d=>(blD d).elim,λx d=>(blD d).elim,bkL _,bkL _⟩
theorem aRA(x y:FV):(qZ x y).got.rf.Ok:=by
 cases h:qZ x y with
 |ok r=>exact a5T h
 |error e=>exact nw
theorem aOS(x y:FV):(gJ x y).got.rf.Ok:=by
 cases h:gJ x y with
 |ok r=>exact ln h
 |error e=>exact nw
def yC(s x:FV)(n:Nat):FV:=(gJ s (qZ x (false,n,1)).got).got
theorem a6O(s x:FV)(n:Nat):(yC s x n).rf.Ok:=aOS _ _
def kK(s:FV):List FV->List Nat->FV
 |x::xs,n::ns=>kK (yC s x n) xs ns
 |_,_=>s
def sR(f:aE):List Int:=sQ f.biZ.length (f.biX.map eI.bjH)
def fB(l:List RF)(n:Nat):Bool:=l.all dZ&&decide (Z' l=n)
def RQ(f:aE)(room:List Int)(a b:List RF):FV:=kK (kK (false,0,1) (a.map RF.v) ((sR f).map blS)) (b.map RF.v) ((rW f room).map blS)
def uA(f:aE)(a b:List RF):Bool:=cQ f&&(fB a f.biZ.length&&fB b f.biV.length)
def AD(f:aE)(room:List Int)(a b:List RF):PV:=
 if uA f a b then .tup [.agg (RQ f room a b).rf.cells,.int .i64 0]else .tup [.agg (fC false [] []),.int .i64 1]
def jA:=bR [4] Proofs.Tryz.f6
def Pu:=aA jA 0
def Pv:=aA jA 1
def MA:=aA jA 2
def Pw:=aA jA 3
def Px:=aA jA 4
def Py:=aA jA 5
def Pz:=aA jA 6
def P0:=cN jA 0
def P1:=aA jA 7
def Pt:aC:=(fP Py 40 0 P1 (sq Pz (.draw P0)))
def A7:=aA jA 8
def A8:=aA jA 9
def A9:=aA jA 10
def Ba:=cN jA 1
def Bb:=aA jA 11
def A6:aC:=(fP A8 57 2 Bb (sq A9 (.draw Ba)))
def Bc:=aA jA 12
def OA:aC:=(sq Pu (dA Pv 33 MA (sq Pw (.seq (cD Px 0 Pt) (.seq (cD A7 2 A6) (sq Bc .ret))))))
def aaU:bB:=⟨4,70,OA,[.cell 8 (some 3),.tmp 9]⟩
def oP:=bR [] Proofs.Tryz.f18
def Cv:=aA oP 0
def Cw:=aA oP 1
def Cx:=aA oP 2
def Cy:=aA oP 3
def Cz:=aA oP 4
def C0:=aA oP 5
def C1:=aA oP 6
def Cu:aC:=(fP Cx 10 0 C1 (sq Cy (sq Cz (.cond (Tm 15) (sq C0 .ret) .skip))))
def C2:=aA oP 7
def JT:aC:=(sq Cv (.seq (cD Cw 0 Cu) (sq C2 .ret)))
def Ml:bB:=⟨2,21,JT,[.tmp 4]⟩
def JO:=bR [] Proofs.Tryz.f19
def Bs:=aA JO 0
def Bt:=aA JO 1
def Bu:=aA JO 2
def JN:aC:=(sq Bs (sq Bt (sq Bu .ret)))
def Mi:bB:=⟨1,11,JN,[.cell 2 (some 3)]⟩
def nM:=bR [1] Proofs.Tryz.f20
def n8:=aA nM 0
def n9:=aA nM 1
def oa:=aA nM 2
def oc:=aA nM 3
def oe:=aA nM 4
def og:=aA nM 5
def oi:=aA nM 6
def n6:aC:=(fP oc 14 0 oi (sq oe (.region og)))
def oj:=aA nM 7
def FJ:aC:=(sq n8 (sq n9 (.seq (cD oa 0 n6) (sq oj .ret))))
def vp:bB:=⟨1,26,FJ,[.tmp 2]⟩
def GA:=bR [4] Proofs.Tryz.f21
def abG:=aA GA 0
def abH:=cN GA 0
def abI:=aA GA 1
def abJ:=aA GA 2
def TG:aC:=(sq abG (dq abH (sq abI (sq abJ .ret))))
def aIS:bB:=⟨3,23,TG,[.cell 6 (some 3)]⟩
def OF:=bR [1] Proofs.Tryz.f53
def Qw:=aA OF 0
def Qx:=aA OF 1
def de:=aA OF 2
def OE:aC:=(sq Qw (sq Qx (sq de .ret)))
def acH:bB:=⟨1,24,OE,[.tmp 2]⟩
def EP:=bR [2,3] Proofs.Tryz.f55
def axR:=aA EP 0
def axS:=aA EP 1
def Ms:=aA EP 2
def axT:=cN EP 0
def axU:=cN EP 1
def d6:aC:=(sq axR (dA axS 13 Ms (.seq (dq axT (.draw axU)) .ret)))
def aXD:bB:=⟨2,33,d6,[.cell 4 (some 3),.tmp 5]⟩
def OK:=bR [] Proofs.Tryz.f122
def Rq:=aA OK 0
def Rr:=aA OK 1
def Rs:=aA OK 2
def OJ:aC:=(sq Rq (sq Rr (sq Rs .ret)))
def adO:bB:=⟨1,8,OJ,[.cell 2 (some 3)]⟩
def d8:=bR [2,3] Proofs.Tryz.f72
def axX:=aA d8 0
def axY:=cN d8 0
def axZ:=cN d8 1
def d7:aC:=(sq axX (.seq (dq axY (.draw axZ)) .ret))
def Mu:bB:=⟨2,12,d7,[.cell 4 (some 3),.tmp 5]⟩
def NR:=bR [1] Proofs.Tryz.f125
def aGE:=aA NR 0
def aGF:=aA NR 1
def aGG:=aA NR 2
def aGH:=aA NR 3
def kn:aC:=(sq aGE (dA aGF 7 aGG (sq aGH .ret)))
def a1R:bB:=⟨1,17,kn,[.cell 2 (some 3)]⟩
def kp:=bR [2,3] Proofs.Tryz.f79
def aGI:=aA kp 0
def aGJ:=cN kp 0
def aGK:=cN kp 1
def ko:aC:=(sq aGI (.seq (dq aGJ (.draw aGK)) .ret))
def O7:bB:=⟨2,12,ko,[.cell 4 (some 3),.tmp 5]⟩
def JR:=bR [1] Proofs.Tryz.f69
def Bw:=aA JR 0
def Bx:=aA JR 1
def TH:=aA JR 2
def JQ:aC:=(sq Bw (sq Bx (sq TH .ret)))
def Mj:bB:=⟨1,24,JQ,[.tmp 2]⟩
def dO:=bR [4,6] Proofs.Tryz.f31
def P8:=aA dO 0
def P9:=aA dO 1
def cw:=aA dO 2
def Qa:=aA dO 3
def Qb:=aA dO 4
def MF:=aA dO 5
def Qc:=aA dO 6
def Qd:=aA dO 7
def Qe:=aA dO 8
def Qf:=aA dO 9
def B0:=aA dO 10
def B5:=aA dO 11
def By:aC:=(fP Qd 59 1 B5 (sq Qe (sq Qf (.cond (Tm 64) (sq B0 .ret) .skip))))
def B6:=aA dO 12
def B7:=aA dO 13
def B8:=aA dO 14
def B9:=aA dO 15
def Ca:=aA dO 16
def Cb:=aA dO 17
def Cc:=aA dO 18
def Cd:=aA dO 19
def Ce:=aA dO 20
def Cf:=aA dO 21
def Cg:=cN dO 0
def Ch:=aA dO 22
def TI:aC:=(fP Ce 92 5 Ch (sq Cf (.draw Cg)))
def TJ:=aA dO 23
def TK:=aA dO 24
def TL:=cN dO 1
def GB:=aA dO 25
def Bz:aC:=(fP Ca 77 3 GB (sq Cb (sq Cc (.seq (cD Cd 5 TI) (sq TJ (sq TK (.cond (Tm 116) (.draw TL) .skip)))))))
def TM:=aA dO 26
def Cj:=aA dO 27
def Ck:=cN dO 2
def OD:aC:=(sq P8 (sq P9 (.seq (.block 0 (sq cw (.cond (Tm 32) (sq Qa .ret) (sq Qb (.cond (Tm 37) (sq MF .ret) .skip))))) (.seq (cD Qc 1 By) (sq B6 (sq B7 (sq B8 (.seq (cD B9 3 Bz) (dA TM 121 Cj (dq Ck .ret))))))))))
def abK:bB:=⟨4,125,OD,[.tmp 8,.cell 9 (some 3),.tmp 10]⟩
def lW:=bR [] Proofs.Tryz.f59
def Hy:=aA lW 0
def Hz:=aA lW 1
def Ia:=aA lW 2
def Ib:=aA lW 3
def Ic:=aA lW 4
def Ie:=aA lW 5
def XR:=aA lW 6
def HH:=aA lW 7
def If:=aA lW 8
def Hw:aC:=(cT Ic 14 0 If (sq Ie (sq XR (.cond (Tm 38) (sq HH .ret) .skip))))
def sv:=aA lW 9
def KU:aC:=(sq Hy (dA Hz 11 Ia (.seq (cD Ib 0 Hw) (sq sv .ret))))
def Oh:bB:=⟨2,39,KU,[.tmp 4]⟩
def fD:=bR [4,6] Proofs.Tryz.f34
def Uw:=aA fD 0
def Ux:=aA fD 1
def i7:=aA fD 2
def Uy:=aA fD 3
def Uz:=aA fD 4
def NG:=aA fD 5
def U1:=aA fD 6
def U2:=aA fD 7
def U3:=aA fD 8
def U4:=aA fD 9
def Ij:=aA fD 10
def Ik:=cN fD 0
def Il:=aA fD 11
def Im:=aA fD 12
def In:=cN fD 1
def Io:=aA fD 13
def XT:aC:=(cT Im 79 2 Io (.draw In))
def XU:=aA fD 14
def XV:=cN fD 2
def HL:=aA fD 15
def Ii:aC:=(cT Ij 57 0 HL (dq Ik (.seq (cD Il 2 XT) (sq XU (.cond (Tm 103) (.draw XV) .skip)))))
def XW:=aA fD 16
def Ip:=aA fD 17
def Iq:=cN fD 3
def PS:aC:=(sq Uw (sq Ux (dA i7 27 Uy (dA Uz 46 NG (sq U1 (sq U2 (sq U3 (.seq (cD U4 0 Ii) (dA XW 110 Ip (dq Iq .ret))))))))))
def anP:bB:=⟨4,114,PS,[.tmp 8,.cell 9 (some 3),.tmp 10]⟩
def rM:=bR [] Proofs.Tryz.f28
def awN:=aA rM 0
def awO:=aA rM 1
def awP:=aA rM 2
def awQ:=aA rM 3
def awR:=aA rM 4
def awS:=cN rM 0
def awT:=aA rM 5
def awU:=aA rM 6
def awM:aC:=(cT awR 14 0 awU (dq awS (.cond (Tm 25) (sq awT .ret) .skip)))
def awV:=aA rM 7
def dl:aC:=(sq awN (dA awO 10 awP (.seq (cD awQ 0 awM) (sq awV .ret))))
def aWU:bB:=⟨2,26,dl,[.tmp 4]⟩
def Dp:=bR [2,3] Proofs.Tryz.f8
def acX:=aA Dp 0
def acY:=aA Dp 1
def UC:aC:=(sq acX (sq acY .ret))
def aJD:bB:=⟨2,24,UC,[.tmp 4]⟩
def RF.WK(x:RF):RF:=⟨!x.neg,x.num,x.den⟩
theorem a9J(x:RF):x.WK.v=akQ x.v:=rfl
theorem a5Z{x:RF}(h:x.Ok):x.WK.Ok:=h
variable{C:Ctx}
theorem aQB(x:RF):OJ.wp C (aX adO.res (aF (.agg x.WK.cells))) (g_ [.agg x.cells]) .nil:=by
 simp only[go_sem,OJ,Rq,adO];refine aP λo p=>?_;simp only[go_sem];refine aP λo2 l=>?_;have d:¬o=o2:=λe=>by rw[<-e,cW]at l;cases l
 have i:¬o2=o:=λe=>d e.symm;simp only[go_sem,Rr,d,i,Rs];refine aT (.inr rfl) Ev ?_;rfl
def stS(k:Nat)(a b:PV):Spec:=λname _=>if name=k then some ([],λ_=>aF a)else some ([],λ_=>aF b)
theorem a4K(L:zW C)(e:∀x:RF,aH C 279 [.agg x.cells] .nil (aF (.agg x.WK.cells)))(x y:RF)(i:x.Ok)(l:y.Ok) :
  d7.wp C (aX Mu.res (aF (frV (vX x.v y.v)))) (g_ [.agg x.cells,.agg y.cells]) .nil:=by
 have d:=L.plus x y.WK i (a5Z l);rw[a9J]at d;unfold vX;generalize gJ x.v (akQ y.v)=r at *
 rw[zA]at d ⊢;simp only[go_sem,d7,axX,Mu];refine aP λo p=>?_;simp only[go_sem];refine bP .nil (stS 279 (.agg y.WK.cells) (.tup [.agg r.got.rf.cells,.int .i64 r.err])) a_ ?_;simp only[go_sem,axY];refine bK rfl (e y) Sq a_ ?_;simp only[go_sem];refine bK rfl d Sq a_ ?_;simp only[go_sem];refine bP .nil eJ a_ ?_;simp only[go_sem,axZ];refine⟨a_,?_⟩;refine aT (.inr rfl) Ev ?_;rfl
def RF.opp(x:RF):RF:=if val x.num=0 then x else x.WK
theorem bdF(x:RF):x.opp.v=aMB x.v:=by
 unfold RF.opp aMB RF.v RF.WK;simp only;split<;>rfl
theorem a9Q{x:RF}(h:x.Ok):x.opp.Ok:=by
 unfold RF.opp;split
 ·exact h
 ·exact h
theorem a7U(L:uQ C)(x:RF)(e:x.Ok):kn.wp C (aX a1R.res (aF (.agg x.opp.cells))) (g_ [.agg x.cells]) .nil:=by
 simp only[go_sem,kn,aGE,a1R];refine aP λo l=>?_;simp only[go_sem,aGF];refine aB (L.trim x.num e.1 e.2.2.1) Sq ?_;simp only[go_sem,bkG,bE];have i:=@kV (val x.num);unfold RF.opp;by_cases c:val x.num=0
 ·have d:((nl (val x.num):Nat):Int)=0:=Om;rw[aI c];simp only[go_sem,bW d,aGG];refine aT (.inr rfl) Ev ?_;rfl
 ·have d:¬((nl (val x.num):Nat):Int)=0:=Om;rw[aD c];simp only[go_sem,bL d,aGH];refine aT (.inr rfl) Ev ?_;rfl
theorem a7V(plus:∀x y:RF,x.Ok->y.Ok->aH C 46 [.agg x.cells,.agg y.cells] .nil (aF (frV (gJ x.v y.v))))(i:∀x:RF,x.Ok->aH C 281 [.agg x.cells] .nil (aF (.agg x.opp.cells)))(x y:RF)(l:x.Ok)(e:y.Ok) :
  ko.wp C (aX O7.res (aF (frV (vX x.v y.v)))) (g_ [.agg x.cells,.agg y.cells]) .nil:=by
 have d:=plus x y.opp l (a9Q e);rw[bdF,a7H]at d;generalize vX x.v y.v=r at *
 rw[zA]at d ⊢;simp only[go_sem,ko,aGI,O7];refine aP λo p=>?_;simp only[go_sem];refine bP .nil (stS 281 (.agg y.opp.cells) (.tup [.agg r.got.rf.cells,.int .i64 r.err])) a_ ?_;simp only[go_sem,aGJ];refine bK rfl (i y e) Sq a_ ?_;simp only[go_sem];refine bK rfl d Sq a_ ?_;simp only[go_sem];refine bP .nil eJ a_ ?_;simp only[go_sem,aGK];refine⟨a_,?_⟩;refine aT (.inr rfl) Ev ?_;rfl
theorem MY{x:RF}(h:dZ x=true):∃r,mY x=.ok r/\nl r.2.1<=2/\nl r.2.2<=2/\val x.den≠0:=by
 unfold dZ at h;split at h
 ·rename_i n a b e;simp only[bkI,dT_]at h;refine⟨_,e,h.1,h.2,?_⟩;unfold mY at e;split at e
  ·rename_i d;exact(eK.1 d).1
  ·cases e
 ·cases h
theorem aIT(L:zW C)(x:RF)(B:x.Ok):JQ.wp C (aX Mj.res (aF (.bool (dZ x)))) (g_ [.agg x.cells]) .nil:=by
 have p:=L.red x B;have l:dZ x=match mY x with | .ok (_,a,b)=>decide (nl a<=2)&&decide (nl b<=2) | .error _=>false:=rfl
 simp only[go_sem,JQ,Bw,Mj,Bx];refine aB p Sq ?_;cases u:mY x with
 |error e =>have w:=KR u;rw[u]at l;simp only at l;rw[l];simp only[go_sem,frV];refine aP λo A=>?_;simp only[go_sem,TH,bL w];refine aT (.inr rfl) Ev ?_;rfl
 |ok r=>
  obtain⟨n,a,b⟩:=r;rw[u]at l;simp only at l;rw[l];have E:=kJ a 2;have F:=kJ b 2;have d:=Ob u;simp only[go_sem,frV];refine aP λo A=>?_;simp only[go_sem,TH];refine aB (L.bits (aM a) d.1 d.2.2.1) Sq ?_;simp only[go_sem,aW];by_cases y:nl a<=2
  ·have i:((dC a:Nat):Int)<=64:=Om;simp only[go_sem,i];refine aB (L.bits (aM b) d.2.1 d.2.2.2) Sq ?_;simp only[go_sem,aW];refine aT (.inr rfl) Ev ?_;rw[bN,aV y,bkR,decide_eq_decide.2 (Om:((dC b:Nat):Int)<=64↔nl b<=2)]
  ·have i:¬((dC a:Nat):Int)<=64:=Om;simp only[go_sem,i];refine aT (.inr rfl) Ev ?_;rw[bN,bC y,bkP]
theorem Hx(L:Ay C)(l:List RF)(N:∀x∈l,x.Ok)(n:Nat)(S:n<=1000):KU.wp C (aX Oh.res (aF (.bool (decide (Z' l=n)&&l.all dZ)))) (g_ [frs l,.int .i64 n]) .nil:=by
 simp only[go_sem,KU,Hy,Oh,Hz,bkG];by_cases c:Z' l=n
 ·subst c;simp only[go_sem,cF (show(Z' l:Int)=(Z' l:Nat)from rfl),Ib,decide_true,bkR];refine wp_loop (α:=Nat) (λk=>(((n_.set 0 (frs l)).set 1 (.int .i64 (Z' l:Nat))).set 5 (.int .i64 k))) (λ_=>.nil) (λk=>k<=Z' l/\∀x∈l.take k,dZ x=true) (λk=>Z' l-k) 0 ⟨bkL _,λx h=>by cases h⟩ Lq a_ ?_;rintro k ⟨R,d⟩;have d:(l.take k).all dZ=true:=bkS.2 d;simp only[go_sem,Hw,Ic];by_cases hlt:k<Z' l
  ·have u:(k:Int)<(Z' l:Nat):=Om;have Q:(l.map RF.cells)[k]?=some (l[k]).cells:=by simp[hlt]
   have B:=L.red l[k] (N _ (bkK hlt));have A:(l.take (k+1)).all dZ=dZ l[k]:=by rw[blO hlt,bnX,d];simp
   have i:dZ l[k]=match mY l[k]with | .ok (_,a,b)=>decide (nl a<=2)&&decide (nl b<=2) | .error _=>false:=rfl
   have p:dZ l[k]=false->l.all dZ=false:=λh=>by
    cases M:l.all dZ with
    |false=>rfl
    |true=>rw[bkS.1 M _ (bkK hlt)]at h;cases h
   simp only[go_sem,u,Ie,bkG,Q];refine aB B Sq ?_;cases E:mY l[k]with
   |error e =>have F:=KR E;rw[E]at i;simp only[go_sem,frV];refine aP λo O=>?_;simp only[go_sem,XR,dP F,HH];refine aT (.inr rfl) Ev ?_;rw[bN,p i]
   |ok r=>
    obtain⟨U,a,b⟩:=r;rw[E]at i;simp only at i;simp only[go_sem,frV];refine aP λo O=>?_;simp only[go_sem,XR,cF (show(0:Int)=0 from rfl),bkG,bE];by_cases H:nl a<=2
    ·have w:¬((nl a:Nat):Int)>2:=Om;rw[aV H,bkR]at i;simp only[go_sem,w,bkG,bE];by_cases J:nl b<=2
     ·have y:¬((nl b:Nat):Int)>2:=Om;rw[aV J]at i;simp only[go_sem,y,If,wZz k];exact aG (k+1) ⟨hlt,bkS.1 (A.trans i)⟩ Om Lq a_
     ·have y:((nl b:Nat):Int)>2:=Om;rw[bC J]at i;simp only[go_sem,y,HH];refine aT (.inr rfl) Ev ?_;rw[bN,p i]
    ·have w:((nl a:Nat):Int)>2:=Om;rw[bC H,bkP]at i;simp only[go_sem,w,HH];refine aT (.inr rfl) Ev ?_;rw[bN,p i]
  ·have u:¬(k:Int)<(Z' l:Nat):=Om;have:k=Z' l:=Om;subst this;rw[blE]at d;simp only[go_sem,u,sv];refine aT (.inr rfl) Ev ?_;rw[bN,d]
 ·have K:¬(Z' l:Int)=(n:Nat):=Om;simp only[go_sem,dP K,Ia];refine aT (.inr rfl) Ev ?_;rw[bN,bC c,bkP]
theorem a3Y(a b:List Nat)(w:Z' a<=35184372087808)(hb:Z' b<=35184372087808):dl.wp C (aX aWU.res (aF (.bool (decide (a=b))))) (g_ [aN a,aN b]) .nil:=by
 simp only[go_sem,dl,awN,aWU,awO,bkG];by_cases c:Z' a=Z' b
 ·simp only[go_sem,cF (Om:(Z' a:Int)=(Z' b:Nat)),awQ];refine wp_loop (α:=Nat) (λk=>(((n_.set 0 (aN a)).set 1 (aN b)).set 5 (.int .i64 k))) (λ_=>.nil) (λk=>k<=Z' a/\a.take k=b.take k) (λk=>Z' a-k) 0 ⟨bkL _,rfl⟩ Lq a_ ?_;rintro k ⟨x,i⟩;simp only[go_sem,awM,awR,bkG];by_cases hlt:k<Z' a
  ·have d:(k:Int)<(Z' a:Nat):=Om;have l:k<Z' b:=Om;have p:(aO a)[k]?=some [.int .u32 (a[k]:Nat)]:=by simp[aO,hlt]
   have u:(aO b)[k]?=some [.int .u32 (b[k]:Nat)]:=by simp[aO,l]
   simp only[go_sem,d];refine bP .nil eJ a_ ?_;simp only[go_sem,awS,p,u];by_cases e:a[k]=b[k]
   ·simp only[go_sem,cF (Om:((a[k]:Nat):Int)=(b[k]:Nat)),awU,wZz k];exact aG (k+1) ⟨hlt,by rw[blO hlt,blO l,i,e]⟩ Om Lq a_
   ·simp only[go_sem,dP (Om:¬((a[k]:Nat):Int)=(b[k]:Nat)),awT];refine aT (.inr rfl) Ev ?_;rw[bN,bC λh=>e (by subst h;rfl)]
  ·have d:¬(k:Int)<(Z' a:Nat):=Om;have:k=Z' a:=Om;subst this;rw[blE,c,blE]at i;simp only[go_sem,d,awV];refine aT (.inr rfl) Ev ?_;rw[bN,aV i]
 ·simp only[go_sem,dP (Om:¬(Z' a:Int)=(Z' b:Nat)),awP];refine aT (.inr rfl) Ev ?_;rw[bN,bC λh=>c (by rw[h])]
theorem aWS(p:∀a b:List Nat,Z' a<=35184372087808->Z' b<=35184372087808->aH C 236 [aN a,aN b] .nil (aF (.bool (decide (a=b)))))(x:RF)(d:x.Ok):UC.wp C (aX aJD.res (aF (.bool true))) (g_ [.agg x.cells,.agg x.cells]) .nil:=by
 have i:=p x.num x.num d.2.2.1 d.2.2.1;have l:=p x.den x.den d.2.2.2 d.2.2.2;rw[aV rfl]at i l;have e:(x.neg==x.neg)=true:=by cases x.neg<;>rfl
 simp only[go_sem,UC,acX,aJD,acY,e];refine aB i Sq ?_;simp only[go_sem];refine aB l Sq ?_;simp only[go_sem];refine aT (.inr rfl) Ev ?_;rfl
theorem abE(a b:Nat):eR a b<0↔a<b:=by
 unfold eR;split
 ·rename_i h;exact⟨λ_=>h,λ_=>by decide⟩
 ·split
  ·rename_i d e;exact⟨λh=>absurd h aU,λh=>by omega⟩
  ·exact⟨λh=>absurd h aU,λh=>by omega⟩
theorem aVY(a b:Nat):eR a b=0↔a=b:=by
 unfold eR;split
 ·rename_i h;exact⟨λh=>absurd h aU,λh=>by omega⟩
 ·split
  ·exact⟨λh=>absurd h aU,λh=>by omega⟩
  ·exact⟨λh=>by omega,λ_=>rfl⟩
def sgF(x:FV):Int:=if x.1 then -(x.2.1:Int)else x.2.1
theorem CW{x y:FV}(l:x.2.2≠0)(p:y.2.2≠0):(tQ x y<0↔sgF x*(y.2.2:Nat)<sgF y*(x.2.2:Nat))/\(tQ x y=0↔sgF x*(y.2.2:Nat)=sgF y*(x.2.2:Nat)):=by
 obtain⟨u,a1,b1⟩:=x;obtain⟨w,a2,b2⟩:=y;simp only at l p;unfold tQ sW sgF;simp only;have E:0<a1->0<a1*b2:=λh=>Nat.mul_pos h Om;have F:0<a2->0<a2*b1:=λh=>Nat.mul_pos h Om;have H:a1=0->a1*b2=0:=λh=>by rw[h,Nat.zero_mul]
 have J:a2=0->a2*b1=0:=λh=>by rw[h,Nat.zero_mul]
 have i:(a1:Int)*(b2:Int)=((a1*b2:Nat):Int):=by simp
 have e2:(a2:Int)*(b1:Int)=((a2*b1:Nat):Int):=by simp
 have O:=abE (a1*b2) (a2*b1);have Q:=aVY (a1*b2) (a2*b1);have R:=abE (a2*b1) (a1*b2);have S:=cu (a1*b2) (a2*b1);generalize eR (a1*b2) (a2*b1)=c at *
 generalize eR (a2*b1) (a1*b2)=N at *
 generalize a1*b2=A at *
 generalize a2*b1=B at *
 by_cases d:a1=0<;>by_cases e:a2=0<;>cases u<;>cases w <;>
  simp only[d,e,ne_eq,not_true_eq_false,not_false_eq_true,decide_true,decide_false,bmO,blR,bkP,if_true,if_false,bmT,Int.neg_mul,i,e2,Int.neg_zero,Int.zero_mul] <;>
  (first|(have K:=H d)|(have K:=E Om))<;>(first|(have M:=J e)|(have M:=F Om))<;>constructor<;>constructor<;>intro h<;>first|omega|(simp only[d,e,Int.ofNat_zero]at *;omega)
theorem aXE{i sy sz d bm e:Int}(w:0<bm)(u:0<d)(l:0<e)(a:i*bm<sy*d)(b:sy*e<=sz*bm):i*e<sz*d:=by
 have k1:i*bm*e<sy*d*e:=Int.mul_lt_mul_of_pos_right a l;have k2:sy*e*d<=sz*bm*d:=Int.mul_le_mul_of_nonneg_right b Om;have p:(i*e)*bm<(sz*d)*bm:=by rw[show i*e*bm=i*bm*e by rw[Int.mul_assoc,Int.mul_comm e,<-Int.mul_assoc],show sz*d*bm=sz*bm*d by rw[Int.mul_assoc,Int.mul_comm d,<-Int.mul_assoc]];rw[show sy*d*e=sy*e*d by rw[Int.mul_assoc,Int.mul_comm d,<-Int.mul_assoc]]at k1;omega
 exact Int.lt_of_mul_lt_mul_right p Om
theorem aMD{x y z:FV}(d:x.2.2≠0)(e:y.2.2≠0)(i:z.2.2≠0)(a:tQ x y<0)(b:¬tQ z y<0):tQ x z<0:=by
 rw[(CW d e).1]at a;rw[(CW i e).1]at b;rw[(CW d i).1];exact aXE (sy:=sgF y) (bm:=(y.2.2:Nat)) Om Om Om a Om
theorem T0{x y:FV}(d:x.2.2≠0)(e:y.2.2≠0)(a:tQ x y<0):¬tQ y x<0/\tQ y x≠0:=by
 rw[(CW d e).1]at a;constructor
 ·rw[(CW e d).1];omega
 ·intro h;rw[(CW e d).2]at h;omega
theorem T1{x:FV}(d:x.2.2≠0):tQ x x=0:=by rw[(CW d d).2]
theorem Pl{α:Type}(d:α->FV)(l:List α)(e:∀s∈l,(d s).2.2≠0) :
  (jI d l=none/\l=[])\/∃(i:Nat)(b:α),jI d l=some b/\l[i]?=some b/\(∀t∈l,¬tQ (d t) (d b)<0)/\∀j t,j<i->l[j]?=some t->tQ (d t) (d b)≠0:=by
 obtain⟨r,rfl⟩:∃r,l=List.reverse r:=⟨l.reverse,by simp⟩
 induction r with
 |nil=>exact .inl ⟨rfl,rfl⟩
 |cons s r E=>
  rw[List.reverse_cons]at e ⊢;have w:(d s).2.2≠0:=e s bH;have u:∀t∈r.reverse,(d t).2.2≠0:=λt ht=>e t (List.mem_append_left _ ht);rw[EJ];refine .inr ?_;have last:(r.reverse++[s])[Z' r.reverse]?=some s:=by simp
  rcases E u with⟨y,x⟩|⟨i,b,y,x,h3,h4⟩
  ·rw[y,x];refine⟨0,s,rfl,rfl,λt ht=>?_,λj t h=>by omega⟩;rw[boD,bmF]at ht;subst ht;rw[T1 w];decide
  ·rw[y];have B:(d b).2.2≠0:=u b (bmK x);have hi:i<Z' r.reverse:=(blQ.1 x).1;unfold yB;by_cases c:tQ (d s) (d b)<0
   ·simp only[aI c];have lt:∀t∈r.reverse,tQ (d s) (d t)<0:=λt ht=>aMD w B (u t ht) c (h3 t ht);refine⟨Z' r.reverse,s,rfl,last,λt ht=>?_,λj t A p=>?_⟩
    ·rcases blV.1 ht with ht|ht
     ·exact(T0 w (u t ht) (lt t ht)).1
     ·rw[bmF]at ht;subst ht;rw[T1 w];decide
    ·rw[bmU A]at p;have ht:=bmK p;exact(T0 w (u t ht) (lt t ht)).2
   ·simp only[aD c];refine⟨i,b,rfl,by rw[bmU hi];exact x,λt ht=>?_,λj t A p=>?_⟩
    ·rcases blV.1 ht with ht|ht
     ·exact h3 t ht
     ·rw[bmF]at ht;subst ht;exact c
    ·rw[bmU Om]at p;exact h4 j t A p
theorem BL{f:aE}{lv cnt:Int}(h:eZ f lv cnt=0):cQ f=true/\Z' f.biV<=12:=by
 unfold eZ at h;split at h
 ·rename_i c;simp only[bkI]at c;split at h
  ·cases h
  ·exact⟨c.1,by omega⟩
 ·cases h
theorem So{n:Nat}(h:n<=9223372036854775807):MV n 1=.tup [.agg (FV.rf (false,n,1)).cells,.int .i64 0]:=by
 have d:nl n<=2:=lE Om;have i:=(kJ n 128).2 Om;have l:nl 1=1:=by rw[nl,nS];rfl
 have p:=(kJ 1 128).2 Om;unfold MV;rw[aD aU,SB,Int.natAbs_natCast,show(1:Int).natAbs=1 from rfl];unfold kB;rw[Nat.gcd_one_right,Nat.div_one,Nat.div_one,aD Om];have e:decide ((n:Int)<0)=false:=bC Om;rw[e];rfl
structure aVD(C:Ctx):Prop extends aOP C where
 fr:zW C
 Mu:∀x y:RF,x.Ok->y.Ok->aH C 278 [.agg x.cells,.agg y.cells] .nil (aF (frV (vX x.v y.v)))
 price1:∀x:RF,x.Ok->aH C 232 [.agg x.cells] .nil (aF (.bool (dZ x)))
theorem df{j:Nat}{x:FV}(h:Cst j x)(l:j<=12):x.rf.Ok/\cB x.2.1 x.2.2=true:=by
 obtain⟨n,a,b⟩:=x;obtain⟨d,e,i⟩:=h;simp only at d e i;have k1:cB a b=true:=eK.2 ⟨d,by omega,by omega⟩;refine⟨⟨aY _,aY _,?_,?_⟩,k1⟩
 ·show(aM a).length<=_;rw[bE];omega
 ·show(aM b).length<=_;rw[bE];omega
theorem atS(Lb:aVD C)(prices:List RF)(hp:∀x∈prices,x.Ok)(hm:Modest prices)(n:Nat)(hn:n<18446744073709551616)(set:List Int)(hs:Z' set<=12)(X:∀d∈set,0<=d/\d<Z' prices)
  (o9 E J i:Nat) (M N O:PV) (y A:Int) (B:List BX) (K:cH) [Up K] (F:PF) (H:PH)
  (hF:(((((((((((((((n_.set 3 (frs prices)).set 9 (.ptr o9 3 0 0)).set 11 (M)).set 15 (.ptr E 17 0 0)).set 16 (N)).set 17 (.ptr J 3 0 0)).set 19 (ints set)).set 20 (.ptr i 3 0 0)).set 74 (O)).set 75 (.int .i64 y)).set 76 (.int .i64 A)).set 89 (ints set)).set 90 (.int .i64 (Z' set:Nat))).set 91 (.int .i64 0))).le F)
  (hH:aR H (B++[(i,.rows 3 [(FV.rf (false,n,1)).cells])]) [])
  (hK:∀H',aR H' (B++[(i,.rows 3 [(FV.rf (mA prices n set)).cells])]) []->K (.exit 5) ((((((((((((n_.set 3 (frs prices)).set 9 (.ptr o9 3 0 0)).set 11 (M)).set 15 (.ptr E 17 0 0)).set 16 (N)).set 17 (.ptr J 3 0 0)).set 19 (ints set)).set 20 (.ptr i 3 0 0)).set 74 (O)).set 75 (.int .i64 y)).set 76 (.int .i64 A))) H') :
  aC.wp C (.loop TI) K F H:=by
 refine yD _ (λ_ _ _ _ a b=>Up.up a b) hF ?_;refine wp_loop (α:=Nat × PH) (λt=>((((((((((((((n_.set 3 (frs prices)).set 9 (.ptr o9 3 0 0)).set 11 (M)).set 15 (.ptr E 17 0 0)).set 16 (N)).set 17 (.ptr J 3 0 0)).set 19 (ints set)).set 20 (.ptr i 3 0 0)).set 74 (O)).set 75 (.int .i64 y)).set 76 (.int .i64 A)).set 89 (ints set)).set 90 (.int .i64 (Z' set:Nat))).set 91 (.int .i64 t.1))) (λt=>t.2)
  (λt=>t.1<=Z' set/\aR t.2 (B++[(i,.rows 3 [(FV.rf (mA prices n (set.take t.1))).cells])]) []) (λt=>Z' set-t.1) (0,H) ⟨bkL _,hH⟩ Lq b_ ?_
 rintro⟨j,H1⟩ ⟨hj,R⟩;simp only at hj R ⊢;simp only[go_sem,TI,Ce];by_cases hlt:j<Z' set
 ·have l:(j:Int)<(Z' set:Nat):=Om;have V:(set.map λx=>[PV.int .i64 x])[j]?=some [.int .i64 set[j]]:=by simp[hlt]
  have hd:=X _ (bkK hlt);have S:=JP hm hn (set.take j) (by rw[bkY];omega);have w:mA prices n (set.take (j+1))=(vX (mA prices n (set.take j)) (pA prices set[j])).got:=by rw[blO hlt,FZ]
  obtain⟨Y,-⟩:=df S (by rw[bkY];omega);have Q:=R.JH;generalize set[j]=d at *
  obtain⟨e,rfl⟩:∃e:Nat,d=e:=⟨d.toNat,by omega⟩;have u:e<Z' prices:=Om;have U:(e:Int)<(Z' prices:Nat):=hd.2;have Z:(prices.map RF.cells)[e]?=some (prices[e]).cells:=by simp[u]
  have β:pA prices e=(prices[e]).v:=by unfold pA;simp[blB,u]
  have p:=Lb.Mu (FV.rf (mA prices n (set.take j))) prices[e] Y (hp _ (bkK u));rw[FV.xH,<-β,zA,<-w]at p;generalize mA prices n (set.take j)=c at *
  generalize W:mA prices n (set.take (j+1))=c' at *
  simp only[go_sem,l,Cf,V,bkG];refine bP .nil (stS 278 (.tup [.agg c'.rf.cells,.int .i64 (vX c (pA prices e)).err]) .aK) a_ ?_;simp only[go_sem,Cg,Q,U,bkG,Z];refine bK rfl p Sq a_ ?_;simp only[go_sem,Q];refine⟨a_,?_⟩;simp only[go_sem,Ch,wZz j];refine aG (j+1,_) ⟨hlt,?_⟩ (by simp only;omega) Lq b_;show aR _ (B++[(i,.rows 3 [(FV.rf (mA prices n (set.take (j+1)))).cells])]) [];rw[W];exact R.SO _
 ·have l:¬(j:Int)<(Z' set:Nat):=Om;have:j=Z' set:=Om;subst this;rw[blE]at R;simp only[go_sem,l];exact Up.up Lq (hK _ R)
def muS:Spec:=λname vs=>match name,vs with
 |121,[x,y]=>some ([],λ_=>aF (aN (aM (val (kN x)*val (kN y)))))
 |120,[.bool n,x,y]=>some ([],λ_=>aF (CR n (val (kN x)) (val (kN y))))
 |_,_=>none
theorem S8(a b:List Nat):muS 121 [aN a,aN b]=some ([],λ_=>aF (aN (aM (val a*val b)))):=by
 show some _=_;rw[eX,eX]
theorem a5S(n:Bool)(a b:List Nat):muS 120 [.bool n,aN a,aN b]=some ([],λ_=>aF (CR n (val a) (val b))):=by
 show some _=_;rw[eX,eX]
theorem a4F(L:LS C)(x y:RF)(R:x.Ok)(S:y.Ok):d6.wp C (aX aXD.res (cI (frV (qZ x.v y.v)))) (g_ [.agg x.cells,.agg y.cells]) .nil:=by
 obtain⟨F,a1,b1⟩:=x;obtain⟨H,a2,b2⟩:=y;obtain⟨d,l,w,B⟩:=R;obtain⟨i,u,A,E⟩:=S;simp only at d l w B i u A E;have M:frV (qZ (RF.v ⟨F,a1,b1⟩) (RF.v ⟨H,a2,b2⟩))=if cB (val a1) (val b1)&&cB (val a2) (val b2)then CR (F != H) (val a1*val a2) (val b1*val b2)else GP 1:=by
  show frV (if cB (val a1) (val b1)&&cB (val a2) (val b2)then _ else _)=_;split
  ·rw[SB]
  ·rfl
 rw[M];simp only[go_sem,d6,axR,aXD];refine aP λo ho=>?_;simp only[go_sem,axS];refine aB (L.valid F a1 b1 d l w B) Ev ?_;cases O:cB (val a1) (val b1)with
 |false =>simp only[go_sem,bkW,Ms,bkP];exact gS Sq
 |true=>
  obtain⟨U,V,W⟩:=eK.1 O;simp only[go_sem,bkO];refine aB (L.valid H a2 b2 i u A E) Ev ?_;cases Q:cB (val a2) (val b2)with
  |false =>simp only[go_sem,bkW,Ms,blR];exact gS Sq
  |true =>obtain⟨X,Y,Z⟩:=eK.1 Q;simp only[go_sem,bkO,bmO];refine bP .nil muS a_ ?_;simp only[go_sem,axT];refine bK (S8 a1 a2) (L.times a1 a2 d i w A Om Om) Ev a_ ?_;simp only[go_sem];refine bK (S8 b1 b2) (L.times b1 b2 l u B E Om Om) Ev a_ ?_;simp only[go_sem];have m1:=kZ W Z;have m2:=kZ V Y;have J:=L.lowest (F != H) (aM (val a1*val a2)) (aM (val b1*val b2)) (aY _) (aY _) (by rw[bE];omega) (by rw[bE];omega) (by rw[aW];omega) (by rw[aW];omega) (by rw[aW];exact Nat.mul_ne_zero U X);have K:=a5S (F != H) (aM (val a1*val a2)) (aM (val b1*val b2));rw[aW,aW]at J K;obtain⟨m,p,q,e,N⟩:=xh (F != H) (val a1*val a2) (val b1*val b2);rw[N]at J K ⊢;refine bK K J Ev a_ ?_;simp only[go_sem];refine bP .nil eJ a_ ?_;simp only[go_sem,axU];refine⟨a_,?_⟩;exact bG (.inr rfl) .nil (by simp only[go_sem];rfl) a_ ⟨.refl _,rfl⟩
theorem Br(L:zW C)(n:Nat)(i:n<=9223372036854775807):JN.wp C (aX Mi.res (aF (.agg (FV.rf (false,n,1)).cells))) (g_ [.int .i64 (n:Nat)]) .nil:=by
 have h:=L.frac n 1 (by unfold dJ;omega) aU;rw[So i]at h;generalize FV.rf (false,n,1)=y at *
 simp only[go_sem,JN,Bs,Mi];refine aP λo p=>?_;simp only[go_sem,Bt];refine aB h Ev ?_;simp only[go_sem];refine aP λo2 d=>?_;have l:¬o=o2:=λe=>by rw[<-e,cW]at d;cases d
 simp only[go_sem,Bu,l];refine aT (.inr rfl) Ev ?_;rfl
theorem aPJ(L:zW C)(x:RF)(B:x.Ok):OE.wp C (aX acH.res (aF (.bool (dZ x)))) (g_ [.agg x.cells]) .nil:=by
 have p:=L.red x B;have l:dZ x=match mY x with | .ok (_,a,b)=>decide (nl a<=2)&&decide (nl b<=2) | .error _=>false:=rfl
 simp only[go_sem,OE,Qw,acH,Qx];refine aB p Sq ?_;cases u:mY x with
 |error e =>have w:=KR u;rw[u]at l;simp only at l;rw[l];simp only[go_sem,frV];refine aP λo A=>?_;simp only[go_sem,de,bL w];refine aT (.inr rfl) Ev ?_;rfl
 |ok r=>
  obtain⟨n,a,b⟩:=r;rw[u]at l;simp only at l;rw[l];have E:=kJ a 2;have F:=kJ b 2;have d:=Ob u;simp only[go_sem,frV];refine aP λo A=>?_;simp only[go_sem,de];refine aB (L.bits (aM a) d.1 d.2.2.1) Sq ?_;simp only[go_sem,aW];by_cases y:nl a<=2
  ·have i:((dC a:Nat):Int)<=64:=Om;simp only[go_sem,i];refine aB (L.bits (aM b) d.2.1 d.2.2.2) Sq ?_;simp only[go_sem,aW];refine aT (.inr rfl) Ev ?_;rw[bN,aV y,bkR,decide_eq_decide.2 (Om:((dC b:Nat):Int)<=64↔nl b<=2)]
  ·have i:¬((dC a:Nat):Int)<=64:=Om;simp only[go_sem,i];refine aT (.inr rfl) Ev ?_;rw[bN,bC y,bkP]
theorem aIV(short:∀x:RF,x.Ok->aH C 348 [.agg x.cells] .nil (aF (.bool (dZ x))))(l:List RF)(A:∀x∈l,x.Ok)(w:Z' l<=9223372036854775807)(n:Nat) :
  JT.wp C (aX Ml.res (aF (.bool (fB l n)))) (g_ [frs l,.int .i64 (n:Nat)]) .nil:=by
 simp only[go_sem,JT,Cv,Ml,Cw,bkG];refine wp_loop (α:=Nat) (λk=>(((((n_.set 0 (frs l)).set 1 (.int .i64 (n:Nat))).set 7 (frs l)).set 8 (.int .i64 (Z' l:Nat))).set 9 (.int .i64 k))) (λ_=>.nil) (λk=>k<=Z' l/\∀x∈l.take k,dZ x=true) (λk=>Z' l-k) 0 ⟨bkL _,λx h=>by cases h⟩ Lq a_ ?_;rintro k ⟨H,d⟩;have d:(l.take k).all dZ=true:=bkS.2 d;simp only[go_sem,Cu,Cx];by_cases hlt:k<Z' l
 ·have i:(k:Int)<(Z' l:Nat):=Om;have E:(l.map RF.cells)[k]?=some (l[k]).cells:=by simp[hlt]
  have F:=short l[k] (A _ (bkK hlt));have p:(l.take (k+1)).all dZ=((l.take k).all dZ&&dZ l[k]):=by rw[blO hlt,bnX];simp
  rw[d,bkR]at p;have u:dZ l[k]=false->fB l n=false:=λe=>by
   have:l.all dZ=false:=by
    cases e2:l.all dZ with
    |false=>rfl
    |true=>rw[bkS.1 e2 _ (bkK hlt)]at e;cases e
   rw[fB,this,bkP]
  generalize l[k]=x at *
  simp only[go_sem,i,Cy,E];refine aP λo J=>?_;simp only[go_sem,Cz];refine aB F Sq ?_;cases y:dZ x with
  |true =>simp only[go_sem,bkO,C1,wZz k];exact aG (k+1) ⟨hlt,bkS.1 (p.trans y)⟩ Om Lq a_
  |false =>simp only[go_sem,bkW,C0];exact dR Sq (u y).symm
 ·have i:¬(k:Int)<(Z' l:Nat):=Om;have:k=Z' l:=Om;subst this;rw[blE]at d;have B:((Z' l:Int)==(n:Nat))=decide (Z' l=n):=by
   by_cases c:Z' l=n
   ·rw[bW Om,aV c]
   ·rw[bL Om,bC c]
  simp only[go_sem,i,C2,bkG,B];refine dR (b:=decide (Z' l=n)) Sq ?_;rw[fB,d,bkR]
def plS(y:RF)(r:PV):Spec:=λname _=>if name=336 then some ([],λ_=>aF (.agg y.cells))else some ([],λ_=>aF r)
theorem aWD(L:zW C)(number:∀n:Nat,n<=9223372036854775807->aH C 336 [.int .i64 (n:Nat)] .nil (aF (.agg (FV.rf (false,n,1)).cells)))
  (mul:∀x y:RF,x.Ok->y.Ok->aH C 349 [.agg x.cells,.agg y.cells] .nil (aF (frV (qZ x.v y.v)))) (s x:RF) (K:s.Ok) (M:x.Ok) (n:Nat) (H:n<=9223372036854775807) :
  TG.wp C (aX aIS.res (aF (.agg (yC s.v x.v n).rf.cells))) (g_ [.agg s.cells,.agg x.cells,.int .i64 (n:Nat)]) .nil:=by
 have B:=number n H;have N:(FV.rf (false,n,1)).Ok:=by
  have B:nl n<=2:=lE Om;refine⟨aY _,aY _,?_,?_⟩
  ·show(aM n).length<=_;rw[bE];omega
  ·show(aM 1).length<=_;rw[nS];simp
 have E:=mul x (FV.rf (false,n,1)) M N;rw[FV.xH,zA]at E;have F:=L.plus s _ K (aRA x.v (false,n,1));rw[FV.xH,zA]at F;unfold yC;generalize(gJ s.v (qZ x.v (false,n,1)).got).got=z at *
 generalize(gJ s.v (qZ x.v (false,n,1)).got).err=R at *
 generalize(qZ x.v (false,n,1)).got=w at *
 generalize(qZ x.v (false,n,1)).err=Q at *
 generalize FV.rf (false,n,1)=y at *
 simp only[go_sem,TG,abG,aIS];refine aP λA J=>?_;simp only[go_sem];refine aP λo6 i=>?_;have l:¬A=o6:=λe=>by rw[<-e,cW]at i;cases i
 simp only[go_sem];refine bP .nil (plS y (.tup [.agg w.rf.cells,.int .i64 Q])) a_ ?_;simp only[go_sem,abH];refine bK rfl B Sq a_ ?_;simp only[go_sem];refine bK rfl E Sq a_ ?_;simp only[go_sem];refine aP λo7 d=>?_;rw[kP,kP]at d;have p:¬o6=o7:=λe=>d.1 e.symm;have u:¬A=o7:=λe=>d.2.1 e.symm;simp only[go_sem,l,p,u];refine⟨a_,?_⟩;simp only[go_sem,abI,l,p,u];refine aB F (by simp only[go_sem,l,p,u]) ?_;have O:¬o6=A:=λe=>l e.symm;simp only[go_sem,abJ,l,p,u,O];refine aT (.inr rfl) Ev ?_;rfl
theorem atP(f:aE)(hV:VF f)(hp:Z' f.biZ<=1000000)(hv:Z' f.biX<=1000000) :
  FJ.wp C (aX vp.res (cI (ints (sR f)))) (g_ [.agg f.cells]) .nil:=by
 have H:(Z' f.biZ:Int)*((8:Nat):Int)<=140737488355328:=Om;have J:(Z' f.biZ:Int)<=9223372036854775807:=Om;have E:∀v (h:v<Z' f.biX),∃d:Nat,(f.biX[v]).bjH=(d:Int)/\d<Z' f.biZ:=λv h=>by obtain⟨Y,Q⟩:=hV.volume v h;refine⟨BB f v,?_,Q⟩;unfold BB;simp only[blB,blC,bkT h,blJ,bnG];omega
 unfold sR;simp only[go_sem,FJ,n8,n9,vp,bkG,H,J];refine aP λo Z=>?_;simp only[go_sem,oa,bkG];generalize f.biZ.length=n at *
 generalize f.biX=vs at *
 generalize F:f.cells=X at *
 refine wp_loop (α:=Nat) (λi=>((((n_.set 3 (.osl o 1 0 n)).set 11 (.sl 2 (vs.map eI.cells))).set 12 (.int .i64 (Z' vs:Nat))).set 13 (.int .i64 i))) (λi=>h_.set o (.rows 1 (bF (sQ n ((vs.map eI.bjH).take i))))) (λi=>i<=Z' vs) (λi=>Z' vs-i) 0 (bkL _) ?_ ?_ ?_
 ·exact Lq
 ·refine e_ a_ ?_;simp only[go_sem,List.take_zero];rw[abF,xO]
 intro i hi;simp only[go_sem,n6,oc];by_cases hlt:i<Z' vs
 ·have p:(i:Int)<(Z' vs:Nat):=Om;have U:(vs.map eI.cells)[i]?=some (vs[i]).cells:=by simp[hlt]
  obtain⟨d,N,u⟩:=E i hlt;have K:(vs.map eI.bjH).take (i+1)=(vs.map eI.bjH).take i++[((d:Nat):Int)]:=by rw[blO (by simpa using hlt),blX,N]
  generalize vs[i]=x at *
  have w:=xd (l:=sQ n ((vs.map eI.bjH).take i)) (i:=d) (by rw[qF];exact u);rw[awE _ u]at w;have R:((vs.map eI.bjH).take i).count (d:Int)<=1000000:=by refine blH (List.count_le_length ..) ?_;rw[bkY,bkG];omega
  have A:=awF ((vs.map eI.bjH).take i) u;rw[<-K]at A;have W:i_.wrap (((((vs.map eI.bjH).take i).count (d:Int):Nat):Int)+1)=((((vs.map eI.bjH).take i).count (d:Int):Nat):Int)+1:=wrap_i64 Om Om;have y:(d:Int)<(n:Nat):=Om;have S:(d:Int)>=0:=Om;simp only[go_sem,p,oe,U];refine aP λo2 B=>?_;have M:¬o=o2:=λe=>by rw[<-e,cW]at B;cases B
  have O:¬o2=o:=λe=>M e.symm;simp only[go_sem,og,N,M,O,blG,w,W,oi,vI,A,y,wZz i];refine aG (i+1) hlt Om Lq (e_ a_ ?_);simp only[go_sem,M,O]
 ·have p:¬(i:Int)<(Z' vs:Nat):=Om;have:i=Z' vs:=Om;subst this;have V:(vs.map eI.bjH).take vs.length=vs.map eI.bjH:=by rw[bkZ bH]
  simp only[go_sem,p,oj,V];refine zb (.inr rfl) (o:=o) (s:=1) (k:=n) (rs:=bF (sQ n (vs.map eI.bjH))) Sq Sq (by rw[dK,qF];omega) ⟨?_,rfl⟩;rw[Ek,bkZ (by rw[dK,qF];omega)];exact .refl _
theorem Qy:∀{xs:List FV}{ns:List Nat}(s x:FV)(n:Nat),Z' xs=Z' ns->kK s (xs++[x]) (ns++[n])=yC (kK s xs ns) x n
 |[],[],s,x,n,_=>rfl
 |y::xs,m::ns,s,x,n,h=>by simp only[List.cons_append,kK];exact Qy _ x n (by simpa using h)
 |[],_::_,_,_,_,h=>by simp at h
 |_::_,[],_,_,_,h=>by simp at h
theorem Qz{xs:List FV}{ns:List Nat}(s:FV){k:Nat}(d:k<Z' xs)(e:k<Z' ns):kK s (xs.take (k+1)) (ns.take (k+1))=yC (kK s (xs.take k) (ns.take k)) xs[k] ns[k]:=by
 rw[blO d,blO e];exact Qy s _ _ (by rw[bkY,bkY];omega)
theorem CH:∀{xs:List FV}{ns:List Nat}{s:FV},s.rf.Ok->(kK s xs ns).rf.Ok
 |[],_,s,h=>by cases ‹List Nat›<;>exact h
 |x::xs,[],s,h=>h
 |x::xs,n::ns,s,h=>by show(kK (yC s x n) xs ns).rf.Ok;exact CH (s:=yC s x n) (a6O s x n)
theorem ii(n:Nat)(e:n<=9223372036854775807):(FV.rf (false,n,1)).Ok:=by
 have d:nl n<=2:=lE Om;refine⟨aY _,aY _,?_,?_⟩
 ·show(aM n).length<=_;rw[bE];omega
 ·show(aM 1).length<=_;rw[nS];simp
structure aHS(C:Ctx):Prop where
 vald:∀f:aE,f.Ok->aH C 96 [.agg f.cells] .nil (aF (.int .i64 (uP f)))
 prices:∀(l:List RF),(∀x∈l,x.Ok)->Z' l<=9223372036854775807->∀n:Nat,aH C 335 [frs l,.int .i64 (n:Nat)] .nil (aF (.bool (fB l n)))
 number:∀n:Nat,n<=9223372036854775807->aH C 336 [.int .i64 (n:Nat)] .nil (aF (.agg (FV.rf (false,n,1)).cells))
 demands:∀f:aE,VF f->Z' f.biZ<=1000000->Z' f.biX<=1000000->aH C 337 [.agg f.cells] .nil (aF (ints (sR f)))
 plus:∀s x:RF,s.Ok->x.Ok->∀n:Nat,n<=9223372036854775807->aH C 338 [.agg s.cells,.agg x.cells,.int .i64 (n:Nat)] .nil (aF (.agg (yC s.v x.v n).rf.cells))
 room:∀(f:aE)(room:List Int),f.Ok->aH C 152 [.agg f.cells,ints room] .nil (aF (ints (rW f room)))
def vh(l:List Int):Prop:=∀x∈l,0<=x/\x<=9223372036854775807
theorem Mm(f:aE)(i:Z' f.biX<=1000000):vh (sR f):=by
 intro x e;unfold sR sQ at e;obtain⟨d,-,rfl⟩:=blF.1 e;have:((f.biX.map eI.bjH).count (d:Int))<=Z' f.biX:=by refine blH (List.count_le_length ..) ?_;rw[bkG];exact bkN _
 omega
theorem aPB(L:aHS C)(f:aE)(hf:f.Ok)(room:List Int)(a b:List RF)(ha:∀x∈a,x.Ok)(hb:∀x∈b,x.Ok)(la:Z' a<=9223372036854775807)(lb:Z' b<=9223372036854775807)
  (M:cQ f=true->vh (rW f room)/\(rW f room).length=Z' f.biV) (ε:cQ f=true->Z' f.biZ<=1000000/\Z' f.biX<=1000000) :
  OA.wp C (aX aaU.res (cI (AD f room a b))) (g_ [.agg f.cells,ints room,frs a,frs b]) .nil:=by
 have k1:=L.vald f hf;have k2:=L.prices a ha la f.biZ.length;have k3:=L.prices b hb lb f.biV.length;have hB:AD f room a b=if uA f a b then .tup [.agg (RQ f room a b).rf.cells,.int .i64 0]else .tup [.agg (fC false [] []),.int .i64 1]:=rfl
 have i:uA f a b=(cQ f&&(fB a f.biZ.length&&fB b f.biV.length)):=rfl;have y:uA f a b=false->∀{F:PF}{o:Nat}{H:PH},F 8=some (.ptr o 3 0 0)->H o=some (.rows 3 [[.bool false,.aK,.aK]])->F 9=some (.int .i64 1)->aX [.cell 8 (some 3),.tmp 9] (cI (AD f room a b)) .ret F H:=by intro e F o H h8 ho h9;rw[hB,e];exact gS (e:=1) (by simp only[go_sem,h8,ho,h9])
 simp only[go_sem,OA,Pu,aaU];refine aP λo8 θ=>?_;simp only[go_sem,Pv];refine aB k1 Sq ?_;cases hp:cQ f with
 |false =>rw[hp,bkP]at i;simp only[go_sem,J7 hp,dP (show(1:Int)≠0 by decide),MA];exact y i (o:=o8) Sq Sq Sq
 |true=>
  have ζ:uP f=0:=by rw[uP,hp];rfl
  have hV:=VF.of hp;obtain⟨δ,U⟩:=ε hp;obtain⟨γ,S⟩:=M hp;have k4:=L.demands f hV δ U;have k5:=L.room f room hf;have Z:=Mm f U;have Q:(sR f).length=Z' f.biZ:=qF _ _;rw[hp,bkR]at i;simp only[go_sem,ζ,cF (show(0:Int)=0 from rfl),bkG];refine aB k2 Sq ?_;cases V:fB a f.biZ.length with
  |false =>rw[V,bkP]at i;simp only[go_sem,bkW,MA];exact y i (o:=o8) Sq Sq Sq
  |true=>
   rw[V,bkR]at i;simp only[go_sem,bkO,bkG];refine aB k3 Sq ?_;cases W:fB b f.biV.length with
   |false =>rw[W]at i;simp only[go_sem,bkW,MA];exact y i (o:=o8) Sq Sq Sq
   |true=>
    rw[W]at i;rw[i,aI rfl]at hB;have l2:Z' a=Z' f.biZ:=by simp only[fB,bkI,dT_]at V;exact V.2
    have l3:Z' b=Z' f.biV:=by simp only[fB,bkI,dT_]at W;exact W.2
    rw[<-l2]at Q;rw[<-l3]at S;have k6:aH C 336 [.int .i64 0] .nil (aF (.agg (FV.rf (false,0,1)).cells)):=L.number 0 aU;rw[hB];unfold RQ;generalize sR f=ns at *
    generalize rW f room=rs at *
    have A:=L.plus;have O:=ii 0 aU;have w:∀(l:List RF),(∀x∈l,x.Ok)->∀(ms:List Int),vh ms->Z' ms=Z' l->∀(s:FV),s.rf.Ok->∀k,k<Z' l->∃x m,(l.map RF.cells)[k]?=some (RF.cells x)/\(ms.map λn=>[PV.int .i64 n])[k]?=some [.int .i64 m] /\
      aH C 338 [.agg (kK s ((l.map RF.v).take k) ((ms.map blS).take k)).rf.cells,.agg x.cells,.int .i64 m] .nil (aF (.agg (kK s ((l.map RF.v).take (k+1)) ((ms.map blS).take (k+1))).rf.cells)):=by
     intro l hl ms β η s hs k R;have J:k<Z' ms:=Om;obtain⟨g1,g2⟩:=β _ (bkK J);refine⟨l[k],ms[k],by simp[R],by simp[J],?_⟩;have h:=A (kK s ((l.map RF.v).take k) ((ms.map blS).take k)).rf l[k] (CH hs) (hl _ (bkK R)) ms[k].toNat Om;rw[Int.toNat_of_nonneg g1,FV.xH]at h;rw[Qz s (by simpa using R) (by simpa using J),blX,blX];exact h
    have hA:=w a ha ns Z Q (false,0,1) O;have Y:=w b hb rs γ S (kK (false,0,1) (a.map RF.v) (ns.map blS)) (CH O);clear w A;simp only[go_sem,bkO,Pw];refine aB k6 Sq ?_;simp only[go_sem];refine aP λp E=>?_;have u:¬o8=p:=λe=>by rw[<-e,cW]at E;cases E
    have B:¬p=o8:=λe=>u e.symm;simp only[go_sem,Px];refine aB k4 Sq ?_;simp only[go_sem,bkG];refine wp_loop (α:=Nat) (λk=>(((((((((n_.set 1 (ints room)).set 2 (frs a)).set 3 (frs b)).set 4 (.bO f.cells)).set 8 (.ptr o8 3 0 0)).set 10 (.ptr p 3 0 0)).set 37 (ints ns)).set 38 (.int .i64 (Z' ns:Nat))).set 39 (.int .i64 k)))
     (λk=>(h_.set o8 (.rows 3 [[.bool false,.aK,.aK]])).set p (.rows 3 [(kK (false,0,1) ((a.map RF.v).take k) ((ns.map blS).take k)).rf.cells])) (λk=>k<=Z' ns) (λk=>Z' ns-k) 0 (bkL _) ?_ ?_ ?_
    ·exact Lq
    ·refine e_ (e_ a_ (by simp only[go_sem,u])) ?_;simp only[go_sem,List.take_zero];rfl
    intro k R;simp only[go_sem,Pt,Py];by_cases hlt:k<Z' ns
    ·have d:(k:Int)<(Z' ns:Nat):=Om;obtain⟨x,m,X,e2,N⟩:=hA k Om;generalize hz:kK (false,0,1) ((a.map RF.v).take (k+1)) ((ns.map blS).take (k+1))=z at N;simp only[go_sem,d,Pz,e2];refine bP .nil (λ_ _=>some ([],λ_=>aF (.agg z.rf.cells))) a_ ?_;simp only[go_sem,P0,X];refine bK rfl N Sq a_ ?_;simp only[go_sem,u,B];refine⟨a_,?_⟩;simp only[go_sem,P1,wZz k];refine aG (k+1) hlt Om Lq (e_ (e_ a_ (by simp only[go_sem,u,B])) ?_);rw[hz];simp only[go_sem,u,B]
    ·have d:¬(k:Int)<(Z' ns:Nat):=Om;have K:k=Z' ns:=Om;subst K;have t1:(a.map RF.v).take ns.length=a.map RF.v:=by rw[bkZ (by rw[bkG];omega)]
     have t2:(ns.map blS).take ns.length=ns.map blS:=by rw[bkZ (by rw[bkG];exact bkN _)]
     rw[t1,t2];generalize kK (false,0,1) (a.map RF.v) (ns.map blS)=s1 at *
     simp only[go_sem,d,A7];refine aB k5 Sq ?_;simp only[go_sem,bkG];refine wp_loop (α:=Nat) (λk=>((((((n_.set 3 (frs b)).set 8 (.ptr o8 3 0 0)).set 10 (.ptr p 3 0 0)).set 54 (ints rs)).set 55 (.int .i64 (Z' rs:Nat))).set 56 (.int .i64 k)))
      (λk=>(h_.set o8 (.rows 3 [[.bool false,.aK,.aK]])).set p (.rows 3 [(kK s1 ((b.map RF.v).take k) ((rs.map blS).take k)).rf.cells])) (λk=>k<=Z' rs) (λk=>Z' rs-k) 0 (bkL _) ?_ ?_ ?_
     ·exact Lq
     ·refine e_ (e_ a_ (by simp only[go_sem,u,B])) ?_;simp only[go_sem,List.take_zero,u,B];rfl
     intro k R;simp only[go_sem,A6,A8];by_cases hlt:k<Z' rs
     ·have d:(k:Int)<(Z' rs:Nat):=Om;obtain⟨x,m,X,e2,N⟩:=Y k Om;generalize hz:kK s1 ((b.map RF.v).take (k+1)) ((rs.map blS).take (k+1))=z at N;simp only[go_sem,d,A9,e2];refine bP .nil (λ_ _=>some ([],λ_=>aF (.agg z.rf.cells))) a_ ?_;simp only[go_sem,Ba,X];refine bK rfl N Sq a_ ?_;simp only[go_sem,u,B];refine⟨a_,?_⟩;simp only[go_sem,Bb,wZz k];refine aG (k+1) hlt Om Lq (e_ (e_ a_ (by simp only[go_sem,u,B])) ?_);rw[hz];simp only[go_sem,u,B]
     ·have d:¬(k:Int)<(Z' rs:Nat):=Om;have K:k=Z' rs:=Om;subst K;have t3:(b.map RF.v).take rs.length=b.map RF.v:=by rw[bkZ (by rw[bkG];omega)]
      have t4:(rs.map blS).take rs.length=rs.map blS:=by rw[bkZ (by rw[bkG];exact bkN _)]
      rw[t3,t4];simp only[go_sem,d,Bc,u,B];exact bG (.inr rfl) .nil (by simp only[go_sem,u,B];rfl) a_ ⟨.refl _,rfl⟩
def CF(x y:FV):Int:=if cB x.2.1 x.2.2&&cB y.2.1 y.2.2 then sW x.1 x.2.1 x.2.2 y.1 y.2.1 y.2.2 else 0
theorem aXA(x y:FV):wJ x.1 x.2.1 x.2.2 y.1 y.2.1 y.2.2=.tup [.int .i64 (CF x y),.int .i64 (if cB x.2.1 x.2.2&&cB y.2.1 y.2.2 then 0 else 1)]:=by
 unfold wJ CF;split<;>rfl
def qJ(f:aE)(bjH lv cnt:Int)(b:List RF):FV:=(uD f bjH lv cnt b).elim (false,0,0) (mC f bjH lv cnt b)
theorem T7(f:aE)(bjH lv cnt:Int)(b:List RF):sX f bjH lv cnt b=.tup [ints ((uD f bjH lv cnt b).getD []),.agg (qJ f bjH lv cnt b).rf.cells,.int .i64 (mL f bjH lv cnt b)]:=by
 unfold sX qJ;cases uD f bjH lv cnt b<;>rfl
theorem awG(b:List RF)(n:Nat)(i:n<=9223372036854775807)(l:List Int):(mA b n l).rf.Ok:=by
 obtain⟨r,rfl⟩:∃r,l=List.reverse r:=⟨l.reverse,by simp⟩;cases r with
 |nil=>
  have e:nl n<=2:=lE Om;refine⟨aY _,aY _,?_,?_⟩
  ·show(aM n).length<=_;rw[bE];omega
  ·show(aM 1).length<=_;rw[nS];simp
 |cons d r =>rw[List.reverse_cons,FZ];exact aOS _ _
theorem M7(sc:List (List Int))(set:List Int)(m:Int):lG sc set m<=Z' sc:=by
 unfold lG;exact boO ..
def rO(y:RF):Bool:=!decide (CF y.v (false,0,1)>0)
def yP(f:aE)(lv cnt:Int)(a b:List RF)(p:Nat):Bool:=decide ((sR f).getD p 0=0)||!(decide (mL f p lv cnt b=0)&&decide (CF (qJ f p lv cnt b) ((a.map RF.v).getD p (false,0,1))<0))
def rE(f:aE)(lv cnt:Int)(a b:List RF):Bool:=
 (decide (eZ f lv cnt=0)&&(fB a f.biZ.length&&fB b f.biV.length))&&(b.all rO&&(bkH f.biZ.length).all (yP f lv cnt a b))
def eW:=bR [4,5] Proofs.Tryz.f9
def Cl:=aA eW 0
def Cm:=aA eW 1
def TN:=aA eW 2
def GC:=aA eW 3
def Cn:=aA eW 4
def Cp:=aA eW 5
def Cq:=aA eW 6
def Cr:=cN eW 0
def Cs:=aA eW 7
def Ct:=aA eW 8
def ov:=aA eW 9
def ot:aC:=(fP Cp 49 0 ov (sq Cq (dq Cr (sq Cs (.cond (Tm 59) (sq Ct .ret) .skip)))))
def ow:=aA eW 10
def oz:=aA eW 11
def pd:=aA eW 12
def pi:=aA eW 13
def pj:=aA eW 14
def pn:=cN eW 1
def po:=aA eW 15
def pq:=aA eW 16
def DP:=aA eW 17
def ou:aC:=(fP oz 65 2 DP (sq pd (hL pi 70 (.exit 3) (sq pj (dq pn (sq po (.cond (Tm 94) (sq pq .ret) .skip)))))))
def pt:=aA eW 18
def JS:aC:=(sq Cl (.seq (sq Cm (sq TN (.cond (Tm 45) (sq GC .ret) .skip))) (.seq (cD Cn 0 ot) (.seq (cD ow 2 ou) (sq pt .ret)))))
def Mk:bB:=⟨4,96,JS,[.tmp 8]⟩

noncomputable def aNF:aE:=(kO [] 1 0 0).1

theorem avA(n k a:Nat)(h:a<n):dT n (k+1) a=(dT n k (a+1)).map (a::·)++dT n (k+1) (a+1):=by
 rw[dT];by_cases c:n-k-a=0
 ·have d:n-k-(a+1)=0:=Om;rw[dT,c,d];have:dT n k (a+1)=[]:=by
   cases k with
   |zero=>omega
   |succ k=>rw[dT,show n-k-(a+1)=0 by omega];rfl
  rw[this];rfl
 ·obtain⟨m,e⟩:∃m,n-k-a=m+1:=⟨n-k-a-1,by omega⟩;rw[dT,e,List.range'_succ,List.flatMap_cons,show n-k-(a+1)=m by omega]
def Grow(P:List Nat->Bool):Prop:=∀s t:List Nat,(∀x∈s,x∈t)->P s=true->P t=true
theorem Grow.cons{P:List Nat->Bool}(h:Grow P)(a:Nat):Grow λs=>P (a::s):=λs t d l=>
 h (a::s) (a::t) (λx i=>(bkX.1 i).elim (λe=>e ▸ List.mem_cons_self) λi=>List.mem_cons_of_mem _ (d x i)) l
def mI(n k a:Nat)(P:List Nat->Bool):Nat:=(dT n k a).countP P
theorem JM(n k a:Nat)(h:a<n)(P:List Nat->Bool):mI n (k+1) a P=mI n k (a+1) (λs=>P (a::s))+mI n (k+1) (a+1) P:=by
 unfold mI;rw[avA n k a h,List.countP_append,List.countP_map];rfl
theorem aPF(n k a:Nat){P Q:List Nat->Bool}(h:∀s,P s=true->Q s=true):mI n k a P<=mI n k a Q:=List.countP_mono_left λs _ d=>h s d
theorem OC(n a:Nat)(P:List Nat->Bool):mI n 0 a P=if P []then 1 else 0:=by
 unfold mI;rw[dT,List.countP_cons,List.countP_nil,blG]
theorem TE(n:Nat):∀(m k a:Nat)(P:List Nat->Bool),Grow P->a+m=n->(m-k)*mI n k a P<=(k+1)*mI n (k+1) a P
 |0,k,a,P,_,_=>by rw[Nat.zero_sub,Nat.zero_mul];exact bkL _
 |m+1,0,a,P,d,h=>by
  rw[JM n 0 a Om,OC,OC];have i:=TE n m 0 (a+1) P d Om;rw[OC]at i;cases hp:P []with
  |false=>rw[aD bH];omega
  |true =>have l:P [a]=true:=d [] [a] (λx e=>by cases e) hp;rw[aI hp]at i;rw[aI rfl,aI l];omega
 |m+1,k+1,a,P,d,h=>by
  have A:=TE n m (k+1) (a+1) P d Om;have B:=TE n m k (a+1) (λs=>P (a::s)) (d.cons a) Om;have p:=aPF n (k+1) (a+1) (P:=P) (Q:=λs=>P (a::s)) λs u=>d s (a::s) (λx e=>List.mem_cons_of_mem _ e) u;rw[JM n k a Om,JM n (k+1) a Om];generalize mI n (k+1) (a+1) P=x at *
  generalize mI n (k+1+1) (a+1) P=y at *
  generalize mI n k (a+1) (λs=>P (a::s))=z at *
  generalize mI n (k+1) (a+1) (λs=>P (a::s))=w at *
  rw[show m+1-(k+1)=m-k by omega,blA,blA];have E:(m-k)*x<=(m-(k+1))*x+x:=by
   rcases blI k m with c|c
   ·rw[show m-k=(m-(k+1))+1 by omega,bnS];exact bkN _
   ·rw[show m-k=0 by omega,Nat.zero_mul];exact bkL _
  have e2:(k+1+1)*w=(k+1)*w+w:=bnS _ _;omega
theorem aWB{n k:Nat}{P:List Nat->Bool}(i:Grow P)(h:2*k+1<=n):mI n k 0 P<=mI n (k+1) 0 P:=by
 have d:=TE n n k 0 P i Om;have e:(k+1)*mI n k 0 P<=(n-k)*mI n k 0 P:=blU _ Om;exact Nat.le_of_mul_le_mul_left (blH e d) Om
theorem ahS(f:aE)(u:List (List Int))(k:Nat)(set:List Int)(m:Int):lG (tV f u k) set m=mI u.length k 0 λs=>decide (((mO (cA ((bkH f.biV.length).filter (mU u s))) set:Nat):Int)>m):=by
 unfold lG tV mI;rw[List.countP_map];rfl
theorem aQT{f:aE}{u:List (List Int)}{k:Nat}{set:List Int}{m:Int}(h:2*k+1<=Z' u):lG (tV f u k) set m<=lG (tV f u (k+1)) set m:=by
 rw[ahS,ahS];refine aWB (λs t p y=>?_) h;have A:=of_decide_eq_true y;refine aV ?_;have:mO (cA ((bkH f.biV.length).filter (mU u s))) set<=mO (cA ((bkH f.biV.length).filter (mU u t))) set:=by unfold mO;refine List.countP_mono_left λd _ l=>?_;rw[List.contains_iff_mem]at l ⊢;unfold cA at l ⊢;rw[blF]at l ⊢;obtain⟨x,e,rfl⟩:=l;refine⟨x,?_,rfl⟩;rw[List.mem_filter]at e ⊢;refine⟨e.1,?_⟩;unfold mU at e ⊢;rw[List.any_eq_true]at e ⊢;obtain⟨-,i,hi,w⟩:=e;exact⟨i,p i hi,w⟩
 omega
def lvC(L:Int)(ds:List cY):Nat:=ds.countP λx=>decide (x.level=L)
theorem aYM(f:aE)(L:Int):((bkH f.biY.length).filter λi=>decide (lvl f i=L)).length=lvC L f.biY:=by
 rw[<-List.countP_eq_length_filter];unfold lvC lvl;have e:∀(ds:List cY),(bkH ds.length).countP (λi=>decide ((ds.map cY.level).getD i 0=L))=ds.countP λx=>decide (x.level=L):=by
  intro ds
  induction ds with
  |nil=>rfl
  |cons d ds l =>rw[bmB,List.range_succ_eq_map,List.countP_cons,List.countP_map,List.countP_cons,<-l];rfl
 exact e f.biY
theorem aaV:∀m:Fin 10,∀c:Fin 4,eQ (m.val:Int) c.val<=512:=by decide
theorem aTV(f:aE)(lv:Int):(iV f lv).length=if lv=5 then f.biV.length else lvC lv f.biY:=by
 unfold iV;split
 ·simp
 ·rw[bkG];exact aYM f lv
structure LX(f:aE):Prop where
 ok:f.Ok
 valid:cQ f=true
 biV:Z' f.biV<=9
 lv:∀L:Int,1<=L->L<=4->lvC L f.biY<=8
theorem LX.num{f:aE}(h:LX f){lv:Int}(d:1<=lv)(h5:lv<=5):(iV f lv).length<=9:=by
 rw[aTV];split
 ·exact h.biV
 ·have:=h.lv lv d Om;omega
theorem LX.tU{f:aE}(h:LX f){lv:Int}(d:1<=lv)(h5:lv<=5){c:Nat}(i:1<=c)(l:c<=3):eZ f lv c=0:=by
 have p:=h.num d h5;have e:=aaV ⟨(iV f lv).length,by omega⟩ ⟨c,by omega⟩;simp only at e;unfold eZ;rw[h.valid,aV d,aV h5,aV (Om:(1:Int)<=(c:Int)),aV (Om:(c:Int)<=3),bmV,bmV,bmV,bmV,aI rfl,bmI,aD];have:=h.biV;omega
theorem LX.all{f:aE}(h:LX f){p:Int}(e:kY f p=true):vC f p=0/\FI f p=gP f (dS f p):=by
 have d:vC f p=0:=by unfold vC;rw[e,aI rfl,aD];have:=h.biV;omega
 exact⟨d,by unfold FI;rw[aI d]⟩
theorem aVM{s:List Nat}{n top:Nat}(l:Z' s=n)(p:∀x∈s,x<top)(u:s.Pairwise (· < ·)):cd (cA s) n top=true:=by
 unfold cd;rw[fZ,l,aV rfl,bkR];simp only[bkS,blN];intro i hi;have d:i<Z' s:=Om;have g:(cA s).getD i 0=(s[i]:Nat):=by unfold cA;simp[blB,d]
 unfold lz;rw[g];have w:=p _ (bkK d);simp only[bkI,Bool.or_eq_true,dT_];refine⟨by omega,?_⟩;by_cases c:i=0
 ·exact .inl c
 ·right;have e:i-1<Z' s:=Om;have g2:(cA s).getD (i-1) 0=(s[i-1]:Nat):=by unfold cA;simp[blB,e]
  rw[g2];have:=List.pairwise_iff_getElem.1 u (i-1) i e d Om;omega
theorem a0N{f:aE}{p:Int}(d:kY f p=true){set:List Int}(h:set∈gP f (dS f p)):aVJ f p set=true/\Z' set<=8:=by
 obtain⟨hV,-⟩:=CQ d;have i:=hV.bjH _ (zE d).1;unfold gP at h;rw[List.mem_filter]at h;obtain⟨l,u⟩:=h;obtain⟨s,w,rfl⟩:=blF.1 l;obtain⟨k1,k2,A⟩:=qP _ _ _ _ w;have e:((jE (dS f p)).toNat:Int)=jE (dS f p):=by unfold jE;omega
 have:=aVM k1 (λx y=>(k2 x y).2) A;rw[e]at this;refine⟨by unfold aVJ;rw[d,this,u];rfl,?_⟩;rw[fZ,k1];unfold jE;omega
theorem LX.more{f:aE}(h:LX f){p:Int}(u:kY f p=true){lv:Int}(e:1<=lv)(h5:lv<=5){c:Nat}(l:1<=c)(y:c<=2)(w:2*c+1<=(iV f lv).length){set:List Int}(x:set∈gP f (dS f p)) :
  VN f p set lv c=0/\VN f p set lv ((c+1:Nat):Int)=0/\aKW f p set lv c<=aKW f p set lv ((c+1:Nat):Int):=by
 have s1:=h.tU e h5 l (Om:c<=3);have s2:=h.tU e h5 (Om:1<=c+1) (Om:c+1<=3);obtain⟨i,-⟩:=a0N u x;have d:VN f p set lv c=0:=by unfold VN;rw[s1,i];rfl
 have e2:VN f p set lv ((c+1:Nat):Int)=0:=by unfold VN;rw[s2,i];rfl
 refine⟨d,e2,?_⟩;unfold aKW fH;rw[aI d,aI e2,aI s1,aI s2,bmI,bmI];exact aQT w

def chT(n k a i:Nat):List (List Nat):=(bmR a (i-a)).flatMap λx=>(dT n k (x+1)).map (x::·)
theorem aVV(n k a:Nat):chT n k a a=[]:=by unfold chT;rw[bnF];rfl
theorem aVU(n k a:Nat){i:Nat}(h:a<=i):chT n k a (i+1)=chT n k a i++(dT n k (i+1)).map (i::·):=by
 unfold chT;rw[show i+1-a=(i-a)+1 by omega,List.range'_concat,List.flatMap_append,Nat.one_mul,show a+(i-a)=i by omega];simp
theorem aVT(n k a i:Nat)(h:i=a\/i<=n-k)(d:n<=i+k):chT n k a i=dT n (k+1) a:=by
 unfold chT;rw[dT,show i-a=n-k-a by omega]
theorem a8W(n k a:Nat){i:Nat}(h:a<=i)(l:i+k<n):(chT n k a (i+1)).length<=(dT n (k+1) a).length:=by
 obtain⟨d,e⟩:∃d,n-k-a=(i+1-a)+d:=⟨n-k-a-(i+1-a),by omega⟩;unfold chT;rw[dT,e,<-List.range'_append (s:=a) (m:=i+1-a) (n:=d) (step:=1),List.flatMap_append,bkQ];omega
def jU(l:List (List Nat)):List (List Int):=l.map cA
theorem ajW(a b:List (List Nat)):jU (a++b)=jU a++jU b:=blK
theorem Hb(k a n:Nat)(hk:k<=10)(ha:a<=1000)(hn:n<=40)(rec:∀E X:Nat,E<=1000->k=X+1->aH C 215 [.int .i64 E,.int .i64 n,.int .i64 X] .nil (aF (lay (jU (dT n X E))))) :
  BE.wp C (aX na.res (cI (lay (jU (dT n k a))))) (g_ [.int .i64 a,.int .i64 n,.int .i64 k]) .nil:=by
 cases k with
 |zero =>simp only[go_sem,BE,XH,XI,bW (show((0:Nat):Int)=0 from rfl),Hc,na];refine bG (.inr rfl) .nil (vs:=[.sl 1 [[.aK]]]) Sq a_ ⟨?_,rfl⟩;exact(tZ.nil.snoc (u:=.aK) (w:=[]) (.inr ⟨rfl,rfl⟩)).co
 |succ k=>
  have M:=λ(E:Nat)(h:E<=1000)=>rec E k h rfl;clear rec;have ζ:=vY n (k+1) a;have Z:2^(n-a)<=2^40:=bnR Om Om;have β:(2:Nat)^40=1099511627776:=by decide
  have wk:i_.wrap (((k+1:Nat):Int)-1)=(k:Int):=by rw[wrap_i64 Om Om];omega
  simp only[go_sem,BE,XH,XI,bL (Om:((k+1:Nat):Int)≠0),Hd,He,na];refine wp_loop (α:=Nat × PV × WPs × PH) (λs=>((((n_.set 1 (.int .i64 n)).set 2 (.int .i64 (k+1:Nat))).set 7 (s.2.1)).set 8 (.int .i64 s.1))) (λs=>s.2.2.2) (λs=>a<=s.1/\(s.1=a\/s.1<=n-k)/\wls s.2.2.1=jU (chT n k a s.1)/\aR s.2.2.2 [] (fG s.2.1 s.2.2.1)) (λs=>n-s.1) (a,.aK,[],.nil) ⟨bkN _,.inl rfl,by simp only;rw[aVV];rfl,aR.AV aR.nil⟩ Lq b_ ?_;rintro⟨i,Q,ps,H⟩ ⟨A,K,p,y⟩;simp only at A K p y;have wi:i_.wrap ((i:Int)+((k+1:Nat):Int))=(i:Int)+((k+1:Nat):Int):=wrap_i64 Om Om;simp only[go_sem,sn,Hf,wi];by_cases c:i+(k+1)<=n
  ·have S:(i:Int)+((k+1:Nat):Int)<=(n:Nat):=Om;have d:=aVU n k a A;have J:=a8W n k a A (Om:i+k<n);have hr:=M (i+1) Om;have F:=qP n k (i+1);generalize dT n k (i+1)=R at *
   have γ:Z' R<=1099511627776:=by rw[d,bkQ,bkG]at J;omega
   simp only[go_sem,S,Hg,wZz i,wk];refine aB hr Sq ?_;simp only[go_sem,Hh];refine wp_loop (α:=Nat × PV × WPs × PH) (λs=>((((((n_.set 1 (.int .i64 n)).set 2 (.int .i64 (k+1:Nat))).set 7 (s.2.1)).set 8 (.int .i64 i)).set 9 (lay (jU R))).set 10 (.int .i64 s.1))) (λs=>s.2.2.2) (λs=>s.1<=Z' R/\wls s.2.2.1=jU (chT n k a i++(R.take s.1).map (i::·))/\aR s.2.2.2 [] (fG s.2.1 s.2.2.1)) (λs=>Z' R-s.1) (0,Q,ps,H) ⟨bkL _,by simp only;rw[p];simp,y⟩ Lq b_ ?_;clear p y;rintro⟨j,Q,ps,H⟩ ⟨hj,p,y⟩;simp only at hj p y;have B:(jU R).length=Z' R:=bkG _;simp only[go_sem,sm,Hi,bkG,B];by_cases x:j<Z' R
   ·have l:(j:Int)<(Z' R:Nat):=Om;have V:((jU R).map λr=>[ints r])[j]?=some [ints (cA R[j])]:=by unfold jU;simp[x]
    have W:R.take (j+1)=R.take j++[R[j]]:=blO x;have ε:=(F _ (bkK x)).1;have δ:Z' ps<=1099511627776:=by have U:=congrArg List.length p;rw[DL]at U;unfold jU at U;rw[bkG,bkQ,bkG,bkY]at U;rw[d,bkQ,bkG]at J;omega
    generalize R[j]=r at *
    simp only[go_sem,l,Hj];refine aP λo ho=>?_;have h2:=y.aLQ (s:=1) (rows:=bF [(i:Int)]) ho;simp only[go_sem,l,B,bkG,V];refine h2.append (Z' ps+1) (rows:=bF [(i:Int)]) (src:=bF (cA r)) (IP _ _ _ (MZ _ _)) rfl (by unfold roomFor;rw[dK,dK,fZ];simp only[bkV,maxLen];omega) λv' H' O _=>?_;have N:bF [(i:Int)]++bF (cA r)=bF (cA (i::r)):=rfl;rw[N]at O;have hO:cG H' 1 v' (bF (cA (i::r))):=O.own (Z' ps+1) (by rw[List.getElem?_set_self (by rw[bkQ,MZ];simp)]);rcases hO with⟨h0,-⟩|⟨q,rs,rfl,-,-,-⟩
    ·cases h0
    rw[bnJ _ _ (by rw[MZ];exact bkN _),MZ,bnF]at O;simp only[go_sem,bkX,blD,or_false,forall_eq];refine O.append 0 (rows:=eH ps) (src:=[[PV.osl q 1 0 (bF (cA (i::r))).length]]) rfl Sq (by unfold roomFor;rw[pV];simp only[bkV,maxLen];omega) λY H2 h4 _=>?_;simp only[go_sem,so,wZz j];refine aG (j+1,Y,ps++[(PV.osl q 1 0 (bF (cA (i::r))).length,cA (i::r))],H2) ⟨x,?_,?_⟩ (by simp only;omega) (by(repeat' (first|exact c_|refine d_ ?_ ?_))<;>first|(simp only[go_sem,B]<;>rfl)|rfl) b_
    ·simp only;rw[W,blK,<-blW,ajW,<-p];unfold wls;rw[blK];rfl
    ·have e:fG Y (ps++[(PV.osl q 1 0 (bF (cA (i::r))).length,cA (i::r))])=((fG Q ps)++[(PV.osl q 1 0 (bF (cA (i::r))).length,1,bF (cA (i::r)))]).set 0 (Y,1,eH ps++[[PV.osl q 1 0 (bF (cA (i::r))).length]]):=by unfold fG eH sE;rw[blK,blK];rfl
     simp only;rw[e];exact h4
   ·have l:¬(j:Int)<(Z' R:Nat):=Om;have:j=Z' R:=Om;subst this;rw[blE,<-d]at p;simp only[go_sem,l,sr,wZz i];exact aG (i+1,Q,ps,H) ⟨by simp only;omega,.inr (by simp only;omega),p,y⟩ (by simp only;omega) Lq b_
  ·have S:¬(i:Int)+((k+1:Nat):Int)<=(n:Nat):=Om;rw[aVT n k a i K Om]at p;simp only[go_sem,S,su];rw[<-p];exact XO (.inr rfl) Sq y
structure Y0(C:Ctx):Prop where
 allowed:∀(f:aE)(p:cJ)(d:Nat),VF f->Fits p.biW->d<Z' f.biV->aH C 77 [.agg p.cells,.agg f.cells,.int .i64 d] .nil (aF (.bool (p.biW.contains ((mdl f d:Nat):Int))))
 count:∀(f:aE)(row:List Int)(n:Nat),VF f->Y6 f row->n<Z' f.biY->aH C 80 [.agg f.cells,ints row,.int .i64 n] .nil (aF (.int .i64 (row.countP (qT f n):Nat)))
 valid:∀f:aE,f.Ok->aH C 67 [.agg f.cells] .nil (aF (.bool (cQ f)))
def qV(f:aE)(p:cJ)(set:List Int):Bool:=cd set (jE p) f.biV.length&&sA f p set
def oG(f:aE)(p:cJ)(set:List Int)(i:Nat):Bool:=lz set f.biV.length i&&rH f p (set.getD i 0)
theorem amM{f:aE}{p:cJ}{set:List Int}(w:(Z' set:Int)=jE p):qV f p set=((bkH set.length).all (oG f p set)&&lN f p set):=by
 unfold qV cd sA;rw[aV w,bkR,<-bnT];congr 1;have e:set.all (rH f p)=(bkH set.length).all λi=>rH f p (set.getD i 0):=by
  rw[Bool.eq_iff_iff,bkS,bkS];constructor
  ·intro h i hi;have hi:=blN.1 hi;have d:set.getD i 0=set[i]:=by simp[blB,hi]
   rw[d];exact h _ (bkK hi)
  ·intro h x y;obtain⟨i,hi,rfl⟩:=blZ y;have d:set.getD i 0=set[i]:=by simp[blB,hi]
   have:=h i (blN.2 hi)
   rwa[d]at this
 rw[e,Bool.eq_iff_iff,bkI,bkS,bkS,bkS];constructor
 ·rintro⟨l,u⟩ i hi;unfold oG;rw[l i hi,u i hi];rfl
 ·intro h;refine⟨λi hi=>?_,λi hi=>?_⟩
  ·have:=h i hi;unfold oG at this;rw[bkI]at this;exact this.1
  ·have:=h i hi;unfold oG at this;rw[bkI]at this;exact this.2
theorem a6R{f:aE}{p:cJ}{set:List Int}(d:(Z' set:Int)=jE p){i:Nat}(hi:i<Z' set)(h:oG f p set i=false):qV f p set=false:=by
 rw[amM d];have:(bkH set.length).all (oG f p set)=false:=by simp only[List.all_eq_false,blN];exact⟨i,hi,by rw[h];simp⟩
 rw[this,bkP]
theorem amL(f:aE)(p:cJ)(set:List Int)(k:Nat):(bkH (k+1)).all (oG f p set)=((bkH k).all (oG f p set)&&oG f p set k):=by
 rw[boE,bnX];simp
theorem auP{K:cH}[Up K](L:Y0 C)(f:aE)(hV:VF f)(p:cJ)(set:List Int)(W:Y6 f set){F:PF}{H:PH}
  (O:(((((n_.set 2 (ints set)).set 3 (.bO f.cells)).set 4 (.bO p.cells)).set 8 (.int .i64 1))).le F)
  (R:∀A H',A 6=some (.bool false)->lN f p set=false->K .ret A H')
  (Q:∀A H',lN f p set=true->K (.exit 2) A H'):aC.wp C (.loop y6) K F H:=by
 have U:=hV.small.biY;have x:=hV.root.1;refine wp_loop (α:=Nat) (λk=>((((n_.set 2 (ints set)).set 3 (.bO f.cells)).set 4 (.bO p.cells)).set 8 (.int .i64 k))) (λ_=>H) (λk=>1<=k/\k<=Z' f.biY/\∀i,1<=i->i<k->rB f p set i=true) (λk=>Z' f.biY-k) 1 ⟨bkN _,x,λi N Z=>by omega⟩ O b_ ?_;rintro k ⟨N,hk,l⟩;simp only[go_sem,y6,amN,bkG];by_cases hlt:k<Z' f.biY
 ·have d:(k:Int)<(Z' f.biY:Nat):=Om;have M:=hV.oV hlt;have X:0<=lvl f k:=M.1;have Y:lvl f k<((5:Nat):Int):=Om;have u:=L.count f set k hV W hlt;have S:jB f set k=((set.countP (qT f k):Nat):Int):=by unfold jB;rw[aD Om]
  rw[<-S]at u;have w:rB f p set k=!(decide (p.spread (lvl f k).toNat>0)&&decide (jB f set k>p.spread (lvl f k).toNat)):=by rw[rB,fS]
  have bjR:rB f p set k=true->∀i,1<=i->i<k+1->rB f p set i=true:=λh i J V=>by
   by_cases e:i=k
   ·rw[e];exact h
   ·exact l i J Om
  have y:rB f p set k=false->lN f p set=false:=YI hlt;simp only[go_sem,d,amO,jJ hlt,AP hlt,X,Y,Nat.mul_one];rw[Wd p _ (Om:(lvl f k).toNat<5)];by_cases B:p.spread (lvl f k).toNat>0
  ·simp only[go_sem,y7,B];refine aB u Sq ?_;by_cases E:jB f set k>p.spread (lvl f k).toNat
   ·simp only[go_sem,E,amP];exact R _ _ Sq (y (by rw[w,aV B,aV E];rfl))
   ·simp only[go_sem,E,y8,wZz k];exact aG (k+1) ⟨by omega,hlt,bjR (by rw[w,bC E,blR];rfl)⟩ Om Lq b_
  ·simp only[go_sem,y7,B,y8,wZz k];exact aG (k+1) ⟨by omega,hlt,bjR (by rw[w,bC B];rfl)⟩ Om Lq b_
 ·have d:¬(k:Int)<(Z' f.biY:Nat):=Om;simp only[go_sem,d];refine Q _ _ (Jk hV λi hi h=>l i ?_ Om);have:=hV.oV hi;rcases bmZ i with e|e
  ·have:=this.2.2.2 e;omega
  ·omega
theorem a6S(L:Y0 C)(f:aE)(hV:VF f)(p:cJ)(J:Fits p.biW)(hk:1<=p.k)(β:p.k<=6)(hm:0<=p.m)(γ:p.m<=4)(set:List Int)(hl:Z' set<=1000000000000000) :
  ip.wp C (aX aZW.res (aF (.bool (qV f p set)))) (g_ [.agg f.cells,.agg p.cells,ints set]) .nil:=by
 have hw:i_.wrap (p.k+p.m)=p.k+p.m:=wrap_i64 Om Om;have N:jE p=p.k+p.m:=rfl;simp only[go_sem,ip,aCT,aCU,aZW,bkG,hw];by_cases Q:(Z' set:Int)=p.k+p.m
 ·have B:(Z' set:Int)=jE p:=by rw[N];exact Q
  simp only[go_sem,cF Q,aCW];refine wp_loop (α:=Nat) (λk=>((((n_.set 2 (ints set)).set 3 (.bO f.cells)).set 4 (.bO p.cells)).set 7 (.int .i64 k))) (λ_=>.nil) (λk=>k<=Z' set/\(bkH k).all (oG f p set)=true) (λk=>Z' set-k) 0 ⟨bkL _,rfl⟩ Lq a_ ?_;rintro k ⟨hk,u⟩;by_cases hlt:k<Z' set
  ·have d:(k:Int)<(Z' set:Nat):=Om;have w:(set.map λn=>[PV.int .i64 n])[k]?=some [.int .i64 set[k]]:=by simp[hlt]
   have U:set.getD k 0=set[k]:=by simp[blB,hlt]
   have e:oG f p set k=(((decide (0<=set[k])&&decide (set[k]<(Z' f.biV:Nat)))&&(decide (k=0)||decide (set.getD (k-1) 0<set[k])))&&rH f p set[k]):=by rw[oG,lz,U]
   have bjR:oG f p set k=true->(bkH (k+1)).all (oG f p set)=true:=λh=>by rw[amL,u,h];rfl
   have l:=a6R (f:=f) (p:=p) B hlt;have fin:∀(x:Int)(b:Bool),x=set[k]->0<=x->x<(Z' f.biV:Nat)->aH C 77 [.agg p.cells,.agg f.cells,.int .i64 x] .nil (aF (.bool (rH f p x))):=λx b _ h0 R=>by have:=L.allowed f p x.toNat hV J Om;rw[show(x.toNat:Int)=x by omega]at this;exact this
   have fin:=fin set[k] true rfl;generalize set[k]=x at *
   simp only[go_sem,N5,N6,d,bkG];refine bP .nil (cyS (.bool (rH f p x))) a_ ?_;by_cases E:x<0
   ·simp only[go_sem,IW,w,d,E,bkG,IX];exact dR Sq (l (by rw[e,bC (Om:¬0<=x)];rfl)).symm
   by_cases O:x>=(Z' f.biV:Nat)
   ·simp only[go_sem,IW,w,d,E,O,bkG,IX];exact dR Sq (l (by rw[e,bC (Om:¬x<(Z' f.biV:Nat)),blR];rfl)).symm
   rw[aV (Om:0<=x),aV (Om:x<(Z' f.biV:Nat)),bmO,bkR]at e;have F:=fin Om Om;by_cases X:k=0
   ·subst X;rw[aV rfl,Bool.true_or,bkR]at e;simp only[go_sem,IW,w,d,E,O,bkG,show ¬((0:Nat):Int)>0 by omega];refine bK rfl F Sq a_ ?_;cases hb:rH f p x with
    |true =>rw[hb]at e;simp only[go_sem,bkO,N7,wZz 0];exact aG 1 ⟨hlt,bkS.1 (bjR e)⟩ Om Lq a_
    |false =>rw[hb]at e;simp only[go_sem,bkW,IX];exact dR Sq (l e).symm
   obtain⟨j,rfl⟩:∃j,k=j+1:=⟨k-1,by omega⟩;have Z:i_.wrap (((j+1:Nat):Int)-1)=(j:Int):=by rw[wrap_i64 Om Om];omega
   have K:j<Z' set:=Om;have A:(j:Int)<(Z' set:Nat):=Om;have M:(set.map λn=>[PV.int .i64 n])[j]?=some [.int .i64 set[j]]:=by simp[K]
   have V:set.getD (j+1-1) 0=set[j]:=by simp[blB,K]
   rw[V,bC X,Bool.false_or]at e;generalize set[j]=y at *
   by_cases Y:x<=y
   ·simp only[go_sem,IW,w,d,E,O,bkG,show((j+1:Nat):Int)>0 by omega,Z,M,A,Y,IX];exact dR Sq (l (by rw[e,bC (Om:¬y<x)];rfl)).symm
   rw[aV (Om:y<x),bkR]at e;simp only[go_sem,IW,w,d,E,O,bkG,show((j+1:Nat):Int)>0 by omega,Z,M,A,Y];refine bK rfl F Sq a_ ?_;cases hb:rH f p x with
   |true =>rw[hb]at e;simp only[go_sem,bkO,N7,eM (Om:j+1<9223372036854775807)];exact aG (j+1+1) ⟨hlt,bkS.1 (bjR e)⟩ Om Lq a_
   |false =>rw[hb]at e;simp only[go_sem,bkW,IX];exact dR Sq (l e).symm
  ·have d:¬(k:Int)<(Z' set:Nat):=Om;have:k=Z' set:=Om;subst this;have S:=amM (f:=f) (p:=p) B;rw[u,bkR]at S;have hr:Y6 f set:=⟨by omega,λx hx=>by
    obtain⟨i,hi,rfl⟩:=blZ hx;have R:=bkS.1 u i (blN.2 hi);unfold oG lz at R;have U:set.getD i 0=set[i]:=by simp[blB,hi]
    rw[U]at R;simp only[bkI,dT_]at R;omega⟩
   simp only[go_sem,N5,N6,d,bkG,aCX];refine auP (C:=C) L f hV p set hr Lq ?_ ?_
   ·intro F' H' h6 H;simp only[go_sem];exact dR h6 (S.trans H).symm
   ·intro F' H' W;simp only[go_sem,amQ];exact dR Sq (S.trans W).symm
 ·simp only[go_sem,dP Q,aCV];exact dR Sq (show qV f p set=false by unfold qV cd;rw[bC (show ¬(Z' set:Int)=jE p from λh=>Q (by rw[h,N]))];rfl).symm
structure aOQ(C:Ctx):Prop extends Y0 C where
 adm:∀(f:aE)(p:cJ)(set:List Int),VF f->Fits p.biW->1<=p.k->p.k<=6->0<=p.m->p.m<=4->Z' set<=1000000000000000->aH C 213 [.agg f.cells,.agg p.cells,ints set] .nil (aF (.bool (qV f p set)))
 choose:∀k a n:Nat,k<=10->a<=1000->n<=40->aH C 215 [.int .i64 a,.int .i64 n,.int .i64 k] .nil (aF (lay (jU (dT n k a))))
theorem a0O{f:aE}(hV:VF f)(p:cJ)(A:1<=p.k)(B:0<=p.m):gP f p=(jU (dT f.biV.length (jE p).toNat 0)).filter (qV f p):=by
 unfold gP jU;refine List.filter_congr λx u=>?_;obtain⟨s,w,rfl⟩:=blF.1 u;obtain⟨k1,k2,y⟩:=qP _ _ _ _ w;have e:((jE p).toNat:Int)=jE p:=by unfold jE;omega
 have h:cd (cA s) (jE p) f.biV.length=true:=by
  rw[<-e];unfold cd;rw[fZ,k1,aV rfl,bkR];simp only[bkS,blN];intro i hi;have d:i<Z' s:=Om;have g:(cA s).getD i 0=(s[i]:Nat):=by unfold cA;simp[blB,d]
  unfold lz;rw[g];have u:=(k2 _ (bkK d)).2;simp only[bkI,Bool.or_eq_true,dT_];refine⟨by omega,?_⟩;by_cases c:i=0
  ·exact .inl c
  ·right;have l:i-1<Z' s:=Om;have g2:(cA s).getD (i-1) 0=(s[i-1]:Nat):=by unfold cA;simp[blB,l]
   rw[g2];have:=List.pairwise_iff_getElem.1 y (i-1) i l d Om;omega
 unfold qV;rw[h,bkR]
def sL(d:List (List Int)):List (List PV):=d.map λw=>[ints w]
theorem i6(d:List (List Int)):(sL d).length=Z' d:=bkG _
theorem auS(e:List (List Int)):tZ (sL e) e:=by
 refine⟨i6 e,λi r w d l=>.inl ?_⟩;unfold sL at d;rw[blC,l]at d;injection d with d
 exact d.symm
theorem aML{res:List eC}{F:PF}{H:PH}{i:PV}{d:List (List Int)}{c:Int}{e:nY}(x:e=.normal\/e=.ret)(h:eC.evs F H res=some [i,.int .i64 c])(w:aR H [] [(i,1,sL d)]):aX res (cI (.tup [lists d,.int .i64 c])) e F H:=by
 have l:aR H [] ((i,1,sL d++eH [])::sE []):=by rw[show sL d++eH []=sL d from bmJ _];exact w
 obtain⟨φ,B,k1,-,y,-,A,-⟩:=KM [] (sL d) d (auS d) l (λb hb=>by cases hb);rw[show d++wls []=d from bmJ _]at k1;refine zN x h ⟨_,_,.nil,A _,a_,φ (bN [i,.int .i64 c]),?_,?_⟩
 ·rw[IZ,oZ,aI rfl];rfl
 ·show cI _ (φ (.tup [i,.int .i64 c])) .nil;rw[y];refine⟨.tup rfl λj p q hp u=>?_,rfl⟩
  match j with
  |0=>cases hp;cases u;exact k1
  |1=>cases hp;cases u;exact .refl _
  |j+2=>cases hp
theorem a6T(L:aOQ C)(f:aE)(hf:f.Ok)(bjH:Int) :
  iq.wp C (aX aZX.res (cI (.tup [lay (FI f bjH),.int .i64 (vC f bjH)]))) (g_ [.agg f.cells,.int .i64 bjH]) .nil:=by
 have hB:FI f bjH=if vC f bjH=0 then gP f (dS f bjH)else[]:=rfl
 have l:vC f bjH=if kY f bjH then(if f.biV.length>12 then 2 else 0)else 1:=rfl
 have x:kY f bjH=(cQ f&&(decide (0<=bjH)&&decide (bjH<Z' f.biZ))):=rfl;have Q:∀F:PF,kY f bjH=false->F 4=some .aK->F 5=some (.int .i64 1)->aX [.tmp 4,.tmp 5] (cI (.tup [lay (FI f bjH),.int .i64 (vC f bjH)])) .ret F .nil:=by intro F hk h1 h2;rw[hk,aD aU]at l;rw[l,aD aU]at hB;rw[hB,l];exact tG (.inr rfl) (by simp only[go_sem,h1,h2]) (aR.AV aR.nil)
 simp only[go_sem,iq,aCY,aCZ,aZX];refine aB (L.valid f hf) Ev ?_;cases hp:cQ f with
 |false =>simp only[go_sem,bkW,m8];exact Q _ (by rw[x,hp];rfl) Sq Sq
 |true=>
 rw[hp,bkR]at x;by_cases O:bjH<0
 ·simp only[go_sem,bkO,O,m8];exact Q _ (by rw[x,bC (Om:¬0<=bjH)];rfl) Sq Sq
 by_cases R:bjH>=(Z' f.biZ:Nat)
 ·simp only[go_sem,bkO,O,R,bkG,m8];exact Q _ (by rw[x,bC (Om:¬bjH<(Z' f.biZ:Nat)),blR]) Sq Sq
 rw[aV (Om:0<=bjH),aV (Om:bjH<(Z' f.biZ:Nat)),bmV]at x;rw[x,aI rfl]at l;obtain⟨hV,h0,hm,he⟩:=CQ x;obtain⟨N,U⟩:=zE x;have d:=hV.bjH _ N;have M:=(hf.bjH _ N).biW;have K:(f.biZ.map cJ.cells)[bjH.toNat]?=some (dS f bjH).cells:=by rw[blC,U];rfl
 by_cases c:Z' f.biV>12
 ·rw[aI c]at l;rw[l,aD aU]at hB;rw[hB,l];simp only[go_sem,bkO,O,R,bkG,N8,show(Z' f.biV:Int)>12 by omega,aDA];exact tG (.inr rfl) Sq (aR.AV aR.nil)
 rw[aD c]at l;rw[l,aI rfl,a0O hV _ d.1 d.2.2.1]at hB;rw[hB,l];clear hB l Q;generalize dS f bjH=p at *
 obtain⟨n,W⟩:∃n:Nat,(n:Int)=jE p:=⟨(p.k+p.m).toNat,by unfold jE;omega⟩;have ε:1<=n/\n<=10:=by unfold jE at W;omega
 have hw:i_.wrap (p.k+p.m)=(n:Int):=by rw[W];exact wrap_i64 Om Om
 have hlt:bjH<(Z' f.biZ:Nat):=Om;have V:=L.choose n 0 f.biV.length Om Om Om;have E:=λ(set:List Int)(hs:Z' set<=1000000000000000)=>L.adm f p set hV M d.1 d.2.1 d.2.2.1 d.2.2.2.1 hs;have J:=qP f.biV.length n 0;have η:=vY f.biV.length n 0;have β:2^(Z' f.biV-0)<=2^12:=bnR Om Om;have γ:(2:Nat)^12=4096:=by decide
 rw[<-W,bmI];generalize dT f.biV.length n 0=S at *
 simp only[go_sem,bkO,O,R,bkG,N8,show ¬(Z' f.biV:Int)>12 by omega,aDB,h0,hlt,K];refine aP λq hq=>?_;simp only[go_sem,aDC,aDD,bkG,hw];refine aB V (by simp only[go_sem];rfl) ?_;simp only[go_sem,aDE];have B:aR (h_.set q (.rows 17 [p.cells])) [(q,.rows 17 [p.cells])] [(.aK,1,sL [])]:=((aR.nil (H:=h_)).new hq _).rA 1;refine wp_loop (α:=Nat × PV × PH) (λs=>(((((n_.set 2 (.bO f.cells)).set 6 (.ptr q 17 0 0)).set 7 (s.2.1)).set 8 (lay (jU S))).set 9 (.int .i64 s.1))) (λs=>s.2.2) (λs=>s.1<=Z' S/\aR s.2.2 [(q,.rows 17 [p.cells])] [(s.2.1,1,sL ((jU (S.take s.1)).filter (qV f p)))]) (λs=>Z' S-s.1) (0,.aK,_) ⟨bkL _,B⟩ Lq b_ ?_;clear B hq;rintro⟨j,v,H⟩ ⟨hj,A⟩;simp only at hj A;have u:(jU S).length=Z' S:=bkG _;simp only[go_sem,amR,aDF,bkG,u];by_cases w:j<Z' S
 ·have e:(j:Int)<(Z' S:Nat):=Om;have y:((jU S).map λr=>[ints r])[j]?=some [ints (cA S[j])]:=by unfold jU;simp[w]
  have Y:S.take (j+1)=S.take j++[S[j]]:=blO w;have ζ:=(J _ (bkK w)).1;generalize S[j]=r at *
  have i:(jU (S.take (j+1))).filter (qV f p)=(jU (S.take j)).filter (qV f p)++if qV f p (cA r)then[cA r]else[]:=by rw[Y,ajW,List.filter_append];congr 1;unfold jU;by_cases cc:qV f p (cA r)<;>simp[cc]
  have δ:((jU (S.take j)).filter (qV f p)).length<=4096:=by refine blH (boP ..) ?_;unfold jU;rw[bkG,bkY];omega
  have X:=A.at 0 rfl;simp only[go_sem,e];refine bP .nil (cyS (.bool (qV f p (cA r)))) a_ ?_;simp only[go_sem,amS,X,e,u,bkG,y];refine bK rfl (E (cA r) (by rw[fZ];omega)) Sq a_ ?_;cases hb:qV f p (cA r)with
  |true =>rw[hb,aI rfl]at i;simp only[go_sem,amT,e,u,bkG,y];refine A.append 0 (rows:=sL ((jU (S.take j)).filter (qV f p))) (src:=[[ints (cA r)]]) rfl Sq (by unfold roomFor;rw[i6];simp only[bkV,maxLen];omega) λv' H' Z _=>?_;simp only[go_sem,y9,wZz j];refine aG (j+1,v',H') ⟨w,?_⟩ (by simp only;omega) (by(repeat' (first|exact c_|refine d_ ?_ ?_))<;>first|(simp only[go_sem,u]<;>rfl)|rfl) b_;simp only;rw[i];unfold sL at Z ⊢;rw[blK];exact Z
  |false =>rw[hb,aD aU,bmJ]at i;simp only[go_sem,y9,wZz j];refine aG (j+1,v,H) ⟨w,?_⟩ (by simp only;omega) (by(repeat' (first|exact c_|refine d_ ?_ ?_))<;>first|(simp only[go_sem,u]<;>rfl)|rfl) b_;simp only;rw[i];exact A
 ·have e:¬(j:Int)<(Z' S:Nat):=Om;have:j=Z' S:=Om;subst this;rw[blE]at A;simp only[go_sem,e,amU];exact aML (.inr rfl) Sq (A.qR 0)
structure Am(C:Ctx):Prop where
 valid:∀f:aE,f.Ok->aH C 67 [.agg f.cells] .nil (aF (.bool (cQ f)))
 choose:∀k a n:Nat,k<=10->a<=1000->n<=40->aH C 215 [.int .i64 a,.int .i64 n,.int .i64 k] .nil (aF (lay (jU (dT n k a))))
 biV:∀(f:aE)(dom:Int),f.Ok->aH C 81 [.agg f.cells,.int .i64 dom] .nil (aF (ints (RT f dom)))
 has:∀(l:List Int)(x:Int),Z' l<=1000000000000000->aH C 218 [ints l,.int .i64 x] .nil (aF (.bool (l.contains x)))
theorem atW{f:aE}(d:cQ f=true){lv:Int}{i:Nat}(hi:i<Z' f.biY)(h:lvl f i=lv):RT f i=cA (sV f lv f.biV.length i):=by
 unfold RT;rw[aI ⟨d,by omega,by omega⟩];subst h;rfl
def HJ(f:aE)(lv:Int)(k:Nat):List (List Int):=((bkH k).filter (VG f lv)).map λi=>cA (sV f lv f.biV.length i)
theorem aMP(f:aE)(lv:Int)(k:Nat):HJ f lv (k+1)=if lvl f k=lv then HJ f lv k++[cA (sV f lv f.biV.length k)]else HJ f lv k:=by
 unfold HJ;rw[boE,List.filter_append,blK];by_cases h:lvl f k=lv
 ·rw[aI h];simp[VG,h]
 ·rw[aD h];simp[VG,h]
theorem aST(f:aE)(lv:Int)(k:Nat):(HJ f lv k).length<=k:=by
 unfold HJ;rw[bkG];exact blH (boP ..) bH
theorem aTA(L:Am C)(f:aE)(B:f.Ok)(y:cQ f=true)(lv:Int)(F:1<=lv)(h5:lv<=5) :
  PW.wp C (aX aoA.res (cI (lay (iV f lv)))) (g_ [.agg f.cells,.int .i64 lv]) .nil:=by
 have hV:=VF.of y;have J:=hV.small.biV;have A:=hV.small.biY;simp only[go_sem,PW,Vn,Vo,Vp,aoA];by_cases w:lv=5
 ·subst w;rw[Wy];simp only[go_sem,bW (show(5:Int)=5 from rfl),Vq];refine wp_loop (α:=Nat × PV × PH) (λs=>(((n_.set 2 (.bO f.cells)).set 5 (s.2.1)).set 6 (.int .i64 s.1))) (λs=>s.2.2) (λs=>s.1<=Z' f.biV/\cG s.2.2 1 s.2.1 (HI s.1)) (λs=>Z' f.biV-s.1) (0,.aK,.nil) ⟨bkL _,.nil⟩ Lq b_ ?_;rintro⟨k,v,H⟩ ⟨x,p⟩;simp only at x p;simp only[go_sem,Vm,Vs,bkG];by_cases hlt:k<Z' f.biV
  ·have d:(k:Int)<(Z' f.biV:Nat):=Om;simp only[go_sem,d,Vt];refine gZ (src:=[[ints [(k:Int)]]]) p (by simp only[go_sem];rfl) (by unfold roomFor;rw[Uv];simp only[bkV,maxLen];omega) λv' H' l _=>?_;rw[<-Ih]at l;simp only[go_sem,Vu,wZz k];exact aG (k+1,v',H') ⟨hlt,l⟩ (by simp only;omega) Lq b_
  ·have d:¬(k:Int)<(Z' f.biV:Nat):=Om;have:k=Z' f.biV:=Om;subst this;simp only[go_sem,d,Vv];exact wY (.inr rfl) p Sq
 rw[zr f w];simp only[go_sem,bL w,Vw];refine wp_loop (α:=Nat × PV × PH) (λs=>((((n_.set 1 (.int .i64 lv)).set 2 (.bO f.cells)).set 5 (s.2.1)).set 7 (.int .i64 s.1))) (λs=>s.2.2) (λs=>s.1<=Z' f.biY/\cG s.2.2 1 s.2.1 (sL (HJ f lv s.1))) (λs=>Z' f.biY-s.1) (0,.aK,.nil) ⟨bkL _,.nil⟩ Lq b_ ?_;rintro⟨k,v,H⟩ ⟨x,p⟩;simp only at x p;simp only[go_sem,I3,I4,bkG];by_cases hlt:k<Z' f.biY
 ·have d:(k:Int)<(Z' f.biY:Nat):=Om;have i:=aMP f lv k;have E:=aST f lv k;simp only[go_sem,d,I5,jJ hlt,AP hlt];by_cases c:lvl f k=lv
  ·rw[aI c]at i;have u:=L.biV f k B;rw[atW y hlt c]at u;simp only[go_sem,bW c,I6];refine aB u Sq ?_;simp only[go_sem];refine gZ (src:=[[ints (cA (sV f lv f.biV.length k))]]) p Sq (by unfold roomFor;rw[i6];simp only[bkV,maxLen];omega) λv' H' l _=>?_;have e:sL (HJ f lv k)++[[ints (cA (sV f lv f.biV.length k))]]=sL (HJ f lv (k+1)):=by rw[i];unfold sL;rw[blK];rfl
   rw[e]at l;simp only[go_sem,YB,wZz k];exact aG (k+1,v',H') ⟨hlt,l⟩ (by simp only;omega) Lq b_
  ·rw[aD c]at i;rw[<-i]at p;simp only[go_sem,bL c,YB,wZz k];exact aG (k+1,v,H) ⟨hlt,p⟩ (by simp only;omega) Lq b_
 ·have d:¬(k:Int)<(Z' f.biY:Nat):=Om;have:k=Z' f.biY:=Om;subst this;simp only[go_sem,d,I7];exact wY (.inr rfl) p Sq
theorem a0A(L:Am C)(sc:List (List Int))(H:Z' sc<=1000000000000000)(B:∀s∈sc,Z' s<=1000000000000000)(set:List Int)(K:Z' set<=1000000000000000)(m:Int) :
  XQ.wp C (aX aMM.res (aF (.int .i64 (lG sc set m:Nat)))) (g_ [lay sc,ints set,.int .i64 m]) .nil:=by
 simp only[go_sem,XQ,anA,anB,anC,aMM];refine wp_loop (α:=Nat) (λi=>(((((n_.set 0 (lay sc)).set 1 (ints set)).set 2 (.int .i64 m)).set 7 (.int .i64 ((sc.take i).countP λs=>decide (((mO s set:Nat):Int)>m):Nat))).set 8 (.int .i64 i))) (λ_=>.nil) (λi=>i<=Z' sc) (λi=>Z' sc-i) 0 (bkL _) Lq a_ ?_;intro i hi;simp only[go_sem,Uq,anD,bkG];by_cases hlt:i<Z' sc
 ·have u:(i:Int)<(Z' sc:Nat):=Om;have x:(sc.map λr=>[ints r])[i]?=some [ints sc[i]]:=by simp[hlt]
  have p:=DO (λs=>decide (((mO s set:Nat):Int)>m)) sc hlt;have k1:=B sc[i] (bkK hlt);have F:(sc.take i).countP (λs=>decide (((mO s set:Nat):Int)>m))<=i:=blH boO (by rw[bkY];omega);generalize(sc.take i).countP (λs=>decide (((mO s set:Nat):Int)>m))=n at *
  generalize sc[i]=s at *
  simp only[go_sem,u,anE,anF];refine wp_loop (α:=Nat) (λj=>(((((((n_.set 0 (lay sc)).set 1 (ints set)).set 2 (.int .i64 m)).set 7 (.int .i64 n)).set 8 (.int .i64 i)).set 9 (.int .i64 ((set.take j).countP λd=>s.contains d:Nat))).set 10 (.int .i64 j))) (λ_=>.nil) (λj=>j<=Z' set) (λj=>Z' set-j) 0 (bkL _) Lq a_ ?_;intro j J;simp only[go_sem,Uo,anG,bkG];by_cases w:j<Z' set
  ·have l:(j:Int)<(Z' set:Nat):=Om;have A:(set.map λn=>[PV.int .i64 n])[j]?=some [.int .i64 set[j]]:=by simp[w]
   have e:=DO (λd=>s.contains d) set w;have E:(set.take j).countP (λd=>s.contains d)<=j:=blH boO (by rw[bkY];omega);generalize(set.take j).countP (λd=>s.contains d)=b at *
   generalize set[j]=d at *
   simp only[go_sem,l];refine bP .nil (cyS (.bool (s.contains d))) a_ ?_;simp only[go_sem,anH,u,x,bkG,l,A];refine bK rfl (L.has s d k1) Sq a_ ?_;cases hb:s.contains d with
   |true =>rw[hb]at e;simp only[go_sem,anI,wZz b,zc,wZz j];exact aG (j+1) w Om (by(repeat' (first|exact c_|refine d_ ?_ ?_))<;>first|(simp only[go_sem,e,AM]<;>rfl)|rfl) a_
   |false =>rw[hb]at e;simp only[go_sem,zc,wZz j];exact aG (j+1) w Om (by(repeat' (first|exact c_|refine d_ ?_ ?_))<;>first|(simp only[go_sem,e,AM]<;>rfl)|rfl) a_
  ·have l:¬(j:Int)<(Z' set:Nat):=Om;have:j=Z' set:=Om;subst this;have y:set.countP (λd=>s.contains d)=mO s set:=rfl;rw[blE,y];by_cases c:((mO s set:Nat):Int)>m
   ·rw[aV c]at p;simp only[go_sem,l,iz,c,Ur,wZz n,i0,wZz i];exact aG (i+1) hlt Om (by(repeat' (first|exact c_|refine d_ ?_ ?_))<;>first|(simp only[go_sem,p,AM]<;>rfl)|rfl) a_
   ·rw[bC c]at p;simp only[go_sem,l,iz,c,i0,wZz i];exact aG (i+1) hlt Om (by(repeat' (first|exact c_|refine d_ ?_ ?_))<;>first|(simp only[go_sem,p,AM]<;>rfl)|rfl) a_
 ·have u:¬(i:Int)<(Z' sc:Nat):=Om;have:i=Z' sc:=Om;subst this;rw[blE];simp only[go_sem,u,Us];refine aT (.inr rfl) Ev ?_;rfl
structure bw(C:Ctx):Prop extends Am C where
 units:∀(f:aE)(lv:Int),f.Ok->cQ f=true->1<=lv->lv<=5->aH C 217 [.agg f.cells,.int .i64 lv] .nil (aF (lay (iV f lv)))
theorem a0G{K:cH}[Up K](L:bw C)(A:PV)(U:List (List Int)){n:Nat}(X:UOk n U)(S:List (List Nat))(j:Nat)(hj:j<Z' S)(s:List Nat)(Y:S[j]?=some s)(N:∀x∈s,x<Z' U)(Z:Z' s<=1000)(R v:PV)(d:Nat){F:PF}{H:PH}
  (V:((((((((((n_.set 2 (A)).set 6 (lay U)).set 9 (lay (jU S))).set 10 (R)).set 11 (.int .i64 j)).set 12 (v)).set 13 (.int .i64 d)).set 14 (.bool false)).set 15 (.int .i64 0))).le F)
  (W:K (.exit 6) (((((((((n_.set 2 (A)).set 6 (lay U)).set 9 (lay (jU S))).set 10 (R)).set 11 (.int .i64 j)).set 12 (v)).set 13 (.int .i64 d)).set 14 (.bool (mU U s d)))) H):aC.wp C (.loop ja) K F H:=by
 have w:(j:Int)<(Z' S:Nat):=Om;have l:(jU S).length=Z' S:=bkG _;have p:((jU S).map λr=>[ints r])[j]?=some [ints (cA s)]:=by unfold jU;rw[blC,blC,Y];rfl
 have y:(cA s).length=Z' s:=fZ s;refine wp_loop (α:=Nat) (λk=>(((((((((n_.set 2 (A)).set 6 (lay U)).set 9 (lay (jU S))).set 10 (R)).set 11 (.int .i64 j)).set 12 (v)).set 13 (.int .i64 d)).set 14 (.bool (mU U (s.take k) d))).set 15 (.int .i64 k))) (λ_=>H) (λk=>k<=Z' s) (λk=>Z' s-k) 0 (bkL _) V b_ ?_;intro k hk;simp only[go_sem,ja,Vj,w,l,bkG,p,y];by_cases hlt:k<Z' s
 ·have i:(k:Int)<(Z' s:Nat):=Om;have M:((cA s).map λn=>[PV.int .i64 n])[k]?=some [.int .i64 (s[k]:Nat)]:=CU hlt;have O:=N s[k] (bkK hlt);have Q:((s[k]:Nat):Int)<(Z' U:Nat):=Om;have J:=X.at_ U[s[k]] (bkK O);have E:U.getD s[k] []=U[s[k]]:=by simp[blB,O]
  have B:(U.map λr=>[ints r])[s[k]]?=some [ints U[s[k]]]:=by simp[O]
  have e:mU U (s.take (k+1)) d=(mU U (s.take k) d||(U[s[k]]).contains (d:Int)):=by unfold mU;rw[blO hlt,List.any_append,<-E];simp
  generalize U[s[k]]=u at *
  generalize s[k]=x at *
  cases hb:mU U (s.take k) d with
  |true =>rw[hb,Bool.true_or]at e;simp only[go_sem,i,je,jf,wZz k];exact aG (k+1) hlt Om (by(repeat' (first|exact c_|refine d_ ?_ ?_))<;>first|(simp only[go_sem,e,l]<;>rfl)|rfl) b_
  |false =>rw[hb,Bool.false_or]at e;simp only[go_sem,i,je,w,l,bkG,p,y,M,Q,B];refine aB (L.has u d (by have:=J.1;omega)) Sq ?_;simp only[go_sem,jf,wZz k];exact aG (k+1) hlt Om (by(repeat' (first|exact c_|refine d_ ?_ ?_))<;>first|(simp only[go_sem,e,l]<;>rfl)|rfl) b_
 ·have i:¬(k:Int)<(Z' s:Nat):=Om;have:k=Z' s:=Om;subst this;rw[blE];simp only[go_sem,i];exact Up.up (by(repeat' (first|exact c_|refine d_ ?_ ?_))<;>first|(simp only[go_sem,l]<;>rfl)|rfl) W
def dnL(U:List (List Int))(s:List Nat)(d:Nat):List Int:=cA ((bkH d).filter (mU U s))
theorem aWM(U:List (List Int))(s:List Nat)(d:Nat):dnL U s (d+1)=if mU U s d then dnL U s d++[(d:Int)]else dnL U s d:=by
 unfold dnL;rw[boE,List.filter_append,ajV];by_cases h:mU U s d
 ·rw[aI h];simp[cA,h]
 ·rw[aD h];simp[cA,h]
theorem a3R(U:List (List Int))(s:List Nat)(d:Nat):(dnL U s d).length<=d:=by
 unfold dnL;rw[fZ];exact blH (boP ..) bH
theorem aSY{K:cH}[Up K](L:bw C)(f:aE)(V:Z' f.biV<=24)(U:List (List Int)){n:Nat}(O:UOk n U)(S:List (List Nat))(j:Nat)(Q:j<Z' S)(s:List Nat)(R:S[j]?=some s)(A:∀x∈s,x<Z' U)(y:Z' s<=1000)(u:PV){F:PF}{H:PH}{Ls:List LI}
  (l:aR H [] Ls)
  (M:((((((((n_.set 2 (.bO f.cells)).set 6 (lay U)).set 9 (lay (jU S))).set 10 (u)).set 11 (.int .i64 j)).set 12 (.aK)).set 13 (.int .i64 0))).le F)
  (N:∀v H',aR H' [] (Ls++[(v,1,bF (dnL U s f.biV.length))])->K (.exit 4) (((((((n_.set 2 (.bO f.cells)).set 6 (lay U)).set 9 (lay (jU S))).set 10 (u)).set 11 (.int .i64 j)).set 12 (v))) H'):aC.wp C (.loop jb) K F H:=by
 refine wp_loop (α:=Nat × PV × PH) (λt=>(((((((n_.set 2 (.bO f.cells)).set 6 (lay U)).set 9 (lay (jU S))).set 10 (u)).set 11 (.int .i64 j)).set 12 (t.2.1)).set 13 (.int .i64 t.1))) (λt=>t.2.2) (λt=>t.1<=Z' f.biV/\aR t.2.2 [] (Ls++[(t.2.1,1,bF (dnL U s t.1))])) (λt=>Z' f.biV-t.1) (0,.aK,H) ⟨bkL _,l.rA 1⟩ M b_ ?_;clear l;rintro⟨d,v,B⟩ ⟨w,l⟩;simp only at w l;simp only[go_sem,jb,Vg,bkG];by_cases hlt:d<Z' f.biV
 ·have i:(d:Int)<(Z' f.biV:Nat):=Om;have e:=aWM U s d;have J:=a3R U s d;simp only[go_sem,i,Vh,Vi];have inn:=λ{K:cH} [Up K] {F:PF} {H:PH}=>a0G (C:=C) (K:=K) L (.bO f.cells) U O S j Q s R A y u v d (F:=F) (H:=H);refine inn Lq ?_;cases hb:mU U s d with
  |true=>
   rw[hb,aI rfl]at e;simp only[go_sem,jg,Vk];refine l.append Ls.length (rows:=bF (dnL U s d)) (src:=[[.int .i64 d]]) (IP _ _ _ rfl) Sq (by unfold roomFor;rw[dK];simp only[bkV,maxLen];omega) λv' H' E _=>?_;have p:bF (dnL U s d)++[[.int .i64 d]]=bF (dnL U s (d+1)):=by rw[e,KF];rfl
   rw[p,bnJ _ _ (bkN _),bnF]at E;simp only[go_sem,jh,wZz d];exact aG (d+1,v',H') ⟨hlt,E⟩ (by simp only;omega) Lq b_
  |false =>rw[hb,aD aU]at e;rw[<-e]at l;simp only[go_sem,jg,jh,wZz d];exact aG (d+1,v,B) ⟨hlt,l⟩ (by simp only;omega) Lq b_
 ·have i:¬(d:Int)<(Z' f.biV:Nat):=Om;have:d=Z' f.biV:=Om;subst this;simp only[go_sem,i];exact Up.up Lq (N v B l)
theorem aSX{K:cH}[Up K](L:bw C)(f:aE)(Q:Z' f.biV<=24)(U:List (List Int)){n:Nat}(O:UOk n U)(S:List (List Nat))(M:∀s∈S,Z' s<=1000/\∀x∈s,x<Z' U)(N:Z' S<=1099511627776){F:PF}{H:PH}
  (B:((((((n_.set 2 (.bO f.cells)).set 6 (lay U)).set 9 (lay (jU S))).set 10 (.aK)).set 11 (.int .i64 0))).le F)
  (E:∀p ps H',aR H' [] (fG p ps)->wls ps=S.map (λs=>dnL U s f.biV.length)->K (.exit 2) ((n_.set 10 (p))) H'):aC.wp C (.loop jc) K F H:=by
 refine wp_loop (α:=Nat × PV × WPs × PH) (λt=>(((((n_.set 2 (.bO f.cells)).set 6 (lay U)).set 9 (lay (jU S))).set 10 (t.2.1)).set 11 (.int .i64 t.1))) (λt=>t.2.2.2) (λt=>t.1<=Z' S/\wls t.2.2.1=(S.take t.1).map (λs=>dnL U s f.biV.length)/\aR t.2.2.2 [] (fG t.2.1 t.2.2.1)) (λt=>Z' S-t.1) (0,.aK,[],.nil) ⟨bkL _,rfl,aR.AV aR.nil⟩ B a_ ?_;rintro⟨j,p,ps,H⟩ ⟨R,y,A⟩;simp only at R y A;have l:(jU S).length=Z' S:=bkG _;simp only[go_sem,jc,Vd,bkG,l];by_cases hlt:j<Z' S
 ·have d:(j:Int)<(Z' S:Nat):=Om;obtain⟨s1,s2⟩:=M S[j] (bkK hlt);have V:Z' ps<=1099511627776:=by rw[<-DL,y,bkG,bkY];omega
  have w:(S.take (j+1)).map (λs=>dnL U s f.biV.length)=wls ps++[dnL U S[j] f.biV.length]:=by rw[blO hlt,blK,<-y];rfl
  have one:=λ{K:cH} [Up K] {F:PF} {H:PH}=>aSY (C:=C) (K:=K) L f Q U O S j hlt S[j] (bkT hlt) s2 s1 p (F:=F) (H:=H) (Ls:=fG p ps);simp only[go_sem,d,Ve,Vf];refine one A (by(repeat' (first|exact c_|refine d_ ?_ ?_))<;>first|(simp only[go_sem,l]<;>rfl)|rfl) λv H2 h5=>?_;have J:=h5.own (fG p ps).length (IP _ _ _ rfl);generalize dnL U S[j] f.biV.length=D at *
  have room:roomFor (eH ps).length 1 24:=by unfold roomFor;rw[pV];simp only[maxLen];omega
  have fin:∀(i:PV)(H':PH),aR H' [] ((fG p ps++[(v,1,bF D)]).set 0 (i,1,eH ps++[[v]]))->aR H' [] (fG i (ps++[(v,D)]))/\wls (ps++[(v,D)])=wls ps++[D]:=by
   intro i H' u;refine⟨?_,?_⟩
   ·have e:fG i (ps++[(v,D)])=(fG p ps++[(v,1,bF D)]).set 0 (i,1,eH ps++[[v]]):=by unfold fG eH sE;rw[blK,blK];rfl
    rw[e];exact u
   ·unfold wls;rw[blK];rfl
  rcases J with⟨-,rfl⟩|⟨q,rs,rfl,-,-,-⟩
  ·simp only[go_sem,ji,bkX,blD,or_false,forall_eq];refine h5.append 0 (rows:=eH ps) (src:=[[PV.aK]]) rfl Sq room λi H' u _=>?_;obtain⟨k1,k2⟩:=fin i H' u;simp only[go_sem,jj,wZz j];exact aG (j+1,i,_,H') ⟨hlt,k2.trans w.symm,k1⟩ (by simp only;omega) (by(repeat' (first|exact c_|refine d_ ?_ ?_))<;>first|(simp only[go_sem,l]<;>rfl)|rfl) b_
  ·simp only[go_sem,ji,bkX,blD,or_false,forall_eq];refine h5.append 0 (rows:=eH ps) (src:=[[PV.osl q 1 0 (bF D).length]]) rfl Sq room λi H' u _=>?_;obtain⟨k1,k2⟩:=fin i H' u;simp only[go_sem,jj,wZz j];exact aG (j+1,i,_,H') ⟨hlt,k2.trans w.symm,k1⟩ (by simp only;omega) (by(repeat' (first|exact c_|refine d_ ?_ ?_))<;>first|(simp only[go_sem,l]<;>rfl)|rfl) b_
 ·have d:¬(j:Int)<(Z' S:Nat):=Om;have:j=Z' S:=Om;subst this;rw[blE]at y;simp only[go_sem,d];exact Up.up Lq (E p ps H A y)
theorem a0H(L:bw C)(f:aE)(X:f.Ok)(lv cnt:Int) :
  XZ.wp C (aX aMU.res (cI (.tup [lay (fH f lv cnt),.int .i64 (eZ f lv cnt)]))) (g_ [.agg f.cells,oI lv cnt]) .nil:=by
 have hB:fH f lv cnt=if eZ f lv cnt=0 then tV f (iV f lv) cnt.toNat else[]:=rfl
 have B:eZ f lv cnt=if cQ f&&(decide (1<=lv)&&decide (lv<=5)&&decide (1<=cnt)&&decide (cnt<=3))then(if 12<Z' f.biV\/512<eQ ((iV f lv).length:Nat) cnt.toNat then 2 else 0)else 1:=rfl
 have l:∀(e:Int)(F:PF),e≠0->eZ f lv cnt=e->F 4=some .aK->F 5=some (.int .i64 e)->aX [.tmp 4,.tmp 5] (cI (.tup [lay (fH f lv cnt),.int .i64 (eZ f lv cnt)])) .ret F .nil:=by intro e F he d h2 h3;rw[d,aD he]at hB;rw[hB,d];exact tG (.inr rfl) (by simp only[go_sem,h2,h3]) (aR.AV aR.nil)
 have H:(cQ f&&(decide (1<=lv)&&decide (lv<=5)&&decide (1<=cnt)&&decide (cnt<=3)))=false->eZ f lv cnt=1:=λh=>by rw[B,h];rfl
 simp only[go_sem,XZ,anQ,anR,aMU];refine aB (L.valid f X) Ev ?_;cases hp:cQ f with
 |false =>have d:=H (by rw[hp];rfl);simp only[go_sem,bkW,DD];exact l 1 _ aU d Sq Sq
 |true=>
  have hV:=VF.of hp;by_cases y:lv<1
  ·have d:=H (by rw[bC (Om:¬1<=lv)];simp);simp only[go_sem,bkO,y,DD];exact l 1 _ aU d Sq Sq
  by_cases A:lv>5
  ·have d:=H (by rw[bC (Om:¬lv<=5)];simp);simp only[go_sem,bkO,y,A,DD];exact l 1 _ aU d Sq Sq
  by_cases J:cnt<1
  ·have d:=H (by rw[bC (Om:¬1<=cnt)];simp);simp only[go_sem,bkO,y,A,J,DD];exact l 1 _ aU d Sq Sq
  by_cases M:cnt>3
  ·have d:=H (by rw[bC (Om:¬cnt<=3)];simp);simp only[go_sem,bkO,y,A,J,M,DD];exact l 1 _ aU d Sq Sq
  obtain⟨n,rfl⟩:∃n:Nat,cnt=n:=⟨cnt.toNat,by omega⟩;rw[hp,aV (Om:1<=lv),aV (Om:lv<=5),aV (Om:(1:Int)<=(n:Int)),aV (Om:(n:Int)<=3),bmV,bmV,bmV,bmV,aI rfl,bmI]at B;rw[bmI]at hB;obtain⟨hU,W⟩:=LG hV lv;have u:=L.units f lv X hp Om Om;generalize iV f lv=U at *
  by_cases R:12<Z' f.biV
  ·have d:eZ f lv n=2:=by rw[B,aI (.inl R)]
   simp only[go_sem,bkO,y,A,J,M,ze,bkG,show(Z' f.biV:Int)>12 by omega,anS];exact l 2 _ aU d Sq Sq
  simp only[go_sem,bkO,y,A,J,M,ze,bkG,show ¬(Z' f.biV:Int)>12 by omega,anT];refine aB u Ev ?_;simp only[go_sem,anU,anV];refine wp_loop (α:=Nat) (λk=>(((((n_.set 2 (.bO f.cells)).set 3 (.bO [.int .i64 lv,.int .i64 n])).set 6 (lay U)).set 7 (.int .i64 (eQ (Z' U:Nat) k))).set 8 (.int .i64 k))) (λ_=>.nil) (λk=>k<=n) (λk=>n-k) 0 (bkL _) (by(repeat' (first|exact c_|refine d_ ?_ ?_))<;>first|(simp only[go_sem,eQ]<;>rfl)|rfl) a_ ?_;intro k hk;have O:Z' U<=1000:=Om;simp only[go_sem,U7,anW];by_cases hlt:k<n
  ·have p:(k:Int)<(n:Nat):=Om;obtain⟨b1,b2⟩:=FY O (i:=k) Om;have K:=FX O k Om;have hb:((Z' U:Int)-(k:Int)).natAbs<=1000:=Om;have E:=bnV (blH K (bnR Om (Om:k<=2))) hb;rw[<-Int.natAbs_mul]at E;have e:(1000:Nat)^2*1000=1000000000:=by decide
   have w1:i_.wrap ((Z' U:Int)-(k:Int))=(Z' U:Int)-k:=wrap_i64 Om Om;have w2:i_.wrap (eQ (Z' U:Nat) k*((Z' U:Int)-(k:Int)))=eQ (Z' U:Nat) k*((Z' U:Int)-k):=wrap_i64 Om Om;have w3:i_.wrap ((k:Int)+1)=(k:Int)+1:=wrap_i64 Om Om;have Q:¬((k:Int)+1)=0:=Om;obtain⟨b3,b4⟩:=FY O (i:=k+1) Om;have Z:eQ (Z' U:Nat) (k+1)=bmX (eQ (Z' U:Nat) k*((Z' U:Int)-k)) ((k:Int)+1):=by rw[eQ]
   rw[Z]at b3 b4;have w4:i_.wrap (bmX (eQ (Z' U:Nat) k*((Z' U:Int)-k)) ((k:Int)+1))=bmX (eQ (Z' U:Nat) k*((Z' U:Int)-k)) ((k:Int)+1):=wrap_i64 Om Om;simp only[go_sem,p,anX,bkG,w1,w2,w3,Q,w4,U8,wZz k];exact aG (k+1) hlt Om (by(repeat' (first|exact c_|refine d_ ?_ ?_))<;>first|(simp only[go_sem,Z]<;>rfl)|rfl) a_
  have p:¬(k:Int)<(n:Nat):=Om;have:k=n:=Om;subst this;by_cases V:512<eQ (Z' U:Nat) k
  ·have d:eZ f lv k=2:=by rw[B,aI (.inr V)]
   simp only[go_sem,p,jd,show eQ (Z' U:Nat) k>512 by omega,U9];exact l 2 _ aU d Sq Sq
  have d:eZ f lv k=0:=by rw[B,aD (λh=>h.elim R V)]
  rw[d,aI rfl]at hB;rw[hB,d];have N:=L.choose k 0 U.length Om Om Om;have w:=qP U.length k 0;have γ:=vY U.length k 0;have Y:2^(Z' U-0)<=2^40:=bnR Om Om;have β:(2:Nat)^40=1099511627776:=by decide
  have hP:tV f U k=(dT U.length k 0).map λs=>dnL U s f.biV.length:=rfl;rw[hP];generalize dT U.length k 0=S at *
  simp only[go_sem,p,jd,show ¬eQ (Z' U:Nat) k>512 by omega,Va,bkG];refine aB N (by simp only[go_sem];rfl) ?_;simp only[go_sem,Vb,Vc];refine aSX (C:=C) L f Om U hU S (λs K=>⟨by have:=(w s K).1;omega,λx hx=>((w s K).2.1 x hx).2⟩) Om Lq λvo ps H' hH hw=>?_;simp only[go_sem,Vl];rw[<-hw];exact tG (.inr rfl) Sq hH

theorem PZ(f:aE)(lv cnt:Int):(fH f lv cnt).length<=1099511627776/\∀w∈fH f lv cnt,Z' w<=1000:=by
 unfold fH;split
 ·rename_i h;unfold eZ at h;split at h
  ·rename_i e;simp only[bkI]at e;have hV:=VF.of e.1;obtain⟨k1,k2⟩:=zg hV (iV f lv) (LG hV lv).2 cnt.toNat;exact⟨k1,λw d=>by have:=(k2 w d).1;omega⟩
  ·cases h
 ·exact⟨by simp,λw d=>by cases d⟩
structure Zs(C:Ctx):Prop extends aHS C where
 tU:∀(f:aE)(lv cnt:Int),f.Ok->aH C 230 [.agg f.cells,oI lv cnt] .nil (aF (.tup [lay (fH f lv cnt),.int .i64 (eZ f lv cnt)]))
 ord:∀x y:RF,x.Ok->y.Ok->aH C 114 [.agg x.cells,.agg y.cells] .nil (aF (wJ x.neg (val x.num) (val x.den) y.neg (val y.num) (val y.den)))
 price:∀(f:aE)(bjH lv cnt:Int)(prices:List RF),f.Ok->(∀x∈prices,x.Ok)->(∀x∈prices,nl (val x.num)<=8/\nl (val x.den)<=8)->Z' prices<=1000000->aH C 231 [.agg f.cells,.int .i64 bjH,oI lv cnt,frs prices] .nil (aF (sX f bjH lv cnt prices))
theorem aCQ(L:Zs C)(x y:RF)(d:x.Ok)(e:y.Ok):aH C 114 [.agg x.cells,.agg y.cells] .nil (aF (.tup [.int .i64 (CF x.v y.v),.int .i64 (if cB x.v.2.1 x.v.2.2&&cB y.v.2.1 y.v.2.2 then 0 else 1)])):=by
 have:=L.ord x y d e;rw[<-aXA];exact this
def prS(y:RF)(r:PV):Spec:=λname _=>if name=336 then some ([],λ_=>aF (.agg y.cells))else some ([],λ_=>aF r)
theorem aIU(L:Zs C)(f:aE)(hf:f.Ok)(lv cnt:Int)(a b:List RF)(ha:∀x∈a,x.Ok)(hb:∀x∈b,x.Ok)(U:∀x∈b,nl (val x.num)<=8/\nl (val x.den)<=8)(la:Z' a<=1000000)(lb:Z' b<=1000000)
  (ε:cQ f=true->Z' f.biZ<=1000000/\Z' f.biX<=1000000) :
  JS.wp C (aX Mk.res (aF (.bool (rE f lv cnt a b)))) (g_ [.agg f.cells,oI lv cnt,frs a,frs b]) .nil:=by
 have k1:=L.tU f lv cnt hf;have k2:=L.prices a ha Om f.biZ.length;have k3:=L.prices b hb Om f.biV.length;have hB:rE f lv cnt a b=((decide (eZ f lv cnt=0)&&(fB a f.biZ.length&&fB b f.biV.length))&&(b.all rO&&(bkH f.biZ.length).all (yP f lv cnt a b))):=rfl;have M:=BL (f:=f) (lv:=lv) (cnt:=cnt);simp only[go_sem,JS,Cl,Mk,Cm];refine aB k1 Sq ?_;by_cases O:eZ f lv cnt=0
 ·have hp:=(M O).1;have hV:=VF.of hp;obtain⟨δ,S⟩:=ε hp;rw[aV O,bkR]at hB;simp only[go_sem,TN,cF O,bkG];refine aB k2 Sq ?_;cases N:fB a f.biZ.length with
  |false =>rw[N,bkP,bkP]at hB;simp only[go_sem,bkW,GC];exact dR Sq hB.symm
  |true=>
   rw[N,bkR]at hB;simp only[go_sem,bkO,bkG];refine aB k3 Sq ?_;cases h3:fB b f.biV.length with
   |false =>rw[h3,bkP]at hB;simp only[go_sem,bkW,GC];exact dR Sq hB.symm
   |true=>
    rw[h3,bkR]at hB;have l2:Z' a=Z' f.biZ:=by simp only[fB,bkI,dT_]at N;exact N.2
    have k6:aH C 336 [.int .i64 0] .nil (aF (.agg (FV.rf (false,0,1)).cells)):=L.number 0 aU;have β:=ii 0 aU;simp only[go_sem,bkO,Cn,bkG];refine wp_loop (α:=Nat) (λk=>(((((((n_.set 2 (frs a)).set 3 (frs b)).set 4 (.bO f.cells)).set 5 (.bO [.int .i64 lv,.int .i64 cnt])).set 46 (frs b)).set 47 (.int .i64 (Z' b:Nat))).set 48 (.int .i64 k))) (λ_=>.nil) (λk=>k<=Z' b/\∀x∈b.take k,rO x=true) (λk=>Z' b-k) 0 ⟨bkL _,λx h=>by cases h⟩ Lq a_ ?_;rintro k ⟨hk,w⟩;simp only[go_sem,ot,Cp];by_cases hlt:k<Z' b
    ·have d:(k:Int)<(Z' b:Nat):=Om;have hr:(b.map RF.cells)[k]?=some (b[k]).cells:=by simp[hlt]
     have u:=aCQ L b[k] (FV.rf (false,0,1)) (hb _ (bkK hlt)) β;rw[FV.xH]at u;have l:rO b[k]=true->∀x∈b.take (k+1),rO x=true:=λe x hx=>by
      rw[blO hlt]at hx;rcases blV.1 hx with h|h
      ·exact w x h
      ·rw[bmF]at h;rw[h];exact e
     have A:rO b[k]=false->rE f lv cnt a b=false:=λe=>by
      have:b.all rO=false:=by
       cases e2:b.all rO with
       |false=>rfl
       |true=>rw[bkS.1 e2 _ (bkK hlt)]at e;cases e
      rw[hB,this,bkP]
     have E:rO b[k]=!decide (CF (b[k]).v (false,0,1)>0):=rfl;generalize hx:b[k]=x at *
     generalize FV.rf (false,0,1)=z at *
     generalize CF x.v (false,0,1)=q at *
     simp only[go_sem,d,Cq,hr];refine aP λo ho=>?_;simp only[go_sem];refine bP _ (prS z (.tup [.int .i64 q,.int .i64 (if cB x.v.2.1 x.v.2.2&&cB 0 1 then 0 else 1)])) b_ ?_;simp only[go_sem,Cr];refine bK rfl k6 Sq b_ ?_;simp only[go_sem];refine bK rfl u Sq b_ ?_;simp only[go_sem,Cs];by_cases R:q>0
     ·rw[aV R]at E;simp only[go_sem,R,Ct];exact dR Sq (A E).symm
     ·rw[bC R]at E;simp only[go_sem,R,ov,wZz k];exact aG (k+1) ⟨hlt,l E⟩ Om Lq a_
    ·have d:¬(k:Int)<(Z' b:Nat):=Om;have K:k=Z' b:=Om;subst K;rw[blE]at w;rw[bkS.2 w,bkR]at hB;have k4:=L.demands f hV δ S;have η:=Mm f S;have ζ:(sR f).length=Z' f.biZ:=qF _ _;have Y:∀p:Nat,p<Z' f.biZ->yP f lv cnt a b p=(decide ((sR f).getD p 0=0)||!(decide (mL f p lv cnt b=0)&&decide (CF (qJ f p lv cnt b) ((a.map RF.v).getD p (false,0,1))<0))):=λp _=>rfl;have Z:∀p:Int,(qJ f p lv cnt b).rf.Ok:=λp=>by
      unfold qJ;cases uD f p lv cnt b with
      |none=>exact nw
      |some s =>refine awG b _ ?_ s;have h1:=M7 (fH f lv cnt) s (dS f p).m;have N:=(PZ f lv cnt).1;omega
     generalize θ:Z' f.biZ=np at *
     generalize sR f=ns at *
     simp only[go_sem,d,ow];refine aB k4 Sq ?_;simp only[go_sem,bkG];refine wp_loop (α:=Nat) (λk=>(((((((n_.set 2 (frs a)).set 3 (frs b)).set 4 (.bO f.cells)).set 5 (.bO [.int .i64 lv,.int .i64 cnt])).set 62 (ints ns)).set 63 (.int .i64 (Z' ns:Nat))).set 64 (.int .i64 k))) (λ_=>.nil) (λk=>k<=Z' ns/\∀p<k,yP f lv cnt a b p=true) (λk=>Z' ns-k) 0 ⟨bkL _,λx h=>absurd h (Nat.not_lt_zero x)⟩ Lq a_ ?_;rintro k ⟨hk,y⟩;simp only[go_sem,ou,oz];by_cases hlt:k<Z' ns
     ·have d:(k:Int)<(Z' ns:Nat):=Om;have hr:(ns.map λn=>[PV.int .i64 n])[k]?=some [.int .i64 ns[k]]:=by simp[hlt]
      have J:k<Z' a:=Om;have γ:(a.map RF.cells)[k]?=some (a[k]).cells:=by simp[J]
      have Q:=L.price f k lv cnt b hf hb U lb;rw[T7]at Q;have u:=aCQ L (qJ f k lv cnt b).rf a[k] (Z k) (ha _ (bkK J));rw[FV.xH]at u;have i:=Y k Om;have W:ns.getD k 0=ns[k]:=by rw[blB,bkT hlt];rfl
      have X:(a.map RF.v).getD k (false,0,1)=(a[k]).v:=by rw[blB,blC,bkT J];rfl
      rw[W,X]at i;have l:yP f lv cnt a b k=true->∀p<k+1,yP f lv cnt a b p=true:=λe p hp=>by
       rcases Nat.lt_succ_iff_lt_or_eq.1 hp with h|h
       ·exact y p h
       ·rw[h];exact e
      have A:yP f lv cnt a b k=false->rE f lv cnt a b=false:=λe=>by
       rw[hB];cases e2:(bkH np).all (yP f lv cnt a b)with
       |false=>rfl
       |true=>rw[bkS.1 e2 k (blN.2 Om)]at e;cases e
      generalize ns[k]=nk at *
      generalize a[k]=x at *
      generalize qJ f k lv cnt b=z at *
      generalize mL f k lv cnt b=pe at *
      generalize(uD f k lv cnt b).getD []=st at *
      generalize R:CF z x.v=q at *
      simp only[go_sem,d,pd,hr,pi];by_cases F:nk=0
      ·rw[aV F,Bool.true_or]at i;simp only[go_sem,bW F,DP,wZz k];exact aG (k+1) ⟨hlt,l i⟩ Om Lq a_
      ·rw[bC F,Bool.false_or]at i;simp only[go_sem,bL F,pj];refine aB Q Sq ?_;simp only[go_sem];refine aP λo ho=>?_;simp only[go_sem];refine bP _ (λ_ _=>some ([],λ_=>aF (.tup [.int .i64 q,.int .i64 (if cB z.2.1 z.2.2&&cB x.v.2.1 x.v.2.2 then 0 else 1)]))) b_ ?_;simp only[go_sem,pn,γ];refine bK rfl u Sq b_ ?_;simp only[go_sem,po];by_cases B:pe=0
       ·rw[aV B,bkR]at i;by_cases H:q<0
        ·rw[aV H]at i;simp only[go_sem,bW B,H,pq];exact dR Sq (A i).symm
        ·rw[bC H]at i;simp only[go_sem,bW B,H,DP,wZz k];exact aG (k+1) ⟨hlt,l i⟩ Om Lq a_
       ·rw[bC B,bkP]at i;simp only[go_sem,bL B,DP,wZz k];exact aG (k+1) ⟨hlt,l i⟩ Om Lq a_
     ·have d:¬(k:Int)<(Z' ns:Nat):=Om;have K:k=Z' ns:=Om;subst K;simp only[go_sem,d,pt];refine dR (b:=true) Sq ?_;rw[hB];exact(bkS.2 λp hp=>y p (by have:=blN.1 hp;omega)).symm
 ·have V:decide (eZ f lv cnt=0)=false:=bC O;rw[V,bkP,bkP]at hB;simp only[go_sem,TN,dP O,GC];exact dR Sq hB.symm
def jR:=bR [4] Proofs.Tryz.f7
def Ue:=aA jR 0
def Uf:=aA jR 1
def Ug:=aA jR 2
def Uh:=aA jR 3
def Ui:=cN jR 0
def Uj:=aA jR 4
def Uk:=aA jR 5
def Ul:=cN jR 1
def Um:=aA jR 6
def Ud:aC:=(cT Uk 30 0 Um (.draw Ul))
def G6:=aA jR 7
def G7:=aA jR 8
def G8:=cN jR 2
def G9:=aA jR 9
def G5:aC:=(cT G7 46 2 G9 (.draw G8))
def Ha:=aA jR 10
def PQ:aC:=(sq Ue (dA Uf 19 Ug (sq Uh (dq Ui (.seq (cD Uj 0 Ud) (.seq (cD G6 2 G5) (sq Ha .ret)))))))
def KP:bB:=⟨4,60,PQ,[.cell 8 (some 3),.tmp 9]⟩
def fF:=bR [4,5] Proofs.Tryz.f10
def Ir:=aA fF 0
def Is:=aA fF 1
def It:=aA fF 2
def Iu:=aA fF 3
def XY:=aA fF 4
def Iv:=aA fF 5
def Iw:=aA fF 6
def Ix:=aA fF 7
def Iy:=aA fF 8
def Iz:=aA fF 9
def s8:=aA fF 10
def sx:aC:=(cT Ix 33 0 s8 (sq Iy (.cond (Tm 41) (sq Iz .ret) .skip)))
def s9:=aA fF 11
def ta:=aA fF 12
def tc:=aA fF 13
def td:=aA fF 14
def te:=aA fF 15
def PT:=cN fF 0
def tf:=aA fF 16
def DZ:=aA fF 17
def s7:aC:=(cT tc 47 2 DZ (hL td 54 (.exit 3) (sq te (dq PT (.cond (Tm 73) (sq tf .ret) .skip)))))
def tg:=aA fF 18
def KV:aC:=(sq Ir (dA Is 21 It (.seq (sq Iu (sq XY (.cond (Tm 29) (sq Iv .ret) .skip))) (.seq (cD Iw 0 sx) (sq s9 (.seq (cD ta 2 s7) (sq tg .ret)))))))
def DB:bB:=⟨4,74,KV,[.tmp 8]⟩
def i8:=bR [3] Proofs.Tryz.f23
def I0:=aA i8 0
def I1:=aA i8 1
def KW:aC:=(sq I0 (sq I1 .ret))
def Ol:bB:=⟨3,23,KW,[.tmp 6]⟩
def qO:=bR [1] Proofs.Tryz.f25
def Hl:=aA qO 0
def Hm:=aA qO 1
def Hn:=aA qO 2
def Ho:=aA qO 3
def Hq:=aA qO 4
def Hr:=aA qO 5
def Hk:aC:=(cT Ho 13 0 Hr (.region Hq))
def Ht:=aA qO 6
def KQ:aC:=(sq Hl (sq Hm (.seq (cD Hn 0 Hk) (sq Ht .ret))))
def Oa:bB:=⟨1,28,KQ,[.tmp 2]⟩
def HK:=bR [3,5] Proofs.Tryz.f27
def anL:=aA HK 0
def anM:=cN HK 0
def anN:=aA HK 1
def anO:=aA HK 2
def XS:aC:=(sq anL (dq anM (sq anN (sq anO .ret))))
def aMQ:bB:=⟨3,25,XS,[.cell 6 (some 3)]⟩
def FB:=bR [2,3] Proofs.Tryz.f60
def aGA:=aA FB 0
def aGB:=aA FB 1
def O5:=aA FB 2
def aGC:=cN FB 0
def aGD:=cN FB 1
def kk:aC:=(sq aGA (dA aGB 13 O5 (.seq (dq aGC (.draw aGD)) .ret)))
def a1Q:bB:=⟨2,34,kk,[.cell 4 (some 3),.tmp 5]⟩
def AG:=bR [] Proofs.Tryz.f4
def abL:=aA AG 0
def abM:=aA AG 1
def abN:=aA AG 2
def abO:=aA AG 3
def abP:=cN AG 0
def GD:aC:=(sq abL (sq abM (sq abN (sq abO (dq abP .ret)))))
def Y7:bB:=⟨3,32,GD,[.cell 6 (some 7),.cell 7 (some 2),.tmp 8,.tmp 9]⟩
def oU:=bR [29] Proofs.Tryz.f5
def E5:=aA oU 0
def E6:=aA oU 1
def E7:=aA oU 2
def E8:=aA oU 3
def E9:=aA oU 4
def Fa:=aA oU 5
def Fb:=aA oU 6
def E4:aC:=(cT E8 13 0 Fb (sq E9 (.region Fa)))
def Fc:=aA oU 7
def KJ:aC:=(sq E5 (sq E6 (.seq (cD E7 0 E4) (sq Fc .ret))))
def M8:bB:=⟨3,32,KJ,[.tmp 6]⟩
def eO:=bR [] Proofs.Tryz.f3
def Es:=aA eO 0
def Et:=aA eO 1
def Eu:=cN eO 0
def Ew:=aA eO 2
def Ex:=aA eO 3
def Ey:=cN eO 1
def aKY:=aA eO 4
def Ez:=aA eO 5
def VQ:=aA eO 6
def E0:=aA eO 7
def qh:=aA eO 8
def qi:=aA eO 9
def OT:=aA eO 10
def qj:=aA eO 11
def qf:aC:=(cT qh 86 0 qj (sq qi (.cond (Tm 104) (sq OT .ret) .skip)))
def qk:=aA eO 12
def ql:=aA eO 13
def qn:=aA eO 14
def OU:=aA eO 15
def qp:=aA eO 16
def qg:aC:=(cT ql 109 2 qp (sq qn (.cond (Tm 127) (sq OU .ret) .skip)))
def qq:=aA eO 17
def qr:=aA eO 18
def qt:=cN eO 2
def KI:aC:=(sq Es (sq Et (dq Eu (sq Ew (sq Ex (.seq (dq Ey (.cond (Tm 73) (sq aKY .ret) .skip)) (dA Ez 81 VQ (.seq (cD E0 0 qf) (.seq (cD qk 2 qg) (sq qq (sq qr (dq qt .ret))))))))))))
def mo:bB:=⟨3,169,KI,[.tmp 6]⟩
abbrev oM:List PV:=[.bool false,.aK,.aK]
theorem oX{f:aE}{bjH lv cnt:Int}{prices:List RF}{e:Int}{res:List eC}(i:e≠0)(h:mL f bjH lv cnt prices=e){F:PF}{H:PH}(d:eC.evs F H res=some [.aK,.agg oM,.int .i64 e]) :
  aX res (cI (sX f bjH lv cnt prices)) .ret F H:=by
 have l:sX f bjH lv cnt prices=.tup [ints [],.agg (fC false [] []),.int .i64 e]:=by unfold sX uD;rw[h,aD i];show PV.tup [ints [],.agg (fC false (aM 0) (aM 0)),.int .i64 e]=_;rw[fJ]
 rw[l];exact bG (.inr rfl) .nil d a_ ⟨CoL.tup (.cons (.nil 1) (.cons (CoL.agg (.cons (.refl _) (.cons (.nil 1) (.cons (.nil 1) .nil)))) (.cons (.refl _) .nil))),rfl⟩
def l5:Option (List Int)->PV
 |none=>.aK
 |some s=>ints s
theorem FW:l5 none=.aK:=(rfl)
theorem oH(s:List Int):l5 (some s)=ints s:=(rfl)
def DN(d:List Int->FV):Option (List Int)->List PV
 |none=>oM
 |some s=>(d s).rf.cells
theorem G3{f:aE}{bjH lv cnt:Int}{prices:List RF}{res:List eC}(h:mL f bjH lv cnt prices=0){s:List Int}(hb:jI (mC f bjH lv cnt prices) (gP f (dS f bjH))=some s){F:PF}{H:PH}
  (d:eC.evs F H res=some [ints s,.agg (mC f bjH lv cnt prices s).rf.cells,.int .i64 0]):aX res (cI (sX f bjH lv cnt prices)) .ret F H:=by
 have e:sX f bjH lv cnt prices=.tup [ints s,.agg (mC f bjH lv cnt prices s).rf.cells,.int .i64 0]:=by unfold sX uD;rw[h,aI rfl,hb];rfl
 rw[e];exact bG (.inr rfl) .nil d a_ ⟨.refl _,rfl⟩
theorem zi{f:aE}{p:cJ}{s:List Int}(h:s∈gP f p):Z' s=(jE p).toNat/\∀d∈s,0<=d/\d<Z' f.biV:=by
 unfold gP at h;obtain⟨t,u,rfl⟩:=blF.1 (List.mem_filter.1 h).1;obtain⟨e,i,-⟩:=qP _ _ _ t u;refine⟨by rw[fZ,e],λd l=>?_⟩;obtain⟨x,w,rfl⟩:=blF.1 l;have:=i x w;omega
theorem aoH{f:aE}{p:cJ}{s:List Int}(h:s∈gP f p):s.Pairwise (· < ·):=by
 unfold gP at h;obtain⟨t,d,rfl⟩:=blF.1 (List.mem_filter.1 h).1;exact qy (qP _ _ _ t d).2.2
theorem V9(f:aE)(p:cJ)(l:Z' f.biV<=12):(gP f p).length<=4096:=by
 unfold gP;refine blH (boP ..) ?_;rw[bkG];have d:=vY f.biV.length (jE p).toNat 0;have i:2^(Z' f.biV-0)<=2^12:=bnR Om Om;have e:(2:Nat)^12=4096:=by decide
 omega
theorem yH{α:Type}{d:α->FV}{l:List α}{b:α}(h:jI d l=some b):b∈l:=by
 obtain⟨r,rfl⟩:∃r,l=List.reverse r:=⟨l.reverse,by simp⟩
 induction r with
 |nil=>cases h
 |cons s r e=>
  rw[List.reverse_cons]at h ⊢;rw[EJ]at h;cases hb:jI d r.reverse with
  |none =>rw[hb]at h;simp only[yB,bmH.injEq]at h;simp[h]
  |some i=>
   rw[hb]at h;unfold yB at h;simp only at h;split at h
   ·cases h;simp
   ·cases h;exact List.mem_append_left _ (e hb)
theorem ix(x:FV):val x.rf.num=x.2.1/\val x.rf.den=x.2.2/\x.rf.neg=x.1:=by
 have:=x.xH;unfold RF.v at this;obtain⟨n,a,b⟩:=x;injection this with e d
 injection d with d i
 exact⟨d,i,e⟩
theorem axP(x y:FV):wJ x.rf.neg (val x.rf.num) (val x.rf.den) y.rf.neg (val y.rf.num) (val y.rf.den)=if cB x.2.1 x.2.2&&cB y.2.1 y.2.2 then .tup [.int .i64 (tQ x y),.int .i64 0]else .tup [.int .i64 0,.int .i64 1]:=by
 obtain⟨d,e,i⟩:=ix x;obtain⟨g1,g2,g3⟩:=ix y;rw[d,e,i,g1,g2,g3];rfl
theorem avF(a:Nat):cB a 0=false:=by
 cases h:cB a 0 with
 |false=>rfl
 |true=>exact absurd rfl (eK.1 h).1
theorem aPH(U:aVD C)(f:aE)(hf:f.Ok)(bjH lv cnt:Int)(prices:List RF)(hp:∀x∈prices,x.Ok)(Ψ:∀x∈prices,nl (val x.num)<=8/\nl (val x.den)<=8)(d':Z' prices<=1000000) :
  OD.wp C (aX abK.res (cI (sX f bjH lv cnt prices))) (g_ [.agg f.cells,.int .i64 bjH,oI lv cnt,frs prices]) .nil:=by
 have V:mL f bjH lv cnt prices=if eZ f lv cnt≠0 then eZ f lv cnt else if(decide (0<=bjH)&&decide (bjH<Z' f.biZ))&&(decide (Z' prices=Z' f.biV)&&prices.all dZ)then(if gP f (dS f bjH)=[]then 12 else 0)else 1:=rfl
 simp only[go_sem,OD,P8,abK];refine aP λJ g'=>?_;have h1:aR (h_.set J (.rows 3 [oM])) [(J,.rows 3 [oM])] []:=aR.nil.new (H:=h_) rfl _;generalize(h_.set J _)=H1 at *
 have N:=h1.at 0 rfl;simp only[go_sem,P9];refine aB (U.tU f lv cnt hf) Sq ?_;by_cases c:eZ f lv cnt≠0
 ·simp only[go_sem,cw,dP c,Qa,N];exact oX c (by rw[V,aI c]) Sq
 have c:eZ f lv cnt=0:=Decidable.not_not.1 c;rw[aD (λh=>h c)]at V;obtain⟨Δ,W⟩:=BL c;have O:((decide (0<=bjH)&&decide (bjH<Z' f.biZ))&&(decide (Z' prices=Z' f.biV)&&prices.all dZ))=false->mL f bjH lv cnt prices=1:=λh=>by rw[V,h];rfl
 simp only[go_sem,cw,c,cF (show(0:Int)=0 from rfl),Qb];by_cases c1:bjH<0
 ·simp only[go_sem,c1,MF,N];exact oX aU (O (by rw[bC (Om:¬0<=bjH)];simp)) Sq
 by_cases c2:bjH>=(Z' f.biZ:Nat)
 ·simp only[go_sem,c1,bkG,c2,MF,N];exact oX aU (O (by rw[bC (Om:¬bjH<(Z' f.biZ:Nat))];simp)) Sq
 by_cases c3:Z' prices=Z' f.biV
 rotate_left
 ·simp only[go_sem,c1,bkG,c2,dP (Om:(Z' prices:Int)≠(Z' f.biV:Nat)),MF,N];exact oX aU (O (by rw[bC c3];simp)) Sq
 simp only[go_sem,c1,bkG,c2,cF (Om:(Z' prices:Int)=(Z' f.biV:Nat)),Qc];have σ:kY f bjH=true:=by unfold kY;rw[Δ,aV (Om:0<=bjH),aV (Om:bjH<(Z' f.biZ:Nat))];rfl
 refine wp_loop (α:=Nat × PH) (λt=>((((((((n_.set 1 (.int .i64 bjH)).set 3 (frs prices)).set 4 (.bO f.cells)).set 9 (.ptr J 3 0 0)).set 11 (lay (fH f lv cnt))).set 56 (frs prices)).set 57 (.int .i64 (Z' prices:Nat))).set 58 (.int .i64 t.1))) (λt=>t.2)
  (λt=>t.1<=Z' prices/\(∀x∈prices.take t.1,dZ x=true)/\aR t.2 [(J,.rows 3 [oM])] []) (λt=>Z' prices-t.1) (0,H1) ⟨bkL _,(λx h=>by cases h),h1⟩ Lq b_ ?_
 rintro⟨k,H2⟩ ⟨hk,A,h2⟩;simp only at hk A h2 ⊢;have N:=h2.at 0 rfl;simp only[go_sem,By,Qd];by_cases hlt:k<Z' prices
 ·have u:(k:Int)<(Z' prices:Nat):=Om;have hr:(prices.map RF.cells)[k]?=some (prices[k]).cells:=by simp[hlt]
  have Λ:=U.price1 prices[k] (hp _ (bkK hlt));have a':prices.take (k+1)=prices.take k++[prices[k]]:=blO hlt;have τ:prices[k]∈prices:=bkK hlt;generalize prices[k]=y at *
  simp only[go_sem,u,Qe,bkG,hr];refine aP λh' υ=>?_;have h3:=(h2.new υ (.rows 3 [y.cells])).dropLast;have N:=h3.at 0 rfl;simp only[go_sem,Qf];refine aB Λ Sq ?_;cases hm:dZ y with
  |false=>
   simp only[go_sem,bkW,B0,N];refine oX aU (O ?_) Sq;have:prices.all dZ=false:=by
    cases hh:prices.all dZ with
    |false=>rfl
    |true=>rw[bkS.1 hh _ τ]at hm;cases hm
   rw[this];simp
  |true=>
   simp only[go_sem,bkO,B5,wZz k];refine aG (k+1,_) ⟨hlt,λx hx=>?_,h3⟩ (by simp only;omega) Lq b_;simp only at hx;rw[a']at hx;rcases blV.1 hx with hx|hx
   ·exact A x hx
   ·rw[bmF.1 hx];exact hm
 have u:¬(k:Int)<(Z' prices:Nat):=Om;have ζ:k=Z' prices:=Om;subst ζ;rw[blE]at A;rw[aV (Om:0<=bjH),aV (Om:bjH<(Z' f.biZ:Nat)),aV c3,bkS.2 A,bmV,bmV,aI rfl]at V;have X:Modest prices:=λx hx=>⟨(MY (A x hx)).elim λr h=>h.2.2.2,Ψ x hx⟩;obtain⟨hV,h0,hm,he⟩:=CQ σ;obtain⟨ρ,Γ⟩:=zE σ;have B:=hV.bjH _ ρ;have ο:=(hf.bjH _ ρ).biW;have ν:(f.biZ.map cJ.cells)[bjH.toNat]?=some (dS f bjH).cells:=by rw[blC,Γ];rfl
 have Θ:bjH<(Z' f.biZ:Nat):=Om;have ι:=U.sets f (dS f bjH) hV W B.2.2.2.2.2.2.2 ο B.1 B.2.1 B.2.2.1 B.2.2.2.1;obtain⟨c',κ⟩:=zg hV (iV f lv) (LG hV lv).2 cnt.toNat;have Ξ:fH f lv cnt=tV f (iV f lv) cnt.toNat:=by unfold fH;rw[aI c]
 rw[<-Ξ]at c' κ;have η:=λ(set:List Int)(h:Z' set<=1000000000000000)(hs:set.Pairwise (· < ·))=>U.loss (fH f lv cnt) set (dS f bjH).m Om (λs hs=>⟨by have:=(κ s hs).1;omega,(κ s hs).2⟩) h hs;have hP:∀set,mC f bjH lv cnt prices set=mA prices (lG (fH f lv cnt) set (dS f bjH).m) set:=λ_=>rfl;have K:∀set,lG (fH f lv cnt) set (dS f bjH).m<=9223372036854775807:=λset=>by have:lG (fH f lv cnt) set (dS f bjH).m<=(fH f lv cnt).length:=boO;omega
 have Φ:(jE (dS f bjH)).toNat<=8/\1<=(jE (dS f bjH)).toNat:=by unfold jE;omega
 have F:=λs (h:s∈gP f (dS f bjH))=>zi h;have Ω:=λs (h:s∈gP f (dS f bjH))=>aoH h;have f':=V9 f (dS f bjH) W;simp only[go_sem,u,B6,h0,Θ,bkG,ν];refine aP λE φ=>?_;have h3:=h2.new φ (.rows 17 [(dS f bjH).cells]);simp only[go_sem,B7,B8];refine aP λw χ=>?_;have h4:=h3.new χ (.rows 3 [oM]);generalize e':(H2.set E _).set w _=H4 at *
 have Y:=h4.at 1 rfl;simp only[go_sem,B9,Y];refine aB ι Sq ?_;simp only[go_sem,bkG];have δ:∀t∈gP f (dS f bjH),(mC f bjH lv cnt prices t).rf.Ok/\cB (mC f bjH lv cnt prices t).2.1 (mC f bjH lv cnt prices t).2.2=true:=λt ht=>by have h1:=K t;have h2:=(F t ht).1;exact df (JP X (n:=lG (fH f lv cnt) t (dS f bjH).m) Om t Om) Om
 generalize hS:gP f (dS f bjH)=S at *
 generalize ε:mC f bjH lv cnt prices=e at *
 refine wp_loop (α:=Nat × PH) (λt=>(((((((((n_.set 3 (frs prices)).set 9 (.ptr J 3 0 0)).set 11 (lay (fH f lv cnt))).set 15 (.ptr E 17 0 0)).set 16 (l5 (jI e (S.take t.1)))).set 17 (.ptr w 3 0 0)).set 74 (lay S)).set 75 (.int .i64 (Z' S:Nat))).set 76 (.int .i64 t.1))) (λt=>t.2)
  (λt=>t.1<=Z' S/\aR t.2 [(J,.rows 3 [oM]),(E,.rows 17 [(dS f bjH).cells]),(w,.rows 3 [DN e (jI e (S.take t.1))])] []) (λt=>Z' S-t.1) (0,H4) ⟨bkL _,h4⟩ Lq b_ ?_
 rintro⟨k,H5⟩ ⟨hk,h5⟩;simp only at hk h5 ⊢;have N:=h5.at 0 rfl;have Y:=h5.at 1 rfl;have l:=h5.at 2 rfl;simp only[go_sem,Bz,Ca];by_cases hlt:k<Z' S
 ·have u:(k:Int)<(Z' S:Nat):=Om;have ξ:(S.map λr=>[ints r])[k]?=some [ints S[k]]:=by simp[hlt]
  have θ:S[k]∈S:=bkK hlt;obtain⟨g1,g2⟩:=F _ θ;have g3:=η S[k] Om (Ω _ θ);have g4:=K S[k];have g5:e S[k]=mA prices (lG (fH f lv cnt) S[k] (dS f bjH).m) S[k]:=by rw[<-ε];rfl
  have g6:=U.fr.frac (lG (fH f lv cnt) S[k] (dS f bjH).m) 1 (by unfold dJ;omega) (by unfold dJ;omega);rw[So g4]at g6;have p:=EJ e (S.take k) S[k];rw[<-blO hlt]at p;obtain⟨μ,ω⟩:=δ _ θ;generalize hs:S[k]=s at *
  generalize lG (fH f lv cnt) s (dS f bjH).m=n at *
  simp only[go_sem,u,Cb,ξ,bkG,Cc,Y];refine aB g3 Sq ?_;simp only[go_sem];refine aB g6 Sq ?_;simp only[go_sem];refine aP λb' ψ=>?_;have h6:=h5.new ψ (.rows 3 [(FV.rf (false,n,1)).cells]);simp only[go_sem,Cd,bkG];refine atS U prices hp X n Om s Om (λd hd=>by have:=g2 d hd;omega) J E w b' (lay (fH f lv cnt)) (l5 (jI e (S.take k))) (lay S) (Z' S:Nat) k [(J,.rows 3 [oM]),(E,.rows 17 [(dS f bjH).cells]),(w,.rows 3 [DN e (jI e (S.take k))])] _ _ _ Lq h6 λH7 h7=>?_;rw[<-g5]at h7;have l:=h7.at 2 rfl;have Q:=h7.at 3 rfl;cases hb:jI e (S.take k)with
  |none=>
   have hc:=(U.fr.ord (e s).rf (FV.rf (false,0,0)) μ ⟨aY _,aY _,(by show(aM 0).length<=_;rw[fJ];decide),(by show(aM 0).length<=_;rw[fJ];decide)⟩);rw[axP]at hc;simp only[avF,blR,bmT,if_false]at hc;have hz:(FV.rf (false,0,0)).cells=fC false [] []:=by show fC false (aM 0) (aM 0)=_;rw[fJ]
   rw[hz]at hc;rw[hb]at h7 p l;have l:H7 w=some (.rows 3 [oM]):=l;simp only[go_sem,TJ,Q,l,FW];refine aB (hc.args (.cons (.refl _) (.cons (CoL.agg (.cons (.refl _) (.cons (.nil 1) (.cons (.nil 1) .nil)))) .nil))) Sq ?_;simp only[go_sem,TK];refine bP .nil eJ a_ ?_;simp only[go_sem,TL,Q,l];refine⟨a_,?_⟩;simp only[go_sem,GB,wZz k];refine aG (k+1,_) ⟨hlt,?_⟩ (by simp only;omega) (by(repeat' (first|exact c_|refine d_ ?_ ?_))<;>first|(simp only[go_sem,p,yB,oH]<;>rfl)|rfl) b_;show aR _ [(J,.rows 3 [oM]),(E,.rows 17 [(dS f bjH).cells]),(w,.rows 3 [DN e (jI e (S.take (k+1)))])] [];rw[p];exact(h7.set 2 rfl (.rows 3 [(e s).rf.cells])).qR 3
  |some b=>
   obtain⟨b1,b2⟩:=δ b (by rw[<-hS]at *;exact boC (yH hb));have β:=(F b (boC (yH hb))).1;have hc:=U.fr.ord (e s).rf (e b).rf μ b1;rw[axP,ω,b2,bmV,aI rfl]at hc;rw[hb]at h7 p l;have l:H7 w=some (.rows 3 [(e b).rf.cells]):=l;obtain⟨x,r,rfl⟩:∃x r,b=x::r:=by
    cases b with
    |nil=>simp at β;omega
    |cons x r=>exact⟨x,r,rfl⟩
   have M:(ints (x::r)).rT=some false:=rfl;simp only[go_sem,TJ,Q,l,oH];refine aB hc Sq ?_;simp only[go_sem,TK,M];by_cases R:tQ (e s) (e (x::r))<0
   ·have p:jI e (S.take (k+1))=some s:=by rw[p];unfold yB;simp only[aI R]
    simp only[go_sem,R];refine bP .nil eJ a_ ?_;simp only[go_sem,TL,Q,l];refine⟨a_,?_⟩;simp only[go_sem,GB,wZz k];refine aG (k+1,_) ⟨hlt,?_⟩ (by simp only;omega) (by(repeat' (first|exact c_|refine d_ ?_ ?_))<;>first|(simp only[go_sem,p,oH]<;>rfl)|rfl) b_;show aR _ [(J,.rows 3 [oM]),(E,.rows 17 [(dS f bjH).cells]),(w,.rows 3 [DN e (jI e (S.take (k+1)))])] [];rw[p];exact(h7.set 2 rfl (.rows 3 [(e s).rf.cells])).qR 3
   ·have p:jI e (S.take (k+1))=some (x::r):=by rw[p];unfold yB;simp only[aD R]
    simp only[go_sem,R,GB,wZz k];refine aG (k+1,_) ⟨hlt,?_⟩ (by simp only;omega) (by(repeat' (first|exact c_|refine d_ ?_ ?_))<;>first|(simp only[go_sem,p,oH]<;>rfl)|rfl) b_;show aR _ [(J,.rows 3 [oM]),(E,.rows 17 [(dS f bjH).cells]),(w,.rows 3 [DN e (jI e (S.take (k+1)))])] [];rw[p];exact h7.qR 3
 have u:¬(k:Int)<(Z' S:Nat):=Om;have ζ:k=Z' S:=Om;subst ζ;rw[blE]at h5 l;simp only[go_sem,u,blE];cases hb:jI e S with
 |none=>
  have Z:S=[]:=by
   rcases Pl e S (λt ht=>(eK.1 (δ t ht).2).1)with⟨-,h⟩|⟨i,b,h,-⟩
   ·exact h
   ·rw[h]at hb;cases hb
  rw[aI Z]at V;simp only[go_sem,TM,FW,Cj,N];exact oX aU V Sq
 |some b=>
  have γ:=yH hb;have Z:¬S=[]:=λh=>by rw[h]at γ;cases γ
  have β:=(F b γ).1;rw[aD Z]at V;rw[hb]at l;have l:H5 w=some (.rows 3 [(e b).rf.cells]):=l;have M:(ints b).rT=some false:=by
   cases b with
   |nil=>simp at β;omega
   |cons x r=>rfl
  simp only[go_sem,TM,oH,M];refine bP .nil eJ a_ ?_;simp only[go_sem,Ck,N,l];refine⟨a_,?_⟩;rw[<-ε,<-hS]at hb;rw[<-ε];exact G3 V hb Sq
structure aVE(C:Ctx):Prop where
 tU:∀(f:aE)(lv cnt:Int),f.Ok->aH C 219 [.agg f.cells,oI lv cnt] .nil (aF (.tup [lay (fH f lv cnt),.int .i64 (eZ f lv cnt)]))
 lost:∀(sc:List (List Int)) (set:List Int) (m:Int),Z' sc<=1000000000000000->(∀s∈sc,Z' s<=1000000000000000)->Z' set<=1000000000000000->aH C 220 [lay sc,ints set,.int .i64 m] .nil (aF (.int .i64 (lG sc set m:Nat)))
 all:∀(f:aE)(bjH:Int),f.Ok->aH C 216 [.agg f.cells,.int .i64 bjH] .nil (aF (.tup [lay (FI f bjH),.int .i64 (vC f bjH)]))
 int:∀n:Int,dJ n->aH C 47 [.int .i64 n] .nil (aF (.agg (mkT n 1).cells))
 less:∀x y:RF,x.Ok->y.Ok->x.valid->y.valid->aH C 49 [.agg x.cells,.agg y.cells] .nil (aF (.bool (decide (qM x y<0))))
 O7:∀x y:RF,x.Ok->y.Ok->aH C 280 [.agg x.cells,.agg y.cells] .nil (aF (frV (vX x.v y.v)))
 modest:∀(l:List RF),(∀x∈l,x.Ok)->∀n:Nat,n<=1000->aH C 234 [frs l,.int .i64 n] .nil (aF (.bool (decide (Z' l=n)&&l.all dZ)))
theorem a5N(n:Nat):mkT n 1=FV.rf (false,n,1):=by
 rw[IR,Int.natAbs_natCast,bC (Om:¬(n:Int)<0)];rfl
theorem a9R(x y:FV):qM x.rf y.rf=tQ x y:=by
 obtain⟨d,e,i⟩:=ix x;obtain⟨g1,g2,g3⟩:=ix y;unfold qM;rw[d,e,i,g1,g2,g3];rfl
theorem arK{x:FV}(h:cB x.2.1 x.2.2=true):x.rf.valid:=by
 obtain⟨d,e,i⟩:=ix x;unfold RF.valid;rw[d,e];exact h
theorem auT(Lb:aVE C)(prices:List RF)(hp:∀x∈prices,x.Ok)(hm:Modest prices)(n:Nat)(hn:n<18446744073709551616)(S:List (List Int))(k:Nat)(hk:k<Z' S)(set:List Int)(hS:S[k]=set)(hs:Z' set<=12)(W:∀d∈set,0<=d/\d<Z' prices)
  (bjH:Int) (f:aE) (o9 A i:Nat) (E J:PV) (B:List BX) (K:cH) [Up K] (F:PF) (H:PH)
  (hF:((((((((((((n_.set 1 (.int .i64 bjH)).set 3 (frs prices)).set 4 (.bO f.cells)).set 9 (.ptr o9 3 0 0)).set 11 (E)).set 13 (lay S)).set 15 (J)).set 16 (.ptr A 3 0 0)).set 17 (.int .i64 k)).set 18 (.ptr i 3 0 0)).set 19 (.int .i64 0))).le F)
  (hH:aR H (B++[(i,.rows 3 [(FV.rf (false,n,1)).cells])]) [])
  (hK:∀H',aR H' (B++[(i,.rows 3 [(FV.rf (mA prices n set)).cells])]) []->K (.exit 2) (((((((((((n_.set 1 (.int .i64 bjH)).set 3 (frs prices)).set 4 (.bO f.cells)).set 9 (.ptr o9 3 0 0)).set 11 (E)).set 13 (lay S)).set 15 (J)).set 16 (.ptr A 3 0 0)).set 17 (.int .i64 k)).set 18 (.ptr i 3 0 0))) H') :
  aC.wp C (.loop XT) K F H:=by
 have p:(S.map λr=>[ints r])[k]?=some [ints set]:=by rw[blC,bkT hk,hS];rfl
 have Q:(k:Int)<(Z' S:Nat):=Om;refine yD _ (λ_ _ _ _ a b=>Up.up a b) hF ?_;refine wp_loop (α:=Nat × PH) (λt=>(((((((((((n_.set 1 (.int .i64 bjH)).set 3 (frs prices)).set 4 (.bO f.cells)).set 9 (.ptr o9 3 0 0)).set 11 (E)).set 13 (lay S)).set 15 (J)).set 16 (.ptr A 3 0 0)).set 17 (.int .i64 k)).set 18 (.ptr i 3 0 0)).set 19 (.int .i64 t.1))) (λt=>t.2)
  (λt=>t.1<=Z' set/\aR t.2 (B++[(i,.rows 3 [(FV.rf (mA prices n (set.take t.1))).cells])]) []) (λt=>Z' set-t.1) (0,H) ⟨bkL _,hH⟩ Lq b_ ?_
 rintro⟨j,H1⟩ ⟨hj,N⟩;simp only at hj N ⊢;simp only[go_sem,XT,Im,p,Q,bkG];by_cases hlt:j<Z' set
 ·have l:(j:Int)<(Z' set:Nat):=Om;have U:(set.map λx=>[PV.int .i64 x])[j]?=some [.int .i64 set[j]]:=by simp[hlt]
  have hd:=W _ (bkK hlt);have O:=JP hm hn (set.take j) (by rw[bkY];omega);have y:mA prices n (set.take (j+1))=(vX (mA prices n (set.take j)) (pA prices set[j])).got:=by rw[blO hlt,FZ]
  obtain⟨X,-⟩:=df O (by rw[bkY];omega);have M:=N.JH;generalize set[j]=d at *
  obtain⟨e,rfl⟩:∃e:Nat,d=e:=⟨d.toNat,by omega⟩;have w:e<Z' prices:=Om;have R:(e:Int)<(Z' prices:Nat):=hd.2;have Y:(prices.map RF.cells)[e]?=some (prices[e]).cells:=by simp[w]
  have Z:pA prices e=(prices[e]).v:=by unfold pA;simp[blB,w]
  have u:=Lb.O7 (FV.rf (mA prices n (set.take j))) prices[e] X (hp _ (bkK w));rw[FV.xH,<-Z,zA,<-y]at u;generalize mA prices n (set.take j)=c at *
  generalize V:mA prices n (set.take (j+1))=c' at *
  simp only[go_sem,l];refine bP .nil (stS 280 (.tup [.agg c'.rf.cells,.int .i64 (vX c (pA prices e)).err]) .aK) a_ ?_;simp only[go_sem,In,M,Q,p,l,U,R,bkG,Y];refine bK rfl u Sq a_ ?_;simp only[go_sem,M];refine⟨a_,?_⟩;simp only[go_sem,Io,wZz j];refine aG (j+1,_) ⟨hlt,?_⟩ (by simp only;omega) Lq b_;show aR _ (B++[(i,.rows 3 [(FV.rf (mA prices n (set.take (j+1)))).cells])]) [];rw[V];exact N.SO _
 ·have l:¬(j:Int)<(Z' set:Nat):=Om;have:j=Z' set:=Om;subst this;rw[blE]at N;simp only[go_sem,l];exact Up.up Lq (hK _ N)
theorem aSU(R:aVE C)(f:aE)(hf:f.Ok)(bjH lv cnt:Int)(prices:List RF)(hp:∀x∈prices,x.Ok)(ψ:∀x∈prices,nl (val x.num)<=8/\nl (val x.den)<=8) :
  PS.wp C (aX anP.res (cI (sX f bjH lv cnt prices))) (g_ [.agg f.cells,.int .i64 bjH,oI lv cnt,frs prices]) .nil:=by
 have O:mL f bjH lv cnt prices=if eZ f lv cnt≠0 then eZ f lv cnt else if(decide (0<=bjH)&&decide (bjH<Z' f.biZ))&&(decide (Z' prices=Z' f.biV)&&prices.all dZ)then(if gP f (dS f bjH)=[]then 12 else 0)else 1:=rfl
 simp only[go_sem,PS,Uw,anP];refine aP λK Ξ=>?_;have h1:aR (h_.set K (.rows 3 [oM])) [(K,.rows 3 [oM])] []:=aR.nil.new (H:=h_) rfl _;generalize(h_.set K _)=H1 at *
 have W:=h1.at 0 rfl;simp only[go_sem,Ux];refine aB (R.tU f lv cnt hf) Sq ?_;by_cases c:eZ f lv cnt≠0
 ·simp only[go_sem,i7,dP c,Uy,W];exact oX c (by rw[O,aI c]) Sq
 have c:eZ f lv cnt=0:=Decidable.not_not.1 c;rw[aD (λh=>h c)]at O;obtain⟨ρ,η⟩:=BL c;have U:((decide (0<=bjH)&&decide (bjH<Z' f.biZ))&&(decide (Z' prices=Z' f.biV)&&prices.all dZ))=false->mL f bjH lv cnt prices=1:=λh=>by rw[O,h];rfl
 simp only[go_sem,i7,c,cF (show(0:Int)=0 from rfl),Uz];by_cases c1:bjH<0
 ·simp only[go_sem,c1,NG,W];exact oX aU (U (by rw[bC (Om:¬0<=bjH)];simp)) Sq
 by_cases c2:bjH>=(Z' f.biZ:Nat)
 ·simp only[go_sem,c1,bkG,c2,NG,W];exact oX aU (U (by rw[bC (Om:¬bjH<(Z' f.biZ:Nat))];simp)) Sq
 simp only[go_sem,c1,bkG,c2];refine aB (R.modest prices hp f.biV.length Om) Sq ?_;cases N:(decide (Z' prices=Z' f.biV)&&prices.all dZ)with
 |false =>simp only[go_sem,bkW,NG,W];exact oX aU (U (by rw[N,blR])) Sq
 |true=>
  rw[N,aV (Om:0<=bjH),aV (Om:bjH<(Z' f.biZ:Nat)),bmV,bmV,aI rfl]at O;rw[bkI,dT_]at N;obtain⟨c3,A⟩:=N;have A:=bkS.1 A;have δ:kY f bjH=true:=by unfold kY;rw[ρ,aV (Om:0<=bjH),aV (Om:bjH<(Z' f.biZ:Nat))];rfl
  have Q:Modest prices:=λx hx=>⟨(MY (A x hx)).elim λr h=>h.2.2.2,ψ x hx⟩;obtain⟨hV,h0,hm,he⟩:=CQ δ;obtain⟨σ,ο⟩:=zE δ;have Δ:=hV.bjH _ σ;have ζ:(f.biZ.map cJ.cells)[bjH.toNat]?=some (dS f bjH).cells:=by rw[blC,ο];rfl
  have υ:bjH<(Z' f.biZ:Nat):=Om;have hA:vC f bjH=0/\FI f bjH=gP f (dS f bjH):=by
   have h1:vC f bjH=0:=by unfold vC;rw[δ,aI rfl,aD Om]
   refine⟨h1,?_⟩;unfold FI;rw[aI h1]
  have B:=R.all f bjH hf;rw[hA.2]at B;obtain⟨Γ,μ⟩:=zg hV (iV f lv) (LG hV lv).2 cnt.toNat;have φ:fH f lv cnt=tV f (iV f lv) cnt.toNat:=by unfold fH;rw[aI c]
  rw[<-φ]at Γ μ;have ε:=λ(set:List Int)(h:Z' set<=1000000000000000)=>R.lost (fH f lv cnt) set (dS f bjH).m Om (λs hs=>by have:=(μ s hs).1;omega) h;have F:∀set,lG (fH f lv cnt) set (dS f bjH).m<=9223372036854775807:=λset=>by have:lG (fH f lv cnt) set (dS f bjH).m<=(fH f lv cnt).length:=boO;omega
  have χ:(jE (dS f bjH)).toNat<=8/\1<=(jE (dS f bjH)).toNat:=by unfold jE;omega
  have y:=λs (h:s∈gP f (dS f bjH))=>zi h;have Λ:=V9 f (dS f bjH) η;simp only[go_sem,bkO,U1];refine aB B Sq ?_;simp only[go_sem,U2,U3];refine aP λu ι=>?_;have h4:=h1.new ι (.rows 3 [oM]);generalize Θ:H1.set u _=H4 at *
  simp only[go_sem,U4];have β:∀t∈gP f (dS f bjH),(mC f bjH lv cnt prices t).rf.Ok/\cB (mC f bjH lv cnt prices t).2.1 (mC f bjH lv cnt prices t).2.2=true:=λt ht=>by have h1:=F t;have h2:=(y t ht).1;exact df (JP Q (n:=lG (fH f lv cnt) t (dS f bjH).m) Om t Om) Om
  generalize hS:gP f (dS f bjH)=S at *
  generalize γ:mC f bjH lv cnt prices=e at *
  refine wp_loop (α:=Nat × PH) (λt=>(((((((((n_.set 1 (.int .i64 bjH)).set 3 (frs prices)).set 4 (.bO f.cells)).set 9 (.ptr K 3 0 0)).set 11 (lay (fH f lv cnt))).set 13 (lay S)).set 15 (l5 (jI e (S.take t.1)))).set 16 (.ptr u 3 0 0)).set 17 (.int .i64 t.1))) (λt=>t.2)
   (λt=>t.1<=Z' S/\aR t.2 [(K,.rows 3 [oM]),(u,.rows 3 [DN e (jI e (S.take t.1))])] []) (λt=>Z' S-t.1) (0,H4) ⟨bkL _,h4⟩ Lq b_ ?_
  rintro⟨k,H5⟩ ⟨hk,h5⟩;simp only at hk h5 ⊢;have W:=h5.at 0 rfl;have l:=h5.at 1 rfl;simp only[go_sem,Ii,Ij,bkG];by_cases hlt:k<Z' S
  ·have w:(k:Int)<(Z' S:Nat):=Om;have E:(S.map λr=>[ints r])[k]?=some [ints S[k]]:=by simp[hlt]
   have θ:S[k]∈S:=bkK hlt;obtain⟨g1,g2⟩:=y _ θ;have g3:=ε S[k] Om;have g4:=F S[k];have g5:e S[k]=mA prices (lG (fH f lv cnt) S[k] (dS f bjH).m) S[k]:=by rw[<-γ];rfl
   have g6:=R.int (lG (fH f lv cnt) S[k] (dS f bjH).m:Nat) (by unfold dJ;omega);rw[a5N]at g6;have p:=EJ e (S.take k) S[k];rw[<-blO hlt]at p;obtain⟨ν,ξ⟩:=β _ θ;have rc:=λ(n:Nat)(hn:n<18446744073709551616)(hs:(S[k]).length<=12)=>auT R prices hp Q n hn S k hlt S[k] rfl hs;generalize hs:S[k]=s at *
   generalize lG (fH f lv cnt) s (dS f bjH).m=n at *
   simp only[go_sem,w];refine bP .nil (stS 220 (.int .i64 n) (.agg (FV.rf (false,n,1)).cells)) a_ ?_;simp only[go_sem,Ik,w,E,bkG,h0,υ,ζ];refine bK rfl g3 Sq a_ ?_;simp only[go_sem];refine bK rfl g6 Sq a_ ?_;simp only[go_sem];refine aP λω κ=>?_;simp only[go_sem];refine⟨a_,?_⟩;have h6:=h5.new κ (.rows 3 [(FV.rf (false,n,1)).cells]);simp only[go_sem,Il,bkG];refine rc n Om Om (λd hd=>by have:=g2 d hd;omega) bjH f K u ω (lay (fH f lv cnt)) (l5 (jI e (S.take k))) [(K,.rows 3 [oM]),(u,.rows 3 [DN e (jI e (S.take k))])] _ _ _ Lq h6 λH7 h7=>?_;rw[<-g5]at h7;have l:=h7.at 1 rfl;have V:=h7.at 2 rfl;cases hb:jI e (S.take k)with
   |none =>rw[hb]at h7 p l;have l:H7 u=some (.rows 3 [oM]):=l;simp only[go_sem,XU,FW];refine bP .nil eJ a_ ?_;simp only[go_sem,XV,V,l,w,E,bkG];refine⟨a_,?_⟩;simp only[go_sem,HL,wZz k];refine aG (k+1,_) ⟨hlt,?_⟩ (by simp only;omega) (by(repeat' (first|exact c_|refine d_ ?_ ?_))<;>first|(simp only[go_sem,p,yB,oH]<;>rfl)|rfl) b_;show aR _ [(K,.rows 3 [oM]),(u,.rows 3 [DN e (jI e (S.take (k+1)))])] [];rw[p];exact(h7.set 1 rfl (.rows 3 [(e s).rf.cells])).qR 2
   |some b=>
    obtain⟨b1,b2⟩:=β b (boC (yH hb));have Y:=(y b (boC (yH hb))).1;have hc:=R.less (e s).rf (e b).rf ν b1 (arK ξ) (arK b2);rw[a9R]at hc;rw[hb]at h7 p l;have l:H7 u=some (.rows 3 [(e b).rf.cells]):=l;have J:(ints b).rT=some false:=by
     cases b with
     |nil=>simp at Y;omega
     |cons x r=>rfl
    simp only[go_sem,XU,V,l,oH,J];refine aB hc Sq ?_;simp only[go_sem];by_cases M:tQ (e s) (e b)<0
    ·have p:jI e (S.take (k+1))=some s:=by rw[p];unfold yB;simp only[aI M]
     simp only[go_sem,aV M];refine bP .nil eJ a_ ?_;simp only[go_sem,XV,V,l,w,E,bkG];refine⟨a_,?_⟩;simp only[go_sem,HL,wZz k];refine aG (k+1,_) ⟨hlt,?_⟩ (by simp only;omega) (by(repeat' (first|exact c_|refine d_ ?_ ?_))<;>first|(simp only[go_sem,p,oH]<;>rfl)|rfl) b_;show aR _ [(K,.rows 3 [oM]),(u,.rows 3 [DN e (jI e (S.take (k+1)))])] [];rw[p];exact(h7.set 1 rfl (.rows 3 [(e s).rf.cells])).qR 2
    ·have p:jI e (S.take (k+1))=some b:=by rw[p];unfold yB;simp only[aD M]
     simp only[go_sem,bC M,HL,wZz k];refine aG (k+1,_) ⟨hlt,?_⟩ (by simp only;omega) (by(repeat' (first|exact c_|refine d_ ?_ ?_))<;>first|(simp only[go_sem,p,oH]<;>rfl)|rfl) b_;show aR _ [(K,.rows 3 [oM]),(u,.rows 3 [DN e (jI e (S.take (k+1)))])] [];rw[p];exact h7.qR 2
  have w:¬(k:Int)<(Z' S:Nat):=Om;have τ:k=Z' S:=Om;subst τ;rw[blE]at h5 l;simp only[go_sem,w,blE];cases hb:jI e S with
  |none=>
   have X:S=[]:=by
    rcases Pl e S (λt ht=>(eK.1 (β t ht).2).1)with⟨-,h⟩|⟨i,b,h,-⟩
    ·exact h
    ·rw[h]at hb;cases hb
   rw[aI X]at O;simp only[go_sem,XW,FW,Ip,W];exact oX aU O Sq
  |some b=>
   have Z:=yH hb;have X:¬S=[]:=λh=>by rw[h]at Z;cases Z
   have Y:=(y b Z).1;rw[aD X]at O;rw[hb]at l;have l:H5 u=some (.rows 3 [(e b).rf.cells]):=l;have J:(ints b).rT=some false:=by
    cases b with
    |nil=>simp at Y;omega
    |cons x r=>rfl
   simp only[go_sem,XW,oH,J];refine bP .nil eJ a_ ?_;simp only[go_sem,Iq,W,l];refine⟨a_,?_⟩;rw[<-γ,<-hS]at hb;rw[<-γ];exact G3 O hb Sq
def rmS(p q:PV):Spec:=λname vs=>match name,vs with
 |60,[x,y]=>some ([],λ_=>aF (aN (aM (val (kN x)*val (kN y)))))
 |58,_=>some ([],λ_=>aF p)
 |57,_=>some ([],λ_=>aF q)
 |_,_=>none
theorem Uu(p q:PV)(a b:List Nat):rmS p q 60 [aN a,aN b]=some ([],λ_=>aF (aN (aM (val a*val b)))):=by
 show some _=_;rw[eX,eX]
theorem a7T(L:EG C)(x y:RF)(M:x.Ok)(N:y.Ok):kk.wp C (aX a1Q.res (cI (frV (qZ x.v y.v)))) (g_ [.agg x.cells,.agg y.cells]) .nil:=by
 obtain⟨i,a1,b1⟩:=x;obtain⟨l,a2,b2⟩:=y;have O:=L.valid _ M;have Q:=L.valid _ N;obtain⟨u,A,E,H⟩:=M;obtain⟨w,B,F,J⟩:=N;simp only at u A E H w B F J O Q;have S:qZ (RF.v ⟨i,a1,b1⟩) (RF.v ⟨l,a2,b2⟩)=if cB (val a1) (val b1)&&cB (val a2) (val b2)then kB (i != l) (val a1*val a2) (val b1*val b2)else .error 1:=rfl
 rw[S];simp only[go_sem,kk,aGA,a1Q];refine aP λo ho=>?_;simp only[go_sem,aGB];refine aB O Ev ?_;cases U:cB (val a1) (val b1)with
 |false =>simp only[go_sem,bkW,O5,bkP];exact gS Sq
 |true=>
  obtain⟨W,X,Y⟩:=eK.1 U;simp only[go_sem,bkO];refine aB Q Ev ?_;cases V:cB (val a2) (val b2)with
  |false =>simp only[go_sem,bkW,O5,blR];exact gS Sq
  |true=>
   obtain⟨Z,w2,w3⟩:=eK.1 V;have m1:=kZ Y w3;have m2:=kZ X w2;have R:val b1*val b2≠0:=Nat.mul_ne_zero W Z;have low:=L.lowest (i != l) (aM (val a1*val a2)) (aM (val b1*val b2)) (aY _) (aY _) (by rw[bE];omega) (by rw[bE];omega);rw[aW,aW]at low;have low:=low Om Om R;have d:=L.fits (pD (i != l) (val a1*val a2) (val b1*val b2));rw[axQ]at d;obtain⟨m,p,q,e,K⟩:=zC (kB (i != l) (val a1*val a2) (val b1*val b2));rw[K]at d;simp only[bmV,if_true];rw[K];generalize hlt:pD (i != l) (val a1*val a2) (val b1*val b2)=lt at *
   simp only[go_sem,bkO];refine bP .nil (rmS (.agg lt.rf.cells) (.tup [.agg (fC m p q),.int .i64 e])) a_ ?_;simp only[go_sem,aGC];refine bK (Uu _ _ a1 a2) (L.prod a1 a2 u w E F Om Om) Ev a_ ?_;simp only[go_sem];refine bK (Uu _ _ b1 b2) (L.prod b1 b2 A B H J Om Om) Ev a_ ?_;simp only[go_sem];refine bK rfl low (by simp only[go_sem];rfl) a_ ?_;simp only[go_sem];refine bK rfl d Sq a_ ?_;simp only[go_sem];refine bP .nil eJ a_ ?_;simp only[go_sem,aGD];refine⟨a_,?_⟩;exact bG (.inr rfl) .nil (by simp only[go_sem];rfl) a_ ⟨.refl _,rfl⟩
theorem aMS(valid:∀f:aE,f.Ok->aH C 67 [.agg f.cells] .nil (aF (.bool (cQ f))))(modest:∀(l:List RF),(∀x∈l,x.Ok)->∀n:Nat,n<=1000->aH C 234 [frs l,.int .i64 (n:Nat)] .nil (aF (.bool (decide (Z' l=n)&&l.all dZ))))
  (f:aE) (u:f.Ok) (w:cQ f=true->Z' f.biZ<=1000/\Z' f.biV<=1000) (a b:List RF) (p:∀x∈a,x.Ok) (hb:∀x∈b,x.Ok) :
  KW.wp C (aX Ol.res (aF (.bool (uA f a b)))) (g_ [.agg f.cells,frs a,frs b]) .nil:=by
 have k1:=valid f u;have hB:uA f a b=(cQ f&&(fB a f.biZ.length&&fB b f.biV.length)):=rfl;have i:∀(l:List RF)(n:Nat),fB l n=(decide (Z' l=n)&&l.all dZ):=λl n=>Bool.and_comm ..;rw[hB,i,i];simp only[go_sem,KW,I0,Ol,I1];refine aB k1 Sq ?_;cases hp:cQ f with
 |false =>simp only[go_sem];exact dR (b:=false) Sq rfl
 |true=>
  obtain⟨d,e⟩:=w hp;have k2:=modest a p f.biZ.length d;have y:=modest b hb f.biV.length e;simp only[go_sem,bkG];refine aB k2 Sq ?_;cases(decide (Z' a=Z' f.biZ)&&a.all dZ)with
  |false =>simp only[go_sem];exact dR (b:=false) Sq rfl
  |true =>simp only[go_sem,bkG];refine aB y Sq ?_;simp only[go_sem];exact dR Sq rfl
theorem xm(n:Nat):mkT (n:Nat) 1=FV.rf (false,n,1):=by
 unfold mkT pD;rw[Int.natAbs_natCast,show(1:Int).natAbs=1 from rfl,Nat.gcd_one_right,Nat.div_one,Nat.div_one];have e:decide ((n:Int)<0)=false:=bC Om;rw[e];rfl
theorem a0F(int:∀n:Int,dJ n->aH C 47 [.int .i64 n] .nil (aF (.agg (mkT n 1).cells)))(mul:∀x y:RF,x.Ok->y.Ok->aH C 350 [.agg x.cells,.agg y.cells] .nil (aF (frV (qZ x.v y.v))))
  (add:∀x y:RF,x.Ok->y.Ok->aH C 46 [.agg x.cells,.agg y.cells] .nil (aF (frV (gJ x.v y.v)))) (s x:RF) (K:s.Ok) (M:x.Ok) (n:Nat) (H:n<=9223372036854775807) :
  XS.wp C (aX aMQ.res (aF (.agg (yC s.v x.v n).rf.cells))) (g_ [.agg s.cells,.int .i64 (n:Nat),.agg x.cells]) .nil:=by
 have u:=int (n:Nat) (by unfold dJ;omega);rw[xm]at u;have N:=ii n H;have A:=mul (FV.rf (false,n,1)) x N M;rw[FV.xH,aQZ,zA]at A;have B:=add s _ K (aRA x.v (false,n,1));rw[FV.xH,zA]at B;unfold yC;generalize(gJ s.v (qZ x.v (false,n,1)).got).got=z at *
 generalize(gJ s.v (qZ x.v (false,n,1)).got).err=R at *
 generalize(qZ x.v (false,n,1)).got=w at *
 generalize(qZ x.v (false,n,1)).err=Q at *
 generalize FV.rf (false,n,1)=y at *
 simp only[go_sem,XS,anL,aMQ];refine aP λo6 J=>?_;simp only[go_sem];refine bP _ (stS 47 (.agg y.cells) (.tup [.agg w.rf.cells,.int .i64 Q])) b_ ?_;simp only[go_sem,anM];refine bK rfl u Sq b_ ?_;simp only[go_sem];refine bK rfl A Sq b_ ?_;simp only[go_sem];refine aP λo7 l=>?_;have d:¬o6=o7:=λe=>by rw[<-e,cW]at l;cases l
 have i:¬o7=o6:=λe=>d e.symm;simp only[go_sem,d,i];refine⟨e_ a_ (by simp only[go_sem,d,i]),?_⟩;simp only[go_sem,anN,d,i];refine aB B (by simp only[go_sem,d,i]) ?_;simp only[go_sem];refine aP λF p=>?_;have E:¬o6=F:=λe=>by rw[<-e]at p;simp[bD,d,i]at p
 have O:¬F=o6:=λe=>E e.symm;simp only[go_sem,d,i,E,O,anO];refine aT (.inr rfl) Ev ?_;rfl
theorem aMI(f:aE)(hV:VF f)(hp:Z' f.biZ<=1000000)(V:Z' f.biX<=1000000) :
  KQ.wp C (aX Oa.res (cI (ints (sR f)))) (g_ [.agg f.cells]) .nil:=by
 have B:(Z' f.biZ:Int)*((8:Nat):Int)<=140737488355328:=Om;have E:(Z' f.biZ:Int)<=9223372036854775807:=Om;have A:∀v (h:v<Z' f.biX),∃d:Nat,(f.biX[v]).bjH=(d:Int)/\d<Z' f.biZ:=λv h=>by obtain⟨R,J⟩:=hV.volume v h;refine⟨BB f v,?_,J⟩;unfold BB;simp only[blB,blC,bkT h,blJ,bnG];omega
 unfold sR;simp only[go_sem,KQ,Hl,Hm,Oa,bkG,B,E];refine aP λo U=>?_;simp only[go_sem,Hn];generalize S:Z' f.biZ=n at *
 refine wp_loop (α:=Nat) (λi=>(((n_.set 1 (.bO f.cells)).set 3 (.osl o 1 0 n)).set 4 (.int .i64 i))) (λi=>h_.set o (.rows 1 (bF (sQ n ((f.biX.map eI.bjH).take i))))) (λi=>i<=Z' f.biX) (λi=>Z' f.biX-i) 0 (bkL _) ?_ ?_ ?_
 ·exact Lq
 ·refine e_ a_ ?_;simp only[go_sem,List.take_zero];rw[abF,xO]
 intro i hi;simp only[go_sem,Hk,Ho,bkG];by_cases hlt:i<Z' f.biX
 ·have e:(i:Int)<(Z' f.biX:Nat):=Om;have N:(f.biX.map eI.cells)[i]?=some (f.biX[i]).cells:=by simp[hlt]
  obtain⟨d,H,p⟩:=A i hlt;have F:(f.biX.map eI.bjH).take (i+1)=(f.biX.map eI.bjH).take i++[((d:Nat):Int)]:=by rw[blO (by simpa using hlt),blX,H]
  generalize f.biX[i]=x at *
  have u:=xd (l:=sQ n ((f.biX.map eI.bjH).take i)) (i:=d) (by rw[qF];exact p);rw[awE _ p]at u;have K:((f.biX.map eI.bjH).take i).count (d:Int)<=1000000:=by refine blH (List.count_le_length ..) ?_;rw[bkY,bkG];omega
  have y:=awF ((f.biX.map eI.bjH).take i) p;rw[<-F]at y;have Q:i_.wrap (((((f.biX.map eI.bjH).take i).count (d:Int):Nat):Int)+1)=((((f.biX.map eI.bjH).take i).count (d:Int):Nat):Int)+1:=wrap_i64 Om Om;have w:(d:Int)<(n:Nat):=Om;have M:(d:Int)>=0:=Om;simp only[go_sem,e,Hq,N,H,blG,u,Q,Hr,vI,y,w,wZz i];refine aG (i+1) hlt Om Lq (e_ a_ ?_);simp only[go_sem]
 ·have e:¬(i:Int)<(Z' f.biX:Nat):=Om;have:i=Z' f.biX:=Om;subst this;have O:(f.biX.map eI.bjH).take f.biX.length=f.biX.map eI.bjH:=by rw[bkZ bH]
  simp only[go_sem,e,Ht,O];refine zb (.inr rfl) (o:=o) (s:=1) (k:=n) (rs:=bF (sQ n (f.biX.map eI.bjH))) Sq Sq (by rw[dK,qF];omega) ⟨?_,rfl⟩;rw[Ek,bkZ (by rw[dK,qF];omega)];exact .refl _
structure aHT(C:Ctx):Prop where
 prices:∀(f:aE)(a b:List RF),f.Ok->(cQ f=true->Z' f.biZ<=1000/\Z' f.biV<=1000)->(∀x∈a,x.Ok)->(∀x∈b,x.Ok)->aH C 339 [.agg f.cells,frs a,frs b] .nil (aF (.bool (uA f a b)))
 int:∀n:Int,dJ n->aH C 47 [.int .i64 n] .nil (aF (.agg (mkT n 1).cells))
 demand:∀f:aE,VF f->Z' f.biZ<=1000000->Z' f.biX<=1000000->aH C 340 [.agg f.cells] .nil (aF (ints (sR f)))
 plus:∀s x:RF,s.Ok->x.Ok->∀n:Nat,n<=9223372036854775807->aH C 341 [.agg s.cells,.int .i64 (n:Nat),.agg x.cells] .nil (aF (.agg (yC s.v x.v n).rf.cells))
 room:∀(f:aE)(room:List Int),f.Ok->aH C 85 [.agg f.cells,ints room] .nil (aF (ints (rW f room)))
theorem aSM(L:aHT C)(f:aE)(hf:f.Ok)(room:List Int)(a b:List RF)(ha:∀x∈a,x.Ok)(hb:∀x∈b,x.Ok)(la:Z' a<=1000000)(lb:Z' b<=1000000)
  (J:cQ f=true->vh (rW f room)/\(rW f room).length=Z' f.biV) (K:cQ f=true->Z' f.biZ<=1000/\Z' f.biX<=1000/\Z' f.biV<=1000) :
  PQ.wp C (aX KP.res (cI (AD f room a b))) (g_ [.agg f.cells,ints room,frs a,frs b]) .nil:=by
 have k1:=L.prices f a b hf (λh=>⟨(K h).1,(K h).2.2⟩) ha hb;have hB:AD f room a b=if uA f a b then .tup [.agg (RQ f room a b).rf.cells,.int .i64 0]else .tup [.agg (fC false [] []),.int .i64 1]:=rfl
 have u:uA f a b=(cQ f&&(fB a f.biZ.length&&fB b f.biV.length)):=rfl;simp only[go_sem,PQ,Ue,KP];refine aP λo8 γ=>?_;simp only[go_sem,Uf];refine aB k1 Sq ?_;cases E:uA f a b with
 |false =>rw[E]at hB;rw[hB];simp only[go_sem,bkW,Ug];exact gS (e:=1) Sq
 |true=>
  rw[E,aI rfl]at hB;rw[E]at u;have u:=u.symm;simp only[bkI]at u;obtain⟨hp,Z,h3⟩:=u;have hV:=VF.of hp;obtain⟨δ,ε,ζ⟩:=K hp;obtain⟨X,R⟩:=J hp;have k4:=L.demand f hV Om Om;have k5:=L.room f room hf;have V:=Mm f Om;have O:(sR f).length=Z' f.biZ:=qF _ _;have l2:Z' a=Z' f.biZ:=by simp only[fB,bkI,dT_]at Z;exact Z.2
  have l3:Z' b=Z' f.biV:=by simp only[fB,bkI,dT_]at h3;exact h3.2
  rw[<-l2]at O;rw[<-l3]at R;have k6:aH C 47 [.int .i64 0] .nil (aF (.agg (mkT ((0:Nat):Int) 1).cells)):=L.int 0 aU;rw[xm]at k6;rw[hB];unfold RQ;generalize sR f=ns at *
  generalize rW f room=rs at *
  have y:=L.plus;have N:=ii 0 aU;have w:∀(l:List RF),(∀x∈l,x.Ok)->∀(ms:List Int),vh ms->Z' ms=Z' l->∀(s:FV),s.rf.Ok->∀k,k<Z' l->∃x m,(l.map RF.cells)[k]?=some (RF.cells x)/\(ms.map λn=>[PV.int .i64 n])[k]?=some [.int .i64 m] /\
    aH C 341 [.agg (kK s ((l.map RF.v).take k) ((ms.map blS).take k)).rf.cells,.int .i64 m,.agg x.cells] .nil (aF (.agg (kK s ((l.map RF.v).take (k+1)) ((ms.map blS).take (k+1))).rf.cells)):=by
   intro l hl ms W β s hs k Q;have F:k<Z' ms:=Om;obtain⟨g1,g2⟩:=W _ (bkK F);refine⟨l[k],ms[k],by simp[Q],by simp[F],?_⟩;have h:=y (kK s ((l.map RF.v).take k) ((ms.map blS).take k)).rf l[k] (CH hs) (hl _ (bkK Q)) ms[k].toNat Om;rw[Int.toNat_of_nonneg g1,FV.xH]at h;rw[Qz s (by simpa using Q) (by simpa using F),blX,blX];exact h
  have hA:=w a ha ns V O (false,0,1) N;have U:=w b hb rs X R (kK (false,0,1) (a.map RF.v) (ns.map blS)) (CH N);clear w y;simp only[go_sem,bkO,Uh];refine aB k6 Sq ?_;simp only[go_sem];refine aP λi B=>?_;have p:¬o8=i:=λe=>by rw[<-e,cW]at B;cases B
  have A:¬i=o8:=λe=>p e.symm;simp only[go_sem];refine bP .nil (λnm _=>if nm=340 then some ([],λ_=>aF (ints ns))else some ([],λ_=>aF (ints rs))) a_ ?_;simp only[go_sem,Ui];refine bK rfl k4 Sq a_ ?_;simp only[go_sem];refine bK rfl k5 Sq a_ ?_;simp only[go_sem,Uj];refine wp_loop (α:=Nat) (λk=>(((((((n_.set 2 (frs a)).set 3 (frs b)).set 8 (.ptr o8 3 0 0)).set 10 (.ptr i 3 0 0)).set 11 (ints ns)).set 12 (ints rs)).set 13 (.int .i64 k)))
   (λk=>(h_.set o8 (.rows 3 [[.bool false,.aK,.aK]])).set i (.rows 3 [(kK (false,0,1) ((a.map RF.v).take k) ((ns.map blS).take k)).rf.cells])) (λk=>k<=Z' a) (λk=>Z' a-k) 0 (bkL _) ?_ ?_ ?_
  ·exact Lq
  ·refine e_ (e_ a_ (by simp only[go_sem,p])) ?_;simp only[go_sem,List.take_zero];rfl
  intro k Q;simp only[go_sem,Ud,Uk,bkG];by_cases hlt:k<Z' a
  ·have d:(k:Int)<(Z' a:Nat):=Om;obtain⟨x,m,S,e2,M⟩:=hA k Om;generalize Y:kK (false,0,1) ((a.map RF.v).take (k+1)) ((ns.map blS).take (k+1))=z at M;simp only[go_sem,d];refine bP .nil (λ_ _=>some ([],λ_=>aF (.agg z.rf.cells))) a_ ?_;simp only[go_sem,Ul,S,e2];refine bK rfl M Sq a_ ?_;simp only[go_sem,p,A];refine⟨a_,?_⟩;simp only[go_sem,Um,wZz k];refine aG (k+1) hlt Om Lq (e_ (e_ a_ (by simp only[go_sem,p,A])) ?_);rw[Y];simp only[go_sem,p,A]
  ·have d:¬(k:Int)<(Z' a:Nat):=Om;have H:k=Z' a:=Om;subst H;have t1:(a.map RF.v).take a.length=a.map RF.v:=by rw[bkZ (by rw[bkG];exact bkN _)]
   have t2:(ns.map blS).take a.length=ns.map blS:=by rw[bkZ (by rw[bkG];omega)]
   rw[t1,t2];generalize kK (false,0,1) (a.map RF.v) (ns.map blS)=s1 at *
   simp only[go_sem,d,G6];refine wp_loop (α:=Nat) (λk=>(((((n_.set 3 (frs b)).set 8 (.ptr o8 3 0 0)).set 10 (.ptr i 3 0 0)).set 12 (ints rs)).set 14 (.int .i64 k)))
    (λk=>(h_.set o8 (.rows 3 [[.bool false,.aK,.aK]])).set i (.rows 3 [(kK s1 ((b.map RF.v).take k) ((rs.map blS).take k)).rf.cells])) (λk=>k<=Z' b) (λk=>Z' b-k) 0 (bkL _) ?_ ?_ ?_
   ·exact Lq
   ·refine e_ (e_ a_ (by simp only[go_sem,p,A])) ?_;simp only[go_sem,List.take_zero,p,A];rfl
   intro k Q;simp only[go_sem,G5,G7,bkG];by_cases hlt:k<Z' b
   ·have d:(k:Int)<(Z' b:Nat):=Om;obtain⟨x,m,S,e2,M⟩:=U k Om;generalize Y:kK s1 ((b.map RF.v).take (k+1)) ((rs.map blS).take (k+1))=z at M;simp only[go_sem,d];refine bP .nil (λ_ _=>some ([],λ_=>aF (.agg z.rf.cells))) a_ ?_;simp only[go_sem,G8,S,e2];refine bK rfl M Sq a_ ?_;simp only[go_sem,p,A];refine⟨a_,?_⟩;simp only[go_sem,G9,wZz k];refine aG (k+1) hlt Om Lq (e_ (e_ a_ (by simp only[go_sem,p,A])) ?_);rw[Y];simp only[go_sem,p,A]
   ·have d:¬(k:Int)<(Z' b:Nat):=Om;have H:k=Z' b:=Om;subst H;have t3:(b.map RF.v).take b.length=b.map RF.v:=by rw[bkZ (by rw[bkG];exact bkN _)]
    have t4:(rs.map blS).take b.length=rs.map blS:=by rw[bkZ (by rw[bkG];omega)]
    rw[t3,t4];simp only[go_sem,d,Ha,p,A];exact bG (.inr rfl) .nil (by simp only[go_sem,p,A];rfl) a_ ⟨.refl _,rfl⟩
theorem fy{x:RF}(h:dZ x=true):x.valid:=by
 obtain⟨r,d,-⟩:=MY h;unfold mY at d;split at d
 ·rename_i e;exact e
 ·cases d
theorem awD{x:RF}{y:RF}(d:x.valid)(e:y.valid):CF x.v y.v=qM x y:=by
 unfold CF;rw[aI]
 ·rfl
 ·rw[bkI];exact⟨d,e⟩
theorem aSA:RF.valid (FV.rf (false,0,1)):=by
 unfold RF.valid;show cB (val (aM 0)) (val (aM 1))=true;rw[aW,aW];exact eK.2 ⟨by decide,by rw[nl,nS];simp,by rw[nl,fJ];simp⟩
theorem aPE{x:RF}(d:x.valid):CF x.v (false,0,1)=sM x:=by
 have h:=awD d aSA;rw[FV.xH]at h;rw[h,<-alX];rw[show(0:Int)=((0:Nat):Int)from rfl,xm]
theorem aOV{α:Type}{e:α->FV}{l:List α}(h:jI e l=none):l=[]:=by
 obtain⟨r,rfl⟩:∃r,l=List.reverse r:=⟨l.reverse,by simp⟩;cases r with
 |nil=>rfl
 |cons d r=>
  rw[List.reverse_cons,EJ]at h;unfold yB at h;split at h
  ·cases h
  ·split at h<;>cases h
theorem aKT{f:aE}{lv cnt:Int}{b:List RF}(l:∀x∈b,nl (val x.num)<=8/\nl (val x.den)<=8){p:Nat}(hp:p<Z' f.biZ)(J:eZ f lv cnt=0)(d:fB b f.biV.length=true)(u:mL f p lv cnt b=0) :
  (qJ f p lv cnt b).rf.valid:=by
 simp only[fB,bkI,dT_]at d;have i:Modest b:=λx K=>⟨(MY (bkS.1 d.1 x K)).elim λr h=>h.2.2.2,l x K⟩;have O:mL f p lv cnt b=if gP f (dS f p)=[]then 12 else 0:=by unfold mL;rw[aD (λh=>h J),aV (Om:(0:Int)<=(p:Int)),aV (Om:(p:Int)<(Z' f.biZ:Nat)),aV d.2,d.1];rfl
 have A:gP f (dS f p)≠[]:=λh=>by rw[O,aI h]at u;cases u
 obtain⟨e,F⟩:=BL J;have y:kY f p=true:=by unfold kY;rw[e,aV (Om:(0:Int)<=(p:Int)),aV (Om:(p:Int)<(Z' f.biZ:Nat))];rfl
 have hV:=VF.of e;obtain⟨w,-⟩:=zE y;have H:=hV.bjH _ w;have B:(jE (dS f p)).toNat<=8:=by unfold jE;omega
 unfold qJ uD;rw[aI u];cases hb:jI (mC f p lv cnt b) (gP f (dS f p))with
 |none=>exact absurd (aOV hb) A
 |some s=>
  have Q:=(zi (yH hb)).1;have R:=M7 (fH f lv cnt) s (dS f p).m;have S:=(PZ f lv cnt).1;have N:=(df (JP i (n:=lG (fH f lv cnt) s (dS f p).m) Om s Om) Om).2;unfold RF.valid;show cB (val ((mC f p lv cnt b s).rf).num) (val ((mC f p lv cnt b s).rf).den)=true;have h5:=FV.xH (mC f p lv cnt b s);have E:(mC f p lv cnt b s).rf.v.2=(mC f p lv cnt b s).2:=by rw[h5]
  have M:val ((mC f p lv cnt b s).rf).num=(mC f p lv cnt b s).2.1:=congrArg Prod.fst E;have e2:val ((mC f p lv cnt b s).rf).den=(mC f p lv cnt b s).2.2:=congrArg Prod.snd E;rw[M,e2];exact N
structure aOM(C:Ctx):Prop extends aHT C where
 tU:∀(f:aE)(lv cnt:Int),f.Ok->aH C 219 [.agg f.cells,oI lv cnt] .nil (aF (.tup [lay (fH f lv cnt),.int .i64 (eZ f lv cnt)]))
 sign:∀x:RF,x.Ok->x.valid->aH C 54 [.agg x.cells] .nil (aF (.int .i64 (sM x)))
 less:∀x y:RF,x.Ok->y.Ok->x.valid->y.valid->aH C 49 [.agg x.cells,.agg y.cells] .nil (aF (.bool (decide (qM x y<0))))
 price:∀(f:aE)(bjH lv cnt:Int)(prices:List RF),f.Ok->(∀x∈prices,x.Ok)->(∀x∈prices,nl (val x.num)<=8/\nl (val x.den)<=8)->aH C 233 [.agg f.cells,.int .i64 bjH,oI lv cnt,frs prices] .nil (aF (sX f bjH lv cnt prices))
theorem aMR(L:aOM C)(f:aE)(hf:f.Ok)(lv cnt:Int)(a b:List RF)(ha:∀x∈a,x.Ok)(hb:∀x∈b,x.Ok)(U:∀x∈b,nl (val x.num)<=8/\nl (val x.den)<=8)(la:Z' a<=1000000)(lb:Z' b<=1000000)
  (Q:cQ f=true->Z' f.biZ<=1000/\Z' f.biX<=1000/\Z' f.biV<=1000) :
  KV.wp C (aX DB.res (aF (.bool (rE f lv cnt a b)))) (g_ [.agg f.cells,oI lv cnt,frs a,frs b]) .nil:=by
 have k1:=L.prices f a b hf (λh=>⟨(Q h).1,(Q h).2.2⟩) ha hb;have k2:=L.tU f lv cnt hf;have hB:rE f lv cnt a b=((decide (eZ f lv cnt=0)&&(fB a f.biZ.length&&fB b f.biV.length))&&(b.all rO&&(bkH f.biZ.length).all (yP f lv cnt a b))):=rfl;have u:uA f a b=(cQ f&&(fB a f.biZ.length&&fB b f.biV.length)):=rfl;have O:=BL (f:=f) (lv:=lv) (cnt:=cnt);simp only[go_sem,KV,Ir,DB,Is];refine aB k1 Sq ?_;cases V:uA f a b with
 |false=>
  simp only[go_sem,bkW,It];refine dR (b:=false) Sq ?_;rw[hB];by_cases M:eZ f lv cnt=0
  ·rw[V,(O M).1,bkR]at u;rw[<-u,blR,bkP]
  ·rw[bC M,bkP,bkP]
 |true=>
  rw[V]at u;have u:=u.symm;simp only[bkI]at u;obtain⟨hp,S,Y⟩:=u;rw[S,Y,bmV,bmO]at hB;simp only[go_sem,bkO,Iu];refine aB k2 Sq ?_;by_cases M:eZ f lv cnt=0
  rotate_left
  ·rw[bC M,bkP]at hB;simp only[go_sem,XY,dP M,Iv];exact dR Sq hB.symm
  rw[aV M,bkR]at hB;have hV:=VF.of hp;obtain⟨ν,ξ,ο⟩:=Q hp;have l2:Z' a=Z' f.biZ:=by simp only[fB,bkI,dT_]at S;exact S.2
  have va:∀x∈a,x.valid:=λx R=>by simp only[fB,bkI]at S;exact fy (bkS.1 S.1 x R)
  have vb:∀x∈b,x.valid:=λx R=>by simp only[fB,bkI]at Y;exact fy (bkS.1 Y.1 x R)
  simp only[go_sem,XY,cF M,Iw];refine wp_loop (α:=Nat) (λk=>(((((n_.set 2 (frs a)).set 3 (frs b)).set 4 (.bO f.cells)).set 5 (.bO [.int .i64 lv,.int .i64 cnt])).set 11 (.int .i64 k))) (λ_=>.nil) (λk=>k<=Z' b/\∀x∈b.take k,rO x=true) (λk=>Z' b-k) 0 ⟨bkL _,λx h=>by cases h⟩ Lq a_ ?_;rintro k ⟨hk,A⟩;simp only[go_sem,sx,Ix,bkG];by_cases hlt:k<Z' b
  ·have d:(k:Int)<(Z' b:Nat):=Om;have hr:(b.map RF.cells)[k]?=some (b[k]).cells:=by simp[hlt]
   have ι:=L.sign b[k] (hb _ (bkK hlt)) (vb _ (bkK hlt));have l:rO b[k]=true->∀x∈b.take (k+1),rO x=true:=λe x R=>by
    rw[blO hlt]at R;rcases blV.1 R with h|h
    ·exact A x h
    ·rw[bmF]at h;rw[h];exact e
   have E:rO b[k]=false->rE f lv cnt a b=false:=λe=>by
    have:b.all rO=false:=by
     cases e2:b.all rO with
     |false=>rfl
     |true=>rw[bkS.1 e2 _ (bkK hlt)]at e;cases e
    rw[hB,this,bkP]
   have H:rO b[k]=!decide (sM b[k]>0):=by rw[<-aPE (vb _ (bkK hlt))];rfl
   generalize R:b[k]=x at *
   generalize sM x=q at *
   simp only[go_sem,d,Iy,hr];refine aB ι Sq ?_;simp only[go_sem];by_cases Z:q>0
   ·rw[aV Z]at H;simp only[go_sem,Z,Iz];exact dR Sq (E H).symm
   ·rw[bC Z]at H;simp only[go_sem,Z,s8,wZz k];exact aG (k+1) ⟨hlt,l H⟩ Om Lq a_
  ·have d:¬(k:Int)<(Z' b:Nat):=Om;have w:k=Z' b:=Om;subst w;rw[blE]at A;rw[bkS.2 A,bkR]at hB;have k4:=L.demand f hV Om Om;have κ:(sR f).length=Z' f.biZ:=qF _ _;have ε:∀p:Nat,p<Z' f.biZ->yP f lv cnt a b p=(decide ((sR f).getD p 0=0)||!(decide (mL f p lv cnt b=0)&&decide (CF (qJ f p lv cnt b) ((a.map RF.v).getD p (false,0,1))<0))):=λp _=>rfl;have η:∀p:Int,(qJ f p lv cnt b).rf.Ok:=λp=>by
    unfold qJ;cases uD f p lv cnt b with
    |none=>exact nw
    |some s =>refine awG b _ ?_ s;have h1:=M7 (fH f lv cnt) s (dS f p).m;have S:=(PZ f lv cnt).1;omega
   have F:=λ(p:Nat)(hp:p<Z' f.biZ)(h:mL f p lv cnt b=0)=>aKT (f:=f) (lv:=lv) (cnt:=cnt) U hp M Y h;generalize μ:Z' f.biZ=np at *
   generalize sR f=ns at *
   simp only[go_sem,d,s9];refine aB k4 Sq ?_;simp only[go_sem,ta];refine wp_loop (α:=Nat) (λk=>((((((n_.set 2 (frs a)).set 3 (frs b)).set 4 (.bO f.cells)).set 5 (.bO [.int .i64 lv,.int .i64 cnt])).set 12 (ints ns)).set 13 (.int .i64 k))) (λ_=>.nil) (λk=>k<=Z' a/\∀p<k,yP f lv cnt a b p=true) (λk=>Z' a-k) 0 ⟨bkL _,λx h=>absurd h (Nat.not_lt_zero x)⟩ Lq a_ ?_;rintro k ⟨hk,B⟩;simp only[go_sem,s7,tc,bkG];by_cases hlt:k<Z' a
   ·have d:(k:Int)<(Z' a:Nat):=Om;have w:k<Z' ns:=Om;have hr:(ns.map λn=>[PV.int .i64 n])[k]?=some [.int .i64 ns[k]]:=by simp[w]
    have θ:(a.map RF.cells)[k]?=some (a[k]).cells:=by simp[hlt]
    have X:=L.price f k lv cnt b hf hb U;rw[T7]at X;have N:=λ(h:mL f k lv cnt b=0)=>L.less (qJ f k lv cnt b).rf a[k] (η k) (ha _ (bkK hlt)) (F k Om h) (va _ (bkK hlt));have W:=λ(h:mL f k lv cnt b=0)=>awD (F k Om h) (va _ (bkK hlt));have i:=ε k Om;have γ:ns.getD k 0=ns[k]:=by rw[blB,bkT w];rfl
    have δ:(a.map RF.v).getD k (false,0,1)=(a[k]).v:=by rw[blB,blC,bkT hlt];rfl
    rw[γ,δ]at i;have l:yP f lv cnt a b k=true->∀p<k+1,yP f lv cnt a b p=true:=λe p hp=>by
     rcases Nat.lt_succ_iff_lt_or_eq.1 hp with h|h
     ·exact B p h
     ·rw[h];exact e
    have E:yP f lv cnt a b k=false->rE f lv cnt a b=false:=λe=>by
     rw[hB];cases e2:(bkH np).all (yP f lv cnt a b)with
     |false=>rfl
     |true=>rw[bkS.1 e2 k (blN.2 Om)]at e;cases e
    simp only[FV.xH]at W;generalize ns[k]=nk at *
    generalize a[k]=x at *
    generalize qJ f k lv cnt b=z at *
    generalize mL f k lv cnt b=pe at *
    generalize(uD f k lv cnt b).getD []=st at *
    simp only[go_sem,d,td,hr];by_cases J:nk=0
    ·rw[aV J,Bool.true_or]at i;simp only[go_sem,bW J,DZ,wZz k];exact aG (k+1) ⟨hlt,l i⟩ Om Lq a_
    ·rw[bC J,Bool.false_or]at i;simp only[go_sem,bL J,te];refine aB X Sq ?_;simp only[go_sem];refine aP λo ho=>?_;simp only[go_sem];by_cases y:pe=0
     ·have ζ:=N y;have β:=W y;rw[aV y,bkR,β]at i;generalize qM z.rf x=q at *
      refine bP _ (λ_ _=>some ([],λ_=>aF (.bool (decide (q<0))))) b_ ?_;simp only[go_sem,PT,bW y,θ];refine bK rfl ζ Sq b_ ?_;by_cases K:q<0
      ·rw[aV K]at i;simp only[go_sem,K,tf];exact dR Sq (E i).symm
      ·rw[bC K]at i;simp only[go_sem,K,DZ,wZz k];exact aG (k+1) ⟨hlt,l i⟩ Om Lq a_
     ·rw[bC y,bkP]at i;refine bP _ eJ b_ ?_;simp only[go_sem,PT,bL y,DZ,wZz k];exact aG (k+1) ⟨hlt,l i⟩ Om Lq a_
   ·have d:¬(k:Int)<(Z' a:Nat):=Om;have w:k=Z' a:=Om;subst w;simp only[go_sem,d,tg];refine dR (b:=true) Sq ?_;rw[hB];exact(bkS.2 λp hp=>B p (by have:=blN.1 hp;omega)).symm
theorem aR.bdI{F:PF}{H:PH}{B:List BX}{L:List LI}{args:List aS}{d:Option Nat}{K:PF->PH->Prop}(h:aR H B L){l:List Nat}(u:aH C 28 [.sl 1 (mG l)] .nil (L8 l))(i:aS.evs F args=some [.sl 1 (mG l)])(p:∀o v H',Tp (l.take 400) v->aR H' (B++[(o,bJ v 0)]) L->K (F.put d (.ptr o 2 0 0)) H'):lC C 28 args [] d K F H:=by
 refine nE u i a_ ?_;rintro r H' ⟨o,v,rfl,T,rfl⟩ e;rw[PH.qN];exact p o v _ T (h.new (e o (bJ v 0) (by rw[cW]) rfl) _)
def FQ(l:List Nat):Nat × Nat:=aJ l 5 0
def xG(l:List Nat):Nat × Nat:=aJ l 2 (FQ l).2
def rdF(l:List Nat)(d v:Nat):aE × Nat:=kO l d v (xG l).2
def rdR(l:List Nat)(d v:Nat):List Int × Nat:=uW l (rdF l d v).1 (rdF l d v).2
theorem a0B(l:List Nat)(f:aE){a:Nat}(h:a<=Z' l):(uW l f a).2<=Z' l:=by
 have d:=bY l 4 h;unfold uW;simp only;split
 ·exact d
 ·exact(i5 l d _).1
theorem a2W(l:List Nat)(d v:Nat):(xG l).2<=Z' l/\(rdF l d v).2<=Z' l/\(rdR l d v).2<=Z' l:=by
 have p:=bY l 5 (bkL l.length);have e:(xG l).2<=Z' l:=bY l 2 p;have i:(rdF l d v).2<=Z' l:=aQA l d v e;exact⟨e,i,a0B l _ i⟩
def Y5(l:List Nat)(d e:Nat)(r:PV)(H:PH):Prop:=∃o v,r=.tup [.agg (rdF (l.take 400) d e).1.cells,oI (1+(FQ (l.take 400)).1:Nat) (1+(xG (l.take 400)).1:Nat),ints (rdR (l.take 400) d e).1,.ptr o 2 0 0]/\Tp (l.take 400) v/\H=h_.set o (bJ v (rdR (l.take 400) d e).2)
structure aON(C:Ctx):Prop where
 new:∀(l:List Nat),(∀x∈l,x<256)->Z' l<=9223372036854775807->aH C 28 [.sl 1 (mG l)] .nil (L8 l)
 tfleet:∀(l:List Nat)(v:PV),Tp l v->∀(o biV biX a:Nat),biV<=60->biX<=50->a<=Z' l ->
  aH C 0 [.ptr o 2 0 0,.int .i64 biV,.int .i64 biX] (h_.set o (bJ v a)) (λr H=>r=.agg (kO l biV biX a).1.cells/\H=h_.set o (bJ v (kO l biV biX a).2))
 nt:∀(l:List Nat)(v:PV),Tp l v->∀(o a:Nat)(f:aE),Z' f.biV<=1000->a<=Z' l->aH C 6 [.ptr o 2 0 0,.agg f.cells] (h_.set o (bJ v a)) (λr H=>r=ints (uW l f a).1/\H=h_.set o (bJ v (uW l f a).2))
 next:∀(l:List Nat)(v:PV),Tp l v->∀(o n a:Nat),n<=1000000->a<=Z' l->aH C 4 [.ptr o 2 0 0,.int .i64 n] (h_.set o (bJ v a)) (λr H=>r=.int .i64 ((aJ l n a).1:Nat)/\H=h_.set o (bJ v (aJ l n a).2))
theorem aWE(F:aON C)(l:List Nat)(hb:∀x∈l,x<256)(hl:Z' l<=9223372036854775807)(d p:Nat)(hd:d<=24)(S:p<=12) :
  GD.wp C (aX Y7.res (Y5 l d p)) (g_ [.sl 1 (mG l),.int .i64 (d:Nat),.int .i64 (p:Nat)]) .nil:=by
 have R:=cR (l.take 400) (n:=5) aU 0;have i1:=bY (l.take 400) 5 (bkL _);have Q:=cR (l.take 400) (n:=2) aU (FQ (l.take 400)).2;obtain⟨i2,i3,i4⟩:=a2W (l.take 400) d p;obtain⟨hv,hf⟩:=dz (l.take 400) d p (xG (l.take 400)).2 hd S;have β:=(VF.of hv).small.biV;have X:=λv T o=>F.next (l.take 400) v T o 5 0 aU (bkL _);have k1:=λv T o=>F.next (l.take 400) v T o 2 (FQ (l.take 400)).2 aU i1;have k2:=λv T o=>F.tfleet (l.take 400) v T o d p (xG (l.take 400)).2 Om Om i2;have Y:=λv T o=>F.nt (l.take 400) v T o (rdF (l.take 400) d p).2 (rdF (l.take 400) d p).1 (by show(kO (l.take 400) d p (xG (l.take 400)).2).1.biV.length<=1000;omega) i3;unfold Y5;show GD.wp C (aX Y7.res (λr H=>∃o v,r=.tup [.agg (rdF (l.take 400) d p).1.cells,oI (1+(FQ (l.take 400)).1:Nat) (1+(xG (l.take 400)).1:Nat),ints (rdR (l.take 400) d p).1,.ptr o 2 0 0]/\Tp (l.take 400) v/\H=h_.set o (bJ v (rdR (l.take 400) d p).2))) _ _;change ∀v,Tp (l.take 400) v->∀o,aH C 4 [.ptr o 2 0 0,.int .i64 5] (h_.set o (bJ v 0)) (λr H=>r=.int .i64 ((FQ (l.take 400)).1:Nat)/\H=h_.set o (bJ v (FQ (l.take 400)).2))at X;change ∀v,Tp (l.take 400) v->∀o,aH C 4 [.ptr o 2 0 0,.int .i64 2] (h_.set o (bJ v (FQ (l.take 400)).2)) (λr H=>r=.int .i64 ((xG (l.take 400)).1:Nat)/\H=h_.set o (bJ v (xG (l.take 400)).2))at k1;change ∀v,Tp (l.take 400) v->∀o,aH C 0 [.ptr o 2 0 0,.int .i64 (d:Nat),.int .i64 (p:Nat)] (h_.set o (bJ v (xG (l.take 400)).2)) (λr H=>r=.agg (rdF (l.take 400) d p).1.cells/\H=h_.set o (bJ v (rdF (l.take 400) d p).2))at k2;change ∀v,Tp (l.take 400) v->∀o,aH C 6 [.ptr o 2 0 0,.agg (rdF (l.take 400) d p).1.cells] (h_.set o (bJ v (rdF (l.take 400) d p).2)) (λr H=>r=ints (rdR (l.take 400) d p).1/\H=h_.set o (bJ v (rdR (l.take 400) d p).2))at Y;change(FQ (l.take 400)).1<5 at R;change(xG (l.take 400)).1<2 at Q;generalize(rdR (l.take 400) d p).1=room at *
 generalize(rdR (l.take 400) d p).2=M at *
 generalize(rdF (l.take 400) d p).2=af at *
 generalize(rdF (l.take 400) d p).1=f at *
 generalize(xG (l.take 400)).2=ac at *
 generalize(FQ (l.take 400)).2=al at *
 generalize(xG (l.take 400)).1=E at *
 generalize(FQ (l.take 400)).1=lv at *
 have w1:i_.wrap (1+((lv:Nat):Int))=((1+lv:Nat):Int):=by rw[wrap_i64 Om Om];omega
 have w2:i_.wrap (1+((E:Nat):Int))=((1+E:Nat):Int):=by rw[wrap_i64 Om Om];omega
 simp only[go_sem,GD,abL,Y7];refine aR.nil.SY λo6 H1 h1=>?_;simp only[go_sem];refine h1.SY λo7 H2 h2=>?_;simp only[go_sem,abM];refine h2.bdI (F.new l hb hl) Sq λo v H3 T h3=>?_;simp only[go_sem,abN];refine h3.zp 2 rfl (X v T o) Sq λH4 h4=>?_;simp only[go_sem,w1];refine h4.zp 2 rfl (k1 v T o) Sq λH5 h5=>?_;simp only[go_sem,w2];refine h5.SY λA H6 V=>?_;have e6:=V.at 3 rfl;have h7:=V.set 3 rfl (.rows 2 [[.int .i64 ((1+lv:Nat):Int),.int .i64 ((1+E:Nat):Int)]]);simp only[go_sem,e6];generalize H6.set A _=H7 at *
 simp only[go_sem,abO];refine h7.zp 2 rfl (k2 v T o) Sq λH8 h8=>?_;simp only[go_sem];refine h8.SY λB H9 W=>?_;have e9:=W.at 4 rfl;have i:=W.set 4 rfl (.rows 7 [f.cells]);simp only[go_sem,e9];generalize H9.set B _=N at *
 have J:=i.at 4 rfl;have O:=i.at 3 rfl;have go:=i.at 2 rfl;have m1:=i.ne 2 3 rfl rfl aU;have m2:=i.ne 2 4 rfl rfl aU;have m3:=i.ne 0 3 rfl rfl aU;have m4:=i.ne 0 4 rfl rfl aU;have m5:=i.ne 1 3 rfl rfl aU;have m6:=i.ne 1 4 rfl rfl aU;have m7:=i.ne 3 4 rfl rfl aU;have Z:=i.ne 0 1 rfl rfl aU;have m9:=i.ne 0 2 rfl rfl aU;have γ:=i.ne 1 2 rfl rfl aU;have g6:=i.at 0 rfl;have g7:=i.at 1 rfl;refine bP ((h_.set B (.rows 7 [f.cells])).set A (.rows 2 [[.int .i64 ((1+lv:Nat):Int),.int .i64 ((1+E:Nat):Int)]])) (λ_ _=>some ([o],λ_ r H'=>r=ints room/\H'=h_.set o (bJ v M))) (e_ (e_ a_ J) O) ?_;have U:¬B=A:=λe=>m7 e.symm;simp only[go_sem,abP,U,J];have u:=i.set 2 rfl (bJ v M);refine TZ rfl go (Y v T o) ⟨rfl,rfl⟩ (λr' H' h=>h) Sq (e_ (e_ a_ (u.at 4 rfl)) (u.at 3 rfl)) ?_;generalize N.set o (bJ v M)=α at *
 have q6:=u.at 0 rfl;have w:=u.set 0 rfl (.rows 7 [f.cells]);simp only[go_sem,q6];refine⟨e_ (e_ a_ (w.at 4 rfl)) (w.at 3 rfl),?_⟩;have q7:=u.at 1 rfl;have K:¬o7=o6:=λe=>Z e.symm;have y:=w.set 1 rfl (.rows 2 [[.int .i64 ((1+lv:Nat):Int),.int .i64 ((1+E:Nat):Int)]]);simp only[go_sem,K,q7];refine⟨e_ (e_ a_ (y.at 4 rfl)) (y.at 3 rfl),?_⟩;exact bG (.inr rfl) (h_.set o (bJ v M)) (vs:=[.agg f.cells,oI (1+lv:Nat) (1+E:Nat),ints room,.ptr o 2 0 0]) (by simp only[go_sem,Z,K]) (e_ a_ (y.at 2 rfl)) ⟨o,v,rfl,T,rfl⟩
section
variable {C:Ctx} {F:PF} {H:PH}
end
theorem a5M(n d:Int)(i:dJ n)(e:dJ d)(u:d≠0):(mkT n d).Ok/\nl (val (mkT n d).num)<=8/\nl (val (mkT n d).den)<=8:=by
 have l:nl n.natAbs<=2:=lE (by unfold dJ at i;omega);have p:nl d.natAbs<=2:=lE (by unfold dJ at e;omega);unfold mkT pD FV.rf;simp only;have w:=xQ (bkJ n.natAbs d.natAbs) l;have x:=xQ (bkJ n.natAbs d.natAbs) p;refine⟨⟨aY _,aY _,?_,?_⟩,?_,?_⟩
 ·simp only[bE];omega
 ·simp only[bE];omega
 ·simp only[aW];omega
 ·simp only[aW];omega
abbrev RY(l:List RF):List (List PV):=l.map RF.cells
theorem atY(l:List RF)(h:Z' l<=1000):roomFor (RY l).length 1 56:=by
 unfold roomFor;simp only[bkG,maxLen];omega
def prT(l:List Nat)(sh:Nat)(a:Nat):Nat->List RF × Nat
 |0=>([],a)
 |k+1=>((prT l sh a k).1++[mkT (((aJ l 9 (prT l sh a k).2).1:Int)-sh) (1+((aJ l 3 (aJ l 9 (prT l sh a k).2).2).1:Int))],(aJ l 3 (aJ l 9 (prT l sh a k).2).2).2)
theorem G2(l:List Nat)(sh:Nat){a:Nat}(h:a<=Z' l):∀k,(prT l sh a k).2<=Z' l/\(prT l sh a k).1.length=k
 |0=>⟨h,rfl⟩
 |k+1=>by obtain⟨d,e⟩:=G2 l sh h k;exact⟨bY l 3 (bY l 9 d),by simp only[prT,bkQ,bkV,e]⟩
theorem amG(l:List Nat)(sh:Nat)(d:sh<=100)(a:Nat):∀k,∀x∈(prT l sh a k).1,x.Ok/\nl (val x.num)<=8/\nl (val x.den)<=8
 |0,x,h=>by cases h
 |k+1,x,h=>by
  simp only[prT]at h;rcases blV.1 h with h|h
  ·exact amG l sh d a k x h
  ·rw[bmF]at h;subst h;have e:=cR l (n:=9) aU (prT l sh a k).2;have i:=cR l (n:=3) aU (aJ l 9 (prT l sh a k).2).2;exact a5M _ _ (by unfold dJ;omega) (by unfold dJ;omega) Om
structure avN(C:Ctx):Prop extends aON C where
 fmk:∀n d:Int,dJ n->dJ d->aH C 50 [.int .i64 n,.int .i64 d] .nil (aF (xU n d))
theorem aKZ(x:avN C)(l:List Nat)(v:PV)(T:Tp l v)(o n sh a:Nat)(hn:n<=500)(W:sh<=100)(U:a<=Z' l) :
  KJ.wp C (aX M8.res (λr H=>Co r (frs (prT l sh a n).1)/\H=h_.set o (bJ v (prT l sh a n).2))) (g_ [.ptr o 2 0 0,.int .i64 (n:Nat),.int .i64 (sh:Nat)]) (h_.set o (bJ v a)):=by
 simp only[go_sem,KJ,E5,M8,E6,E7];refine wp_loop (α:=Nat × PV × PH) (λt=>(((((n_.set 0 (.ptr o 2 0 0)).set 1 (.int .i64 (n:Nat))).set 2 (.int .i64 (sh:Nat))).set 7 (t.2.1)).set 8 (.int .i64 t.1))) (λt=>t.2.2)
  (λt=>t.1<=n/\aR t.2.2 [(o,bJ v (prT l sh a t.1).2)] [(t.2.1,3,RY (prT l sh a t.1).1)]) (λt=>n-t.1) (0,.aK,h_.set o (bJ v a)) ⟨bkL _,(aR.nil.new (H:=h_) rfl _).rA 3⟩ Lq b_ ?_
 rintro⟨k,w,H1⟩ ⟨V,e⟩;simp only at V e ⊢;obtain⟨F,i2⟩:=G2 l sh U k;simp only[go_sem,E4,E8];by_cases hlt:k<n
 ·have d:(k:Int)<(n:Nat):=Om;have x1:=cR l (n:=9) aU (prT l sh a k).2;have x2:=cR l (n:=3) aU (aJ l 9 (prT l sh a k).2).2;have X:=x.next l v T o 9 (prT l sh a k).2 aU F;have k1:=x.next l v T o 3 (aJ l 9 (prT l sh a k).2).2 aU (bY l 9 F);have M:(prT l sh a (k+1)).1=(prT l sh a k).1++[mkT (((aJ l 9 (prT l sh a k).2).1:Int)-sh) (1+((aJ l 3 (aJ l 9 (prT l sh a k).2).2).1:Int))]:=rfl;have e2:(prT l sh a (k+1)).2=(aJ l 3 (aJ l 9 (prT l sh a k).2).2).2:=rfl;have i:(prT l sh a k).1.length<=1000:=Om;generalize prT l sh a k=p at *
  generalize aJ l 9 p.2=q at *
  generalize aJ l 3 q.2=s at *
  have w1:i_.wrap ((q.1:Nat)-(sh:Int))=(q.1:Nat)-(sh:Int):=wrap_i64 Om Om;have w2:i_.wrap (1+(s.1:Int))=1+(s.1:Int):=wrap_i64 Om Om;have u:=x.fmk ((q.1:Nat)-(sh:Int)) (1+(s.1:Int)) (by unfold dJ;omega) (by unfold dJ;omega);rw[xU,aD Om]at u;generalize mkT ((q.1:Nat)-(sh:Int)) (1+(s.1:Int))=y at *
  simp only[go_sem,d,E9];refine e.zp 0 rfl X (by simp only[go_sem];rfl) λH2 Q=>?_;simp only[go_sem,w1];refine Q.zp 0 rfl k1 (by simp only[go_sem];rfl) λH3 R=>?_;simp only[go_sem,w2];refine aB u Sq ?_;simp only[go_sem];refine R.SY λY J E=>?_;have O:=E.at 1 rfl;have h5:=E.set 1 rfl (.rows 3 [y.cells]);simp only[go_sem,O];have A:=h5.at 1 rfl;generalize J.set Y _=H5 at *
  simp only[go_sem,Fa,A];refine h5.append 0 (src:=[y.cells]) rfl Sq (atY _ i) λZ K S _=>?_;simp only[go_sem,Fb,wZz k];refine aG (k+1,Z,K) ⟨hlt,?_⟩ (by simp only;omega) Lq b_;have h7:=S.qR 1;rw[M,e2];have N:RY (p.1++[y])=RY p.1++[y.cells]:=by simp[RY]
  rw[N];exact h7
 ·have d:¬(k:Int)<(n:Nat):=Om;have:k=n:=Om;subst this;simp only[go_sem,d,Fc];rcases e.own 0 rfl with⟨B,rfl⟩|⟨q,rs,rfl,_⟩
  ·refine bG (vs:=[.aK]) (.inr rfl) (h_.set o (bJ v (prT l sh a k).2)) Sq (e_ a_ (e.at 0 rfl)) ?_;rw[bN];refine⟨?_,rfl⟩;unfold frs;rw[show(prT l sh a k).1.map RF.cells=[]from B];exact .nil 3
  ·obtain⟨rs,g1,g2,g3,-,g4⟩:=e.frz 0 rfl;refine zN (vs:=[.osl q 3 0 (RY (prT l sh a k).1).length]) (.inr rfl) Sq (.step g1 (.done (H2:=h_.set o (bJ v (prT l sh a k).2)) ?_ (e_ a_ ?_)))
   ·rw[bN,g3];exact⟨.refl _,rfl⟩
   ·have:=g4.at 0 rfl;rw[this];simp only[bA.frz,blM,bmE,T.frz];rfl
theorem aSS{f:aE}(hV:VF f)(room:List Int):vh (sK f room):=by
 intro x e;unfold sK at e;obtain⟨d,i,rfl⟩:=blF.1 e;obtain⟨p,l⟩:=hV.adB (blN.1 i);have:=hV.model _ (bkK p);rw[l]at this;unfold BJ;split<;>omega
theorem A1(f:aE)(room:List Int)(a b:List RF):∃y:RF,y.Ok/\∃e:Int,AD f room a b=.tup [.agg y.cells,.int .i64 e]:=by
 unfold AD;split
 ·refine⟨_,?_,0,rfl⟩;unfold RQ;exact CH (CH (ii 0 aU))
 ·refine⟨⟨false,[],[]⟩,⟨λx d=>(blD d).elim,λx d=>(blD d).elim,bkL _,bkL _⟩,1,rfl⟩
structure a2G(C:Ctx):Prop where
 read:∀(l:List Nat),(∀x∈l,x<256)->Z' l<=9223372036854775807->aH C 326 [.sl 1 (mG l),.int .i64 (7:Nat),.int .i64 (3:Nat)] .nil (Y5 l 7 3)
 prs:∀(l:List Nat)(v:PV),Tp l v->∀(o n sh a:Nat),n<=500->sh<=100->a<=Z' l->aH C 327 [.ptr o 2 0 0,.int .i64 (n:Nat),.int .i64 (sh:Nat)] (h_.set o (bJ v a)) (λr H=>r=frs (prT l sh a n).1/\H=h_.set o (bJ v (prT l sh a n).2))
 bound:∀(f:aE)(room:List Int)(a b:List RF),f.Ok->cQ f=true->(∀x∈a,x.Ok)->(∀x∈b,x.Ok)->Z' a<=1000000->Z' b<=1000000->aH C 328 [.agg f.cells,ints room,frs a,frs b] .nil (aF (AD f room a b))
 KP:∀(f:aE)(room:List Int)(a b:List RF),f.Ok->cQ f=true->(∀x∈a,x.Ok)->(∀x∈b,x.Ok)->Z' a<=1000000->Z' b<=1000000->aH C 329 [.agg f.cells,ints room,frs a,frs b] .nil (aF (AD f room a b))
 priced:∀(f:aE)(lv cnt:Int)(a b:List RF),f.Ok->cQ f=true->(∀x∈a,x.Ok)->(∀x∈b,x.Ok)->(∀x∈b,nl (val x.num)<=8/\nl (val x.den)<=8)->Z' a<=1000000->Z' b<=1000000->aH C 330 [.agg f.cells,oI lv cnt,frs a,frs b] .nil (aF (.bool (rE f lv cnt a b)))
 DB:∀(f:aE)(lv cnt:Int)(a b:List RF),f.Ok->cQ f=true->(∀x∈a,x.Ok)->(∀x∈b,x.Ok)->(∀x∈b,nl (val x.num)<=8/\nl (val x.den)<=8)->Z' a<=1000000->Z' b<=1000000->aH C 331 [.agg f.cells,oI lv cnt,frs a,frs b] .nil (aF (.bool (rE f lv cnt a b)))
 frac:∀x:RF,x.Ok->aH C 235 [.agg x.cells,.agg x.cells] .nil (aF (.bool true))
 DM:aH C 332 [] .nil (aF (.bool true))
def bgI(o:Nat)(d e:PV->PH->Prop):Spec:=λ_ vs=>match vs with
 |[_,_,.int _ sh]=>if sh=4 then some ([o],λ_=>d)else some ([o],λ_=>e)
 |_=>none
def lpS(p:PV):Spec:=λd _=>if d=235 then some ([],λ_=>aF (.bool true))else if d=332 then some ([],λ_=>aF (.bool true))else some ([],λ_=>aF p)
theorem aKX(i:a2G C)(l:List Nat)(hb:∀x∈l,x<256)(hl:Z' l<=9223372036854775807)(a b:List RF)(ha:∀x∈a,x.Ok)(A:∀x∈b,x.Ok)(la:Z' a<=9223372036854775807)(lb:Z' b<=9223372036854775807) :
  KI.wp C (aX mo.res (aF (.bool true))) (g_ [.sl 1 (mG l),frs a,frs b]) .nil:=by
 obtain⟨i2,i3,i4⟩:=a2W (l.take 400) 7 3;obtain⟨K,Q⟩:=dz (l.take 400) 7 3 (xG (l.take 400)).2 aU aU;have J:=i.read l hb hl;unfold Y5 at J;change cQ (rdF (l.take 400) 7 3).1=true at K;change(rdF (l.take 400) 7 3).1.Ok at Q;generalize(rdF (l.take 400) 7 3).1=f at *
 generalize(rdR (l.take 400) 7 3).1=room at *
 generalize(rdR (l.take 400) 7 3).2=w at *
 generalize(1+(FQ (l.take 400)).1:Nat)=lv at *
 generalize(1+(xG (l.take 400)).1:Nat)=W at *
 have hV:=VF.of K;have d':=hV.small.biZ;have c':=hV.small.biV;have ψ:=λv T o=>i.prs (l.take 400) v T o f.biZ.length 4 w Om aU i4;have κ:=G2 (l.take 400) 4 i4 f.biZ.length;have U:=amG (l.take 400) 4 aU w f.biZ.length;generalize prT (l.take 400) 4 w f.biZ.length=B at *
 have ω:=λv T o=>i.prs (l.take 400) v T o f.biV.length 7 B.2 Om aU κ.1;have a':=G2 (l.take 400) 7 κ.1 f.biV.length;have y:=amG (l.take 400) 7 aU B.2 f.biV.length;generalize prT (l.take 400) 7 B.2 f.biV.length=M at *
 have ζ:=i.bound f room B.1 M.1 Q K (λx h=>(U x h).1) (λx h=>(y x h).1) Om Om;have θ:=i.KP f room B.1 M.1 Q K (λx h=>(U x h).1) (λx h=>(y x h).1) Om Om;have Γ:=i.priced f lv W B.1 M.1 Q K (λx h=>(U x h).1) (λx h=>(y x h).1) (λx h=>(y x h).2) Om Om;have Θ:=i.DB f lv W B.1 M.1 Q K (λx h=>(U x h).1) (λx h=>(y x h).1) (λx h=>(y x h).2) Om Om;obtain⟨y1,σ,e1,δ⟩:=A1 f room B.1 M.1;rw[δ]at ζ θ;generalize rE f lv W B.1 M.1=p1 at *
 have φ:=i.frac y1 σ;simp only[go_sem,KI,Es,mo,Et];refine nE J (by simp only[go_sem];rfl) a_ ?_;rintro r H' ⟨o,v,rfl,T,rfl⟩ b';rw[PH.qN];have h1:aR (h_.set o (bJ v w)) [(o,bJ v w)] []:=aR.nil.new (H:=h_) rfl _;generalize h_.set o (bJ v w)=H1 at h1 ⊢;simp only[go_sem];refine h1.SY λo7 H2 h2=>?_;simp only[go_sem];refine h2.SY λo8 H3 h3=>?_;have q7:=h3.at 1 rfl;have h4:=h3.set 1 rfl (.rows 7 [f.cells]);have Ξ:¬o8=o7:=λe=>h3.ne 1 2 rfl rfl aU e.symm;have q8:=h3.at 2 rfl;have h5:=h4.set 2 rfl (.rows 2 [[.int .i64 ((lv:Nat):Int),.int .i64 ((W:Nat):Int)]]);simp only[go_sem,q7,q8,Ξ];generalize(H3.set o7 _).set o8 _=H5 at *
 have go:=h5.at 0 rfl;have p:=h5.at 1 rfl;refine bP (h_.set o7 (.rows 7 [f.cells])) (bgI o (λr H=>r=frs B.1/\H=h_.set o (bJ v B.2)) (λr H=>r=frs M.1/\H=h_.set o (bJ v M.2))) (e_ a_ p) ?_;simp only[go_sem,Eu,p,bkG];have h6:=h5.set 0 rfl (bJ v B.2);refine TZ rfl go (ψ v T o) ⟨rfl,rfl⟩ (λr' H' h=>h) (by simp only[go_sem];rfl) (e_ a_ (h6.at 1 rfl)) ?_;generalize H5.set o (bJ v B.2)=H6 at *
 have ξ:=h6.at 0 rfl;simp only[go_sem,bkG];have h7:=h6.set 0 rfl (bJ v M.2);refine TZ rfl ξ (ω v T o) ⟨rfl,rfl⟩ (λr' H' h=>h) (by simp only[go_sem];rfl) (e_ a_ (h7.at 1 rfl)) ?_;generalize H6.set o (bJ v M.2)=H7 at *
 have p:=h7.at 1 rfl;have g8:=h7.at 2 rfl;simp only[go_sem,Ew,p];refine aB ζ Sq ?_;simp only[go_sem];refine h7.SY λR H8 h8=>?_;have Φ:=h8.at 3 rfl;have h9:=h8.set 3 rfl (.rows 3 [y1.cells]);simp only[go_sem,Φ];generalize H8.set R _=H9 at *
 have p:=h9.at 1 rfl;simp only[go_sem,Ex,p];refine aB θ Sq ?_;simp only[go_sem];refine h9.SY λS μ β=>?_;have Ψ:=β.at 4 rfl;have F:=β.set 4 rfl (.rows 3 [y1.cells]);simp only[go_sem,Ψ];generalize μ.set S _=V at *
 have p:=F.at 1 rfl;have g8:=F.at 2 rfl;have N:=F.at 3 rfl;have E:=F.at 4 rfl;refine bP _ (lpS (.bool p1)) b_ ?_;simp only[go_sem,Ey,cF (show e1=e1 from rfl),N,E];refine bK rfl φ Sq b_ ?_;simp only[go_sem,bkO,p,g8];refine bK rfl Γ Sq b_ ?_;simp only[go_sem,p,g8];refine bK rfl Θ Sq b_ ?_;have ρ:(p1==p1)=true:=by cases p1<;>rfl
 simp only[go_sem,ρ,Ez,bkG];by_cases c1:(Z' a:Int)>20
 ·simp only[go_sem,c1,VQ];refine aB i.DM Ev ?_;simp only[go_sem];exact dR Sq rfl
 simp only[go_sem,c1,bkG];by_cases c2:(Z' b:Int)>20
 ·simp only[go_sem,c2,VQ];refine aB i.DM Ev ?_;simp only[go_sem];exact dR Sq rfl
 simp only[go_sem,c2,E0];have η:=i.bound f room a b Q K ha A Om Om;have ι:=i.KP f room a b Q K ha A Om Om;obtain⟨y2,τ,e2,ε⟩:=A1 f room a b;rw[ε]at η ι;have χ:=i.frac y2 τ;refine wp_loop (α:=Nat) (λk=>((((((((n_.set 1 (frs a)).set 2 (frs b)).set 7 (.ptr o7 7 0 0)).set 8 (.ptr o8 2 0 0)).set 9 (ints room)).set 13 (.ptr R 3 0 0)).set 15 (.ptr S 3 0 0)).set 17 (.int .i64 k))) (λ_=>V) (λk=>k<=Z' a) (λk=>Z' a-k) 0 (bkL _) Lq b_ ?_;intro k hk;simp only[go_sem,qf,qh,bkG];by_cases hlt:k<Z' a
 ·have d:(k:Int)<(Z' a:Nat):=Om;have hr:(a.map RF.cells)[k]?=some (a[k]).cells:=by simp[hlt]
  generalize a[k]=x at *
  simp only[go_sem,d,qi,hr,bkG];by_cases d1:(Z' x.num:Int)>8
  ·simp only[go_sem,d1,OT];refine aB i.DM Ev ?_;simp only[go_sem];exact dR Sq rfl
  ·simp only[go_sem,d1,hr,bkG];by_cases d2:(Z' x.den:Int)>8
   ·simp only[go_sem,d2,OT];refine aB i.DM Ev ?_;simp only[go_sem];exact dR Sq rfl
   ·simp only[go_sem,d2,qj,wZz k];exact aG (k+1) hlt Om Lq b_
 have d:¬(k:Int)<(Z' a:Nat):=Om;simp only[go_sem,d,qk];refine wp_loop (α:=Nat) (λk=>((((((((n_.set 1 (frs a)).set 2 (frs b)).set 7 (.ptr o7 7 0 0)).set 8 (.ptr o8 2 0 0)).set 9 (ints room)).set 13 (.ptr R 3 0 0)).set 15 (.ptr S 3 0 0)).set 18 (.int .i64 k))) (λ_=>V) (λk=>k<=Z' b/\∀x∈b.take k,Z' x.num<=8/\Z' x.den<=8) (λk=>Z' b-k) 0 ⟨bkL _,λx h=>by cases h⟩ Lq b_ ?_;rintro k ⟨hk,u⟩;simp only[go_sem,qg,ql,bkG];by_cases hlt:k<Z' b
 ·have d:(k:Int)<(Z' b:Nat):=Om;have hr:(b.map RF.cells)[k]?=some (b[k]).cells:=by simp[hlt]
  have Y:((b[k]).num.length<=8/\(b[k]).den.length<=8)->∀x∈b.take (k+1),Z' x.num<=8/\Z' x.den<=8:=λe x Z=>by
   rw[blO hlt]at Z;rcases blV.1 Z with h|h
   ·exact u x h
   ·rw[bmF]at h;rw[h];exact e
  generalize b[k]=x at *
  simp only[go_sem,d,qn,hr,bkG];by_cases d1:(Z' x.num:Int)>8
  ·simp only[go_sem,d1,OU];refine aB i.DM Ev ?_;simp only[go_sem];exact dR Sq rfl
  ·simp only[go_sem,d1,hr,bkG];by_cases d2:(Z' x.den:Int)>8
   ·simp only[go_sem,d2,OU];refine aB i.DM Ev ?_;simp only[go_sem];exact dR Sq rfl
   ·simp only[go_sem,d2,qp,wZz k];exact aG (k+1) ⟨hlt,Y ⟨by omega,by omega⟩⟩ Om Lq b_
 have d:¬(k:Int)<(Z' b:Nat):=Om;have ο:k=Z' b:=Om;subst ο;rw[blE]at u;have γ:∀x∈b,nl (val x.num)<=8/\nl (val x.den)<=8:=λx Z=>⟨blH (jF (A x Z).1) (u x Z).1,blH (jF (A x Z).2.1) (u x Z).2⟩;have Δ:=i.priced f lv W a b Q K ha A γ Om Om;have Λ:=i.DB f lv W a b Q K ha A γ Om Om;generalize rE f lv W a b=p2 at *
 simp only[go_sem,d,qq,p];refine aB η Sq ?_;have X:=F.set 3 rfl (.rows 3 [y2.cells]);simp only[go_sem,N];generalize V.set R _=ν at *
 have p:=X.at 1 rfl;have E:=X.at 4 rfl;simp only[go_sem,qr,p];refine aB ι Sq ?_;have O:=X.set 4 rfl (.rows 3 [y2.cells]);simp only[go_sem,E];generalize ν.set S _=Ω at *
 have p:=O.at 1 rfl;have g8:=O.at 2 rfl;have N:=O.at 3 rfl;have E:=O.at 4 rfl;refine bP _ (lpS (.bool p2)) b_ ?_;simp only[go_sem,qt,bW (show e2=e2 from rfl),N,E];refine bK rfl χ Sq b_ ?_;simp only[go_sem,p,g8];refine bK rfl Δ Sq b_ ?_;simp only[go_sem,p,g8];refine bK rfl Λ Sq b_ ?_;have υ:(p2==p2)=true:=by cases p2<;>rfl
 simp only[go_sem,υ];refine bK rfl i.DM Ev b_ ?_;simp only[go_sem];exact dR Sq rfl
mutual
def PV.ren(r:Nat->Nat):PV->PV
 | .osl o s d len=>.osl (r o) s d len
 | .ptr o s i c=>.ptr (r o) s i c
 | .map o=>.map (r o)
 | .sl s rows=>.sl s (PV.qW r rows)
 | .bO cs=>.bO (PV.lT r cs)
 | .fn n cs=>.fn n (PV.lT r cs)
 | .agg cs=>.agg (PV.lT r cs)
 | .tup cs=>.tup (PV.lT r cs)
 | .int k n=>.int k n
 | .bool b=>.bool b
 | .str s=>.str s
 | .aK=>.aK
 | .lit v=>.lit v
 | .junk=>.junk
def PV.lT(r:Nat->Nat):List PV->List PV
 |[]=>[]
 |v::vs=>PV.ren r v::PV.lT r vs
def PV.qW(r:Nat->Nat):List (List PV)->List (List PV)
 |[]=>[]
 |v::vs=>PV.lT r v::PV.qW r vs
end
theorem PV.fK(r:Nat->Nat):∀l,PV.lT r l=l.map (PV.ren r)
 |[]=>rfl
 |v::vs=>by rw[PV.lT,PV.fK r vs];rfl
theorem PV.lJ(r:Nat->Nat):∀l,PV.qW r l=l.map λx=>x.map (PV.ren r)
 |[]=>rfl
 |v::vs=>by rw[PV.qW,PV.lJ r vs,PV.fK];rfl
mutual
def PV.bound(n:Nat):PV->Bool
 | .osl o _ _ _=>decide (o<n)
 | .ptr o _ _ _=>decide (o<n)
 | .map o=>decide (o<n)
 | .sl _ rows=>PV.jN n rows
 | .bO cs=>PV.bounds n cs
 | .fn _ cs=>PV.bounds n cs
 | .agg cs=>PV.bounds n cs
 | .tup cs=>PV.bounds n cs
 | .int _ _=>true
 | .bool _=>true
 | .str _=>true
 | .aK=>true
 | .lit _=>true
 | .junk=>true
def PV.bounds(n:Nat):List PV->Bool
 |[]=>true
 |v::vs=>PV.bound n v&&PV.bounds n vs
def PV.jN(n:Nat):List (List PV)->Bool
 |[]=>true
 |v::vs=>PV.bounds n v&&PV.jN n vs
end
mutual
theorem PV.iu{n:Nat}{r r':Nat->Nat}(h:∀i,i<n->r i=r' i):∀v:PV,v.bound n=true->v.ren r=v.ren r'
 | .osl o s d len,hb=>by simp only[PV.bound,dT_]at hb;simp only[PV.ren,h o hb]
 | .ptr o s i c,hb=>by simp only[PV.bound,dT_]at hb;simp only[PV.ren,h o hb]
 | .map o,hb=>by simp only[PV.bound,dT_]at hb;simp only[PV.ren,h o hb]
 | .sl s rows,hb=>by simp only[PV.bound]at hb;simp only[PV.ren,PV.PR h rows hb]
 | .bO cs,hb=>by simp only[PV.bound]at hb;simp only[PV.ren,PV.tT h cs hb]
 | .fn _ cs,hb=>by simp only[PV.bound]at hb;simp only[PV.ren,PV.tT h cs hb]
 | .agg cs,hb=>by simp only[PV.bound]at hb;simp only[PV.ren,PV.tT h cs hb]
 | .tup cs,hb=>by simp only[PV.bound]at hb;simp only[PV.ren,PV.tT h cs hb]
 | .int _ _,_=>rfl
 | .bool _,_=>rfl
 | .str _,_=>rfl
 | .aK,_=>rfl
 | .lit _,_=>rfl
 | .junk,_=>rfl
theorem PV.tT{n:Nat}{r r':Nat->Nat}(h:∀i,i<n->r i=r' i):∀l:List PV,PV.bounds n l=true->PV.lT r l=PV.lT r' l
 |[],_=>rfl
 |v::vs,hb=>by simp only[PV.bounds,bkI]at hb;rw[PV.lT,PV.lT,PV.iu h v hb.1,PV.tT h vs hb.2]
theorem PV.PR{n:Nat}{r r':Nat->Nat}(h:∀i,i<n->r i=r' i):∀l:List (List PV),PV.jN n l=true->PV.qW r l=PV.qW r' l
 |[],_=>rfl
 |v::vs,hb=>by simp only[PV.jN,bkI]at hb;rw[PV.qW,PV.qW,PV.tT h v hb.1,PV.PR h vs hb.2]
end
mutual
theorem PV.aSN:∀v:PV,v.ren id=v
 | .osl o s d len=>rfl
 | .ptr o s i c=>rfl
 | .map o=>rfl
 | .sl s rows=>by simp only[PV.ren,PV.amX rows]
 | .bO cs=>by simp only[PV.ren,PV.zL cs]
 | .fn _ cs=>by simp only[PV.ren,PV.zL cs]
 | .agg cs=>by simp only[PV.ren,PV.zL cs]
 | .tup cs=>by simp only[PV.ren,PV.zL cs]
 | .int _ _=>rfl
 | .bool _=>rfl
 | .str _=>rfl
 | .aK=>rfl
 | .lit _=>rfl
 | .junk=>rfl
theorem PV.zL:∀l:List PV,PV.lT id l=l
 |[]=>rfl
 |v::vs=>by rw[PV.lT,PV.aSN v,PV.zL vs]
theorem PV.amX:∀l:List (List PV),PV.qW id l=l
 |[]=>rfl
 |v::vs=>by rw[PV.qW,PV.zL v,PV.amX vs]
end
theorem PV.BH{v:PV}(h:v.bound 0=true)(r:Nat->Nat):v.ren r=v:=(PV.iu (r':=id) (λi hi=>absurd hi (Nat.not_lt_zero i)) v h).trans (PV.aSN v)
theorem PV.pX{l:List PV}(h:PV.bounds 0 l=true)(r:Nat->Nat):l.map (PV.ren r)=l:=by
 rw[<-PV.fK];exact(PV.tT (r':=id) (λi hi=>absurd hi (Nat.not_lt_zero i)) l h).trans (PV.zL l)
theorem zK(r:Nat->Nat)(v:PV):(v.ren r).cells=v.cells.map (PV.ren r):=by
 cases v<;>simp only[PV.ren,PV.cells,PV.fK,blM,bmE]
theorem a6W(r:Nat->Nat)(v:PV):(v.ren r).one=v.one:=by
 cases v<;>simp only[PV.ren,PV.one]
theorem xS(r:Nat->Nat)(l:List PV):(l.map (PV.ren r)).all PV.one=l.all PV.one:=by
 rw[List.all_map];congr 1;exact funext λv=>a6W r v
theorem KT(r:Nat->Nat):∀(vs:List PV)(l:List PV)(c:Nat),(setCells l c vs).map (PV.ren r)=setCells (l.map (PV.ren r)) c (vs.map (PV.ren r))
 |[],_,_=>rfl
 |v::vs,l,c=>by simp only[setCells,blM];rw[KT r vs,List.map_set]
theorem a6V{r:Nat->Nat}{op:BinOp}{x y v:PV}(h:PV.bin op x y=some v):PV.bin op (x.ren r) (y.ren r)=some (v.ren r):=by
 have d:∀{k:IntKind}{n:Int},(PV.int k n).ren r=.int k n:=rfl;cases x<;>cases y<;>try (cases op<;>simp[PV.bin]at h;done)
 ·simp only[PV.ren];rw[h];congr 1;revert h;unfold PV.bin;cases op<;>simp only[shift,pL]<;>intro h<;>(repeat' split at h)<;>cases h<;>rfl
 ·simp only[PV.ren];rw[h];congr 1;revert h;unfold PV.bin;cases op<;>simp only[RN]<;>intro h<;>(repeat' split at h)<;>cases h<;>rfl
def bA.ren(r:Nat->Nat):bA->bA
 | .rows s rs=>.rows s (rs.map λx=>x.map (PV.ren r))
 |x=>x
def PF.ren(r:Nat->Nat)(F:PF):PF:=λi=>(F i).map (PV.ren r)
def bz(r:Nat->Nat)(h H:PH):Prop:=∀i x,h i=some x->H (r i)=some (x.ren r)
def aS.clo:aS->Bool
 | .tmp _=>true
 | .const v=>v.bound 0
section
variable {r:Nat->Nat} {F:PF} {h H:PH}
theorem dD{x:aS}{v:PV}(d:x.clo=true)(e:x.ev F=some v):x.ev (F.ren r)=some (v.ren r):=by
 cases x with
 |tmp t=>simp only[aS.ev]at e ⊢;simp only[PF.ren,e,blJ]
 |const u=>simp only[aS.ev,bmH.injEq]at e ⊢;subst e;exact(PV.BH d r).symm
theorem IF:∀{l:List aS}{vs:List PV},l.all aS.clo=true->aS.evs F l=some vs->aS.evs (F.ren r) l=some (vs.map (PV.ren r))
 |[],vs,_,e=>by cases e;rfl
 |x::xs,vs,d,e=>by
  simp only[bnY,bkI]at d;simp only[aS.evs]at e ⊢;split at e
  ·rename_i v u i p;cases e;rw[dD d.1 i,IF d.2 p];rfl
  ·cases e
theorem awW{k:Sc}{x y:PV}{b:Bool}(e:PV.eq1 k x y=some b):PV.eq1 k (x.ren r) (y.ren r)=some b:=by
 unfold PV.eq1 at e;split at e<;>first|exact e|cases e
theorem awX:∀{i:List Sc}{xs ys:List PV}{b:Bool},PV.eqs i xs ys=some b->PV.eqs i (xs.map (PV.ren r)) (ys.map (PV.ren r))=some b
 |[],[],[],_,e=>e
 |k::i,x::xs,y::ys,b,e=>by
  simp only[PV.eqs,blM]at e ⊢;split at e
  ·rename_i d;rw[awW d];exact awX e
  ·rename_i d;rw[awW d];simpa using e
  ·cases e
 |[],_::_,_,_,e=>by simp[PV.eqs]at e
 |[],[],_::_,_,e=>by simp[PV.eqs]at e
 |_::_,[],_,_,e=>by simp[PV.eqs]at e
 |_::_,_::_,[],_,e=>by simp[PV.eqs]at e
theorem baP{op:UnOp}{x v:PV}(e:PV.un op x=some v):PV.un op (x.ren r)=some (v.ren r):=by
 unfold PV.un at e;split at e
 ·split at e<;>cases e<;>rfl
 ·split at e<;>cases e;rfl
 ·cases e
theorem Rp:∀{l:List (Nat × Nat × aS)}{cells v:List PV},(l.all λx=>x.2.2.clo)=true->rN cells F l=some v->rN (cells.map (PV.ren r)) (F.ren r) l=some (v.map (PV.ren r))
 |[],_,_,_,e=>by cases e;rfl
 |(u,size,x)::l,cells,v,d,e=>by
  simp only[bnY,bkI]at d;simp only[rN]at e ⊢;split at e
  ·rename_i w i;rw[dD d.1 i];simp only[zK,xS,bkG];split at e
   ·rename_i p;rw[aI p,<-KT];exact Rp d.2 e
   ·cases e
  ·cases e
theorem JV{size:Nat}:∀{l:List (Nat × aS)}{rows v:List (List PV)},(l.all λx=>x.2.clo)=true->jC size rows F l=some v ->
  jC size (rows.map λx=>x.map (PV.ren r)) (F.ren r) l=some (v.map λx=>x.map (PV.ren r))
 |[],_,_,_,e=>by cases e;rfl
 |(i,x)::l,rows,v,d,e=>by
  simp only[bnY,bkI]at d;simp only[jC]at e ⊢;split at e
  ·rename_i w p;rw[dD d.1 p];simp only[zK,xS,bkG];split at e
   ·rename_i u;rw[aI u,<-List.map_set];exact JV d.2 e
   ·cases e
  ·cases e
theorem yA(x:bz r h H){p:PV}{n:Nat}{v:List PV}(e:loadCells h p n=some v):loadCells H (p.ren r) n=some (v.map (PV.ren r)):=by
 unfold loadCells at e;split at e
 ·split at e
  ·rename_i o size i c s rs u;have l:=x _ _ u;simp only[bA.ren]at l;simp only[PV.ren,loadCells,l];split at e
   ·rename_i d;rw[aI d,blC];split at e
    ·rename_i q w;rw[w];simp only[blJ,bkG];split at e
     ·rename_i h5;rw[aI h5,<-List.map_drop,<-bnO];cases e;rfl
     ·cases e
    ·cases e
   ·cases e
  ·cases e
 ·simp only[PV.ren,loadCells,PV.fK,bkG];split at e
  ·rename_i d;rw[aI d,<-bnO];cases e;rfl
  ·cases e
 ·cases e
theorem BU(w:bz r h H){s:Nat}{p:PV}{v:List (List PV)}(e:eD h s p=some v):eD H s (p.ren r)=some (v.map λx=>x.map (PV.ren r)):=by
 unfold eD at e;split at e
 ·cases e;rfl
 ·simp only[PV.ren,eD,PV.lJ];split at e
  ·rename_i d;rw[aI d];cases e;rfl
  ·cases e
 ·split at e
  ·rename_i d;split at e
   ·rename_i l;have i:=w _ _ l;simp only[bA.ren]at i;simp only[PV.ren,eD,i,bkG];rw[aI d];split at e
    ·rename_i u;rw[aI u,<-List.map_drop,<-bnO];cases e;rfl
    ·cases e
   ·cases e
  ·cases e
 ·cases e
theorem JJ:∀{l:List (List PV)}{s:List UInt8},jX l=some s->jX (l.map λx=>x.map (PV.ren r))=some s
 |[],_,e=>e
 |[.int .u8 n]::rest,s,e=>by
  simp only[jX,blM,bmE,PV.ren]at e ⊢;cases d:jX rest with
  |none=>rw[d]at e;cases e
  |some t=>rw[d]at e;rw[JJ d];exact e
 |[]::_,_,e=>by simp[jX]at e
 |(_::_::_)::_,_,e=>by simp[jX]at e
 |[v]::rest,s,e=>by
  cases v<;>try (simp[jX]at e;done)
  rename_i k n;cases k<;>try (simp[jX]at e;done)
  simp only[jX,blM,bmE,PV.ren]at e ⊢;cases d:jX rest with
  |none=>rw[d]at e;cases e
  |some t=>rw[d]at e;rw[JJ d];exact e
theorem RP{d n:Int}{x:Option aS}(l:(x.all aS.clo)=true)(e:bnd F d x=some n):bnd (F.ren r) d x=some n:=by
 cases x with
 |none=>exact e
 |some x=>
  simp only[bnd]at e ⊢;cases i:x.ev F with
  |none=>rw[i]at e;cases e
  |some v =>rw[i]at e;rw[dD (by simpa using l) i];cases v<;>first|exact e|cases e
theorem Wb{size:Nat}{x v:PV}{l m:Int}{mx:Option Int}(e:PV.slice size x l m mx=some v):PV.slice size (x.ren r) l m mx=some (v.ren r):=by
 unfold PV.slice at e;split at e
 ·split at e
  ·rename_i d;cases e;simp only[PV.ren,PV.slice];rw[aI d]
  ·cases e
 ·split at e
  ·rename_i d;cases e;simp only[PV.ren,PV.slice,PV.lJ,bkG];rw[aI d,<-bnO,<-List.map_drop]
  ·cases e
 ·split at e
  ·rename_i d;cases e;simp only[PV.ren,PV.slice];rw[aI d]
  ·cases e
 ·cases e
theorem aKP{x:PV}{b:Bool}(e:PV.rT x=some b):PV.rT (x.ren r)=some b:=by
 unfold PV.rT at e;split at e<;>first|exact e|cases e
theorem aYG{x v:PV}(e:PV.uN x=some v):PV.uN (x.ren r)=some (v.ren r):=by
 unfold PV.uN at e;split at e<;>cases e<;>simp only[PV.ren,PV.uN,PV.lJ,bkG]
theorem Bo(size:Nat):∀(n:Nat)(cs:List PV),chunks size n (cs.map (PV.ren r))=(chunks size n cs).map λx=>x.map (PV.ren r)
 |0,_=>rfl
 |n+1,cs=>by simp only[chunks,blM,bnO,<-List.map_drop,Bo size n]
end
def POp.clo:POp->Bool
 | .mv x | .same x | .un _ x | .conv _ x | .box _ x | .load _ x | .bjI x | .bjY _ x | .field _ _ x | .len x | .bjV x | .bkF x | .isNil _ x | .extract x _ | .bjJ x=>x.clo
 | .pick c a b=>c.clo&&(a.clo&&b.clo)
 | .bin _ x y | .eqb _ x y | .eqs _ _ x y | .bjM _ x y | .idxA _ _ x y | .idxV _ _ _ x y | .bjW x y | .bjQ _ x y | .store _ x y | .append _ _ x y=>x.clo&&y.clo
 | .alloc cells=>PV.bounds 0 cells
 | .build zero parts=>PV.bounds 0 zero&&parts.all λx=>x.2.2.clo
 | .bjB _ _ _ zero parts=>PV.bounds 0 zero&&parts.all λx=>x.2.clo
 | .slice _ x lo hi mx=>x.clo&&(lo.all aS.clo&&(hi.all aS.clo&&mx.all aS.clo))
 | .bjS x lo hi=>x.clo&&(lo.all aS.clo&&hi.all aS.clo)
 | .sliceA _ _ x _ _ _=>x.clo
 | .bjD _ _ zero l c=>PV.bounds 0 zero&&(l.clo&&c.clo)
 | .mkfn _ l=>l.all aS.clo
 | .call _ l=>l.all aS.clo
 | .bjX x l=>x.clo&&l.all aS.clo
 |_=>false
section
variable {r:Nat->Nat} {F:PF} {h H:PH}
theorem io(K:bz r h H){op:POp}{v:PV}(u:op.clo=true)(e:aQ op F h=some v):aQ op (F.ren r) H=some (v.ren r):=by
 cases op<;>try (simp[aQ]at e;done)
 case mv x=>exact dD u e
 case pick c a b=>
  simp only[POp.clo,bkI]at u;simp only[aQ]at e ⊢;split at e
  ·rename_i t d;rw[dD u.1 d];cases t with
   |true=>exact dD u.2.1 e
   |false=>exact dD u.2.2 e
  ·cases e
 case bin op x y=>
  simp only[POp.clo,bkI]at u;simp only[aQ]at e ⊢;split at e
  ·rename_i a b d A;rw[dD u.1 d,dD u.2 A];exact a6V e
  ·cases e
 case eqb n x y=>
  simp only[POp.clo,bkI]at u;simp only[aQ]at e ⊢;split at e
  ·rename_i a b d A;rw[dD u.1 d,dD u.2 A];cases e;rfl
  ·cases e
 case eqs n ks x y=>
  simp only[POp.clo,bkI]at u;simp only[aQ]at e ⊢;split at e
  ·rename_i a b d A;rw[dD u.1 d,dD u.2 A];simp only[PV.ren,PV.fK];cases B:PV.eqs ks a b with
   |none=>rw[B]at e;cases e
   |some t=>rw[B]at e;rw[awX B];cases e;rfl
  ·cases e
 case un op x=>
  simp only[aQ]at e ⊢;split at e
  ·rename_i a d;rw[dD u d];exact baP e
  ·cases e
 case conv k x=>
  simp only[aQ]at e ⊢;split at e
  ·rename_i N n d;rw[dD u d];cases e;rfl
  ·cases e
 case same x=>
  simp only[aQ]at e ⊢;split at e
  ·rename_i s d;rw[dD u d];cases e;rfl
  ·cases e
 case box ro x=>
  cases ro with
  |false=>simp[aQ]at e
  |true=>
   simp only[aQ]at e ⊢;split at e
   ·rename_i a d;rw[dD u d];simp only[zK,xS];split at e
    ·rename_i A;rw[aI A];cases e;simp only[PV.ren,PV.fK]
    ·cases e
   ·cases e
 case build zero parts=>
  simp only[POp.clo,bkI]at u;simp only[aQ]at e ⊢;cases d:rN zero F parts with
  |none=>rw[d]at e;cases e
  |some w =>rw[d]at e;have A:=Rp (r:=r) u.2 d;rw[PV.pX u.1]at A;rw[A];cases e;simp only[blJ,PV.ren,PV.fK]
 case bjB ro size len zero parts=>
  cases ro with
  |false=>simp[aQ]at e
  |true=>
   simp only[POp.clo,bkI]at u;simp only[aQ]at e ⊢;split at e
   ·rename_i M;rw[aI M];cases d:jC size (bkM len zero) F parts with
    |none=>rw[d]at e;cases e
    |some w =>rw[d]at e;have A:=JV (r:=r) u.2 d;rw[List.map_replicate,PV.pX u.1]at A;rw[A];cases e;simp only[blJ,PV.ren,PV.lJ]
   ·cases e
 case load n p=>
  cases n with
  |none=>
   simp only[aQ]at e ⊢;split at e
   ·rename_i a d;rw[dD u d];split at e
    ·rename_i w A;have B:=yA K A;simp only[blM,bmE]at B;simp only[B];cases e;rfl
    ·cases e
   ·cases e
  |some n=>
   simp only[aQ]at e ⊢;split at e
   ·rename_i a d;rw[dD u d];cases A:loadCells h a n with
    |none=>rw[A]at e;cases e
    |some w =>rw[A]at e;simp only[yA K A];cases e;simp only[blJ,PV.ren,PV.fK]
   ·cases e
 case bjI x=>
  simp only[aQ]at e ⊢;split at e
  ·rename_i d;rw[dD u d];cases e;rfl
  ·rename_i d;rw[dD u d];cases e;rfl
  ·cases e
 case bjY J x=>
  simp only[aQ]at e ⊢;split at e
  ·rename_i d;rw[dD u d];cases e;rfl
  ·rename_i d;rw[dD u d];cases e;simp only[PV.ren,PV.fK,List.map_drop]
  ·cases e
 case field J n x=>
  simp only[aQ]at e ⊢;split at e
  ·rename_i cs d;rw[dD u d];simp only[PV.ren,PV.fK];split at e
   ·rw[blC,e];rfl
   ·split at e
    ·rename_i A;rw[bkG,aI A,<-List.map_drop,<-bnO];cases e;simp only[PV.ren,PV.fK]
    ·cases e
  ·cases e
 case bjM size x i=>
  simp only[POp.clo,bkI]at u;simp only[aQ]at e ⊢;split at e
  ·rename_i s rows k n d A;rw[dD u.1 d,dD u.2 A];simp only[PV.ren,PV.lJ];split at e
   ·rename_i B;rw[aI B,blC];split at e
    ·rename_i q E;rw[E];cases e;simp only[blJ,PV.ren,PV.fK]
    ·cases e
   ·cases e
  ·rename_i o s J len k n d A;rw[dD u.1 d,dD u.2 A];simp only[PV.ren];split at e
   ·rename_i B;rw[aI B];cases e;rfl
   ·cases e
  ·cases e
 case idxA n size x i=>
  simp only[POp.clo,bkI]at u;simp only[aQ]at e ⊢;split at e
  ·rename_i d A;rw[dD u.1 d,dD u.2 A];simp only[PV.ren];split at e
   ·rename_i B;rw[aI B];cases e;rfl
   ·cases e
  ·rename_i d A;rw[dD u.1 d,dD u.2 A];simp only[PV.ren,PV.fK];split at e
   ·rename_i B;rw[aI B];cases e;simp only[PV.ren,PV.fK,List.map_drop]
   ·cases e
  ·cases e
 case idxV n size ag x i=>
  simp only[POp.clo,bkI]at u;simp only[aQ]at e ⊢;split at e
  ·rename_i d A;rw[dD u.1 d,dD u.2 A];simp only[PV.ren,PV.fK,bkG];split at e
   ·rename_i B;rw[aI B];cases ag with
    |true=>
     simp only[if_true]at e ⊢;split at e
     ·rename_i E;rw[aI E,<-List.map_drop,<-bnO];cases e;simp only[PV.ren,PV.fK]
     ·cases e
    |false =>simp only[bmT,if_false]at e ⊢;rw[blC,e];rfl
   ·cases e
  ·cases e
 case bjW x i=>
  simp only[POp.clo,bkI]at u;simp only[aQ]at e ⊢;split at e
  ·rename_i s k n d A;rw[dD u.1 d,dD u.2 A];simp only[PV.ren];split at e
   ·rename_i B;rw[aI B];cases E:s[n.toNat]? with
    |none=>rw[E]at e;cases e
    |some b=>rw[E]at e;cases e;rfl
   ·cases e
  ·cases e
 case bjS x lo hi=>
  simp only[POp.clo,bkI]at u;simp only[aQ]at e ⊢;split at e
  ·rename_i s d;rw[dD u.1 d];simp only[PV.ren];split at e
   ·rename_i l m A B;rw[RP u.2.1 A,RP u.2.2 B];simp only;split at e
    ·rename_i E;rw[aI E];cases e;rfl
    ·cases e
   ·cases e
  ·cases e
 case sliceA n size x lo hi mx=>
  cases lo<;>cases hi<;>cases mx<;>try (simp[aQ]at e;done)
  simp only[aQ]at e ⊢;split at e
  ·rename_i cs d;rw[dD u d];simp only[PV.ren,PV.fK,bkG];split at e
   ·rename_i B;rw[aI B];cases e;simp only[PV.ren,PV.lJ,Bo]
   ·cases e
  ·cases e
 case len x=>
  simp only[aQ]at e ⊢;cases d:x.ev F with
  |none=>rw[d]at e;cases e
  |some a=>rw[d]at e;rw[dD u d];exact aYG e
 case bjV x=>
  simp only[aQ]at e ⊢;split at e
  ·rename_i d;rw[dD u d];cases e;rfl
  ·cases e
 case lenM x=>simp[POp.clo]at u
 case bkF x=>
  simp only[aQ]at e ⊢;split at e
  ·rename_i d;rw[dD u d];cases e;rfl
  ·cases e
 case isNil n x=>
  simp only[aQ]at e ⊢;cases d:x.ev F with
  |none=>rw[d]at e;cases e
  |some a=>
   rw[d]at e;rw[dD u d];simp only[bnW]at e ⊢;cases A:a.rT with
   |none=>rw[A]at e;cases e
   |some b=>rw[A]at e;rw[aKP A];cases e;rfl
 case extract x i=>
  simp only[aQ]at e ⊢;split at e
  ·rename_i vs d;rw[dD u d];simp only[PV.ren,PV.fK];rw[blC,e];rfl
  ·cases e
 case bjQ mx x y=>
  simp only[POp.clo,bkI]at u;simp only[aQ]at e ⊢;split at e
  ·rename_i d A;rw[dD u.1 d,dD u.2 A];simp only[PV.ren];split at e
   ·rename_i B;rw[aI B];cases e;rfl
   ·cases e
  ·cases e
 case mkfn name l=>
  simp only[aQ]at e ⊢;cases d:aS.evs F l with
  |none=>rw[d]at e;cases e
  |some vs =>rw[d]at e;rw[IF u d];cases e;simp only[blJ,PV.ren,PV.fK]
 case lookup=>simp[POp.clo]at u
 case bjJ x=>
  simp only[aQ]at e ⊢;split at e
  ·rename_i a d;rw[dD u d];split at e
   ·rename_i rows A;simp only[BU K A];cases B:jX rows with
    |none=>rw[B]at e;cases e
    |some s=>rw[B]at e;rw[JJ B];cases e;rfl
   ·cases e
  ·cases e
 case slice size x lo hi mx=>
  simp only[POp.clo,bkI]at u;simp only[aQ]at e ⊢;split at e
  ·rename_i a d;rw[dD u.1 d];cases a<;>try (simp at e;done)
   all_goals
    simp only[PV.ren,PV.lJ,bkG]at e ⊢;split at e
    ·rename_i l m A B;rw[RP u.2.1 A,RP u.2.2.1 B];simp only;cases mx with
     |none =>simp only at e ⊢;have E:=Wb (r:=r) e;simpa only [PV.ren,PV.lJ]using E
     |some q=>
      simp only at e ⊢;cases h5:bnd F 0 (some q)with
      |none=>rw[h5]at e;cases e
      |some z =>rw[h5]at e;rw[RP u.2.2.2 h5];have E:=Wb (r:=r) (by simpa using e);simpa only [PV.ren,PV.lJ,bnW]using E
    ·cases e
  ·cases e
end
inductive Fr where
 |nil
 |node (v:Option PV) (l r:Fr)
def Fr.pf:Fr->PF
 | .nil,_=>none
 | .node v l r,i=>cond (bmL i 0) v (cond (bmL (i%2) 1) (l.pf (i/2)) (r.pf (i/2-1)))
def Fr.set:Fr->Nat->PV->Fr
 | .nil,_,_=>.nil
 | .node v l r,i,x=>cond (bmL i 0) (.node (some x) l r) (cond (bmL (i%2) 1) (.node v (l.set (i/2) x) r) (.node v l (r.set (i/2-1) x)))
def Fr.has:Fr->Nat->Bool
 | .nil,_=>false
 | .node _ l r,i=>cond (bmL i 0) true (cond (bmL (i%2) 1) (l.has (i/2)) (r.has (i/2-1)))
def Fr.put(l:Fr)(d:Option Nat)(v:PV):Fr:=match d with
 |none=>l
 |some d=>l.set d v
def Fr.fits(l:Fr)(d:Option Nat):Bool:=match d with
 |none=>true
 |some d=>l.has d
theorem aaJ(i j:Nat):bmL i j=decide (i=j):=by
 rw[Bool.eq_iff_iff,Nat.beq_eq,dT_]
theorem Fr.Jj:∀{l:Fr}{d:Nat}{v:PV},l.has d=true->(l.set d v).pf=λi=>if i=d then some v else l.pf i
 | .nil,d,v,h=>by cases h
 | .node w l r,d,v,h=>by
  funext i;simp only[Fr.has,Fr.set,aaJ]at h ⊢;by_cases x:d=0
  ·subst x;simp only[decide_true,cond_true,Fr.pf,aaJ];by_cases u:i=0<;>simp[u]
  ·simp only[x,decide_false,cond_false]at h ⊢;by_cases y:d%2=1
   ·simp only[y,decide_true,cond_true]at h ⊢;simp only[Fr.pf,aaJ,Fr.Jj h];by_cases u:i=0
    ·simp only[u,decide_true,cond_true];rw[aD (λe=>x e.symm)]
    ·simp only[u,decide_false,cond_false];by_cases p:i%2=1
     ·simp only[p,decide_true,cond_true];by_cases e:i=d
      ·rw[aI e,aI (by rw[e])]
      ·rw[aD e,aD Om]
     ·simp only[p,decide_false,cond_false];rw[aD (by intro e;rw[e]at p;exact p y)]
   ·simp only[y,decide_false,cond_false]at h ⊢;simp only[Fr.pf,aaJ,Fr.Jj h];by_cases u:i=0
    ·simp only[u,decide_true,cond_true];rw[aD (λe=>x e.symm)]
    ·simp only[u,decide_false,cond_false];by_cases p:i%2=1
     ·simp only[p,decide_true,cond_true];rw[aD (by intro e;rw[e]at p;exact y p)]
     ·simp only[p,decide_false,cond_false];by_cases e:i=d
      ·rw[aI e,aI (by rw[e])]
      ·rw[aD e,aD Om]
theorem Fr.aSJ{l:Fr}{d:Option Nat}{v:PV}(h:l.fits d=true):(l.put d v).pf=l.pf.put d v:=by
 cases d with
 |none=>rfl
 |some d =>simp only[Fr.put];rw[Fr.Jj h];rfl
def Fr.empty:Nat->Fr
 |0=>.nil
 |n+1=>.node none (Fr.empty n) (Fr.empty n)
theorem Fr.acZ:∀(n i:Nat),(Fr.empty n).pf i=none
 |0,i=>rfl
 |n+1,i=>by simp only[Fr.empty,Fr.pf,aaJ];cases decide (i=0)<;>cases decide (i%2=1)<;>simp[Fr.acZ n]
def Fr.args:List PV->Nat->Fr->Option Fr
 |[],_,f=>some f
 |v::vs,k,f=>cond (f.has k) (Fr.args vs (k+1) (f.set k v)) none
theorem Fr.avP:∀{vs:List PV}{k:Nat}{f g:Fr},Fr.args vs k f=some g->g.pf=λi=>if i<k then f.pf i else match vs[i-k]? with|some v=>some v|none=>f.pf i
 |[],k,f,g,h=>by cases h;funext i;split<;>simp
 |v::vs,k,f,g,h=>by
  simp only[Fr.args]at h;cases e:f.has k with
  |false=>rw[e]at h;cases h
  |true=>
   rw[e]at h;rw[Fr.avP h,Fr.Jj e];funext i;show(if i<k+1 then(if i=k then some v else f.pf i)else match vs[i-(k+1)]? with|some w=>some w|none=>(if i=k then some v else f.pf i))=if i<k then f.pf i else match(v::vs)[i-k]? with|some w=>some w|none=>f.pf i
   rcases Nat.lt_trichotomy i k with c|c|c
   ·rw[aI Om,aD Om,aI c]
   ·subst c;rw[aI Om,aI rfl,aD Om,bnF];rfl
   ·rw[aD Om,aD Om,aD Om];obtain⟨d,l⟩:∃d,i-k=d+1:=⟨i-k-1,by omega⟩;rw[l,show i-(k+1)=d by omega];rfl
abbrev Hp:=List bA
def bA.live:bA->Option bA
 | .rows s rs=>some (.rows s rs)
 |_=>none
def Hp.ph(l:Hp):PH:=⟨λo=>(l[o]?).bind bA.live,Z' l,λo d=>by simp[bmA d]⟩
theorem Hp.oC(l:Hp)(o:Nat):l.ph o=(l[o]?).bind bA.live:=rfl
def bA.Bd(n:Nat):bA->Prop
 | .rows _ rs=>PV.jN n rs=true
 |_=>True
def Mt(n:Nat)(f:Fr):Prop:=∀i v,f.pf i=some v->v.bound n=true
structure Rl(r:Nat->Nat)(f:Fr)(h:Hp)(F:PF)(H:PH):Prop where
 fr:F=f.pf.ren r
 hp:bz r h.ph H
 inj:∀i j x y,h.ph i=some x->h.ph j=some y->r i=r j->i=j
 fb:Mt h.length f
 hb:∀x∈h,bA.Bd h.length x
def jD(n:Nat)(r r':Nat->Nat):Prop:=∀i,i<n->r i=r' i
mutual
theorem PV.wG{n m:Nat}(h:n<=m):∀v:PV,v.bound n=true->v.bound m=true
 | .osl o s d len,hb=>by simp only[PV.bound,dT_]at hb ⊢;omega
 | .ptr o s i c,hb=>by simp only[PV.bound,dT_]at hb ⊢;omega
 | .map o,hb=>by simp only[PV.bound,dT_]at hb ⊢;omega
 | .sl s rows,hb=>by simp only[PV.bound]at hb ⊢;exact PV.AE h rows hb
 | .bO cs,hb=>by simp only[PV.bound]at hb ⊢;exact PV.sB h cs hb
 | .fn _ cs,hb=>by simp only[PV.bound]at hb ⊢;exact PV.sB h cs hb
 | .agg cs,hb=>by simp only[PV.bound]at hb ⊢;exact PV.sB h cs hb
 | .tup cs,hb=>by simp only[PV.bound]at hb ⊢;exact PV.sB h cs hb
 | .int _ _,_=>rfl
 | .bool _,_=>rfl
 | .str _,_=>rfl
 | .aK,_=>rfl
 | .lit _,_=>rfl
 | .junk,_=>rfl
theorem PV.sB{n m:Nat}(h:n<=m):∀l:List PV,PV.bounds n l=true->PV.bounds m l=true
 |[],_=>rfl
 |v::vs,hb=>by simp only[PV.bounds,bkI]at hb ⊢;exact⟨PV.wG h v hb.1,PV.sB h vs hb.2⟩
theorem PV.AE{n m:Nat}(h:n<=m):∀l:List (List PV),PV.jN n l=true->PV.jN m l=true
 |[],_=>rfl
 |v::vs,hb=>by simp only[PV.jN,bkI]at hb ⊢;exact⟨PV.sB h v hb.1,PV.AE h vs hb.2⟩
end
def PV.EK(n:Nat)(v:PV):Bool:=cond (v.bound 0) true (v.bound n)
theorem PV.AC{n:Nat}{v:PV}(h:v.EK n=true):v.bound n=true:=by
 unfold PV.EK at h;cases e:v.bound 0 with
 |true=>exact PV.wG (bkL _) v e
 |false=>rw[e]at h;exact h
theorem bA.Bd.mono{n m:Nat}(h:n<=m){x:bA}(hb:x.Bd n):x.Bd m:=by
 cases x with
 |rows s rs=>exact PV.AE h rs hb
 |_=>trivial
theorem bA.pW{n:Nat}{r r':Nat->Nat}(h:jD n r r'){x:bA}(hb:x.Bd n):x.ren r=x.ren r':=by
 cases x with
 |rows s rs=>simp only[bA.ren,<-PV.lJ];rw[PV.PR h rs hb]
 |_=>rfl
theorem PF.pW{n:Nat}{r r':Nat->Nat}(h:jD n r r'){f:Fr}(hb:Mt n f):f.pf.ren r=f.pf.ren r':=by
 funext i;unfold PF.ren;cases e:f.pf i with
 |none=>rfl
 |some v=>rw[blJ,blJ,PV.iu h v (hb i v e)]
theorem PF.a6X(r:Nat->Nat)(F:PF)(d:Option Nat)(v:PV):(F.put d v).ren r=(F.ren r).put d (v.ren r):=by
 cases d with
 |none=>rfl
 |some d =>funext i;simp only[PF.put,PF.ren,PF.set,upd];split<;>rfl
theorem nJ{l:Hp}{o:Nat}{x:bA}(h:l.ph o=some x):l[o]?=some x/\o<Z' l:=by
 rw[Hp.oC]at h;cases e:l[o]? with
 |none=>rw[e]at h;cases h
 |some y=>
  rw[e]at h;have hlt:=(blQ.1 e).1;cases y with
  |rows=>cases h;exact⟨rfl,hlt⟩
  |_=>cases h
theorem Hp.SH{l:Hp}{o:Nat}{x:bA}(i:o<Z' l)(q:Nat):Hp.ph (l.set o x) q=if q=o then x.live else l.ph q:=by
 rw[Hp.oC,Hp.oC,boM];by_cases e:o=q
 ·subst e;rw[aI rfl,aI i,aI rfl];rfl
 ·rw[aD e,aD (λd=>e d.symm)]
theorem Hp.CX{l:Hp}{x:bA}(q:Nat):Hp.ph (l++[x]) q=if q=l.length then x.live else l.ph q:=by
 rw[Hp.oC,Hp.oC];by_cases e:q=Z' l
 ·subst e;rw[aI rfl,bmY (bkN _),bnF];rfl
 ·rw[aD e];rcases blI q l.length with h|h
  ·rw[bmU h]
  ·rw[bmY h,bmA (show[x].length<=q-l.length by simp;omega),bmA h]
theorem bA.EU{x y:bA}(h:x.live=some y):x=y:=by
 cases x<;>first|cases h;done|(cases h;rfl)
section
variable {r:Nat->Nat} {f:Fr} {h:Hp} {F:PF} {H:PH}
theorem Rl.push(R:Rl r f h F H){x:bA}(B:x.Bd h.length){o:Nat}(K:H o=none) :
  Rl (λi=>if i=h.length then o else r i) f (h++[x]) F (H.set o (x.ren r))/\jD h.length r (λi=>if i=h.length then o else r i):=by
 have u:jD h.length r (λi=>if i=h.length then o else r i):=λi hi=>by
  show r i=if i=h.length then o else r i
  rw[aD Om]
 have d:∀i y,h.ph i=some y->r i≠o:=λi y hy e=>by have:=R.hp i y hy;rw[e,K]at this;cases this
 have A:(h++[x]).length=Z' h+1:=by simp
 refine⟨⟨?_,λi y hy=>?_,λi j y z hy p e=>?_,λi v M=>?_,λy hy=>?_⟩,u⟩
 ·rw[R.fr];exact PF.pW u R.fb
 ·rw[Hp.CX]at hy;by_cases e:i=Z' h
  ·rw[aI e]at hy;have:=bA.EU hy;subst this;show(H.set o (x.ren r)) (if i=h.length then o else r i)=_;rw[aI e,bA.pW u B];simp[PH.set,PH.upd,upd]
  ·rw[aD e]at hy;show(H.set o (x.ren r)) (if i=h.length then o else r i)=_;rw[aD e];have w:=R.hp i y hy;have E:=nJ hy;rw[bA.pW u (R.hb y (bmK E.1))]at w;have J:=d i y hy;simp only[PH.set,PH.upd,upd];rw[aD J];exact w
 ·rw[Hp.CX]at hy p
  try simp only at e
  by_cases l:i=Z' h
  ·by_cases e2:j=Z' h
   ·omega
   ·rw[aI l,aD e2]at e;rw[aD e2]at p;exact absurd e.symm (d j z p)
  ·by_cases e2:j=Z' h
   ·rw[aD l,aI e2]at e;rw[aD l]at hy;exact absurd e (d i y hy)
   ·rw[aD l,aD e2]at e;rw[aD l]at hy;rw[aD e2]at p;exact R.inj i j y z hy p e
 ·rw[A];exact PV.wG (Nat.le_succ _) v (R.fb i v M)
 ·rw[A];rcases blV.1 hy with hy|hy
  ·exact(R.hb y hy).mono (Nat.le_succ _)
  ·rw[bmF]at hy;subst hy;exact B.mono (Nat.le_succ _)
theorem Rl.zp(R:Rl r f h F H){o:Nat}{x y:bA}(p:h.ph o=some x)(M:y.Bd h.length):Rl r f (h.set o y) F (H.set (r o) (y.ren r)):=by
 have hlt:=(nJ p).2;refine⟨R.fr,λi z d=>?_,λi j z w d A e=>?_,λi v K=>?_,λz d=>?_⟩
 ·rw[Hp.SH hlt]at d;by_cases e:i=o
  ·rw[aI e]at d;have:=bA.EU d;subst this;subst e;simp[PH.set,PH.upd,upd]
  ·rw[aD e]at d;simp only[PH.set,PH.upd,upd];rw[aD (λJ=>e (R.inj i o z x d p J))];exact R.hp i z d
 ·rw[Hp.SH hlt]at d A;have h1:∃E,h.ph i=some E:=by
   by_cases l:i=o
   ·subst l;exact⟨x,p⟩
   ·rw[aD l]at d;exact⟨z,d⟩
  have u:∃B,h.ph j=some B:=by
   by_cases l:j=o
   ·subst l;exact⟨x,p⟩
   ·rw[aD l]at A;exact⟨w,A⟩
  obtain⟨E,h1⟩:=h1;obtain⟨B,u⟩:=u;exact R.inj i j E B h1 u e
 ·rw[bmD];exact R.fb i v K
 ·rw[bmD];rcases boN d with h1|h1
  ·exact R.hb z h1
  ·subst h1;exact M
theorem Rl.drop(R:Rl r f h F H)(o:Nat):Rl r f (h.set o .dead) F H:=by
 have l:∀i z,Hp.ph (h.set o .dead) i=some z->h.ph i=some z:=λi z d=>by
  rw[Hp.oC,boM]at d;by_cases e:o=i
  ·rw[aI e]at d;split at d<;>cases d
  ·rw[aD e]at d;exact d
 refine⟨R.fr,λi z d=>R.hp i z (l i z d),λi j z w d u e=>R.inj i j z w (l i z d) (l j w u) e,λi v p=>?_,λz d=>?_⟩
 ·rw[bmD];exact R.fb i v p
 ·rw[bmD];rcases boN d with h1|h1
  ·exact R.hb z h1
  ·subst h1;trivial
theorem Rl.move(R:Rl r f h F H){o:Nat}{x y:bA}(B:h.ph o=some x)(M:y.Bd h.length) :
  Rl (λi=>if i=h.length then r o else r i) f (h.set o .dead++[y]) F (H.set (r o) (y.ren r))/\jD h.length r (λi=>if i=h.length then r o else r i):=by
 have hlt:=(nJ B).2;have A:jD h.length r (λi=>if i=h.length then r o else r i):=λi hi=>by
  show r i=if i=h.length then r o else r i
  rw[aD Om]
 have u:(h.set o .dead).length=Z' h:=bmD ..;have d:∀i z,i≠Z' h->Hp.ph (h.set o .dead++[y]) i=some z->i≠o/\h.ph i=some z:=λi z hi hz=>by
  rw[Hp.CX,u,aD hi,Hp.SH hlt]at hz;by_cases e:i=o
  ·rw[aI e]at hz;cases hz
  ·rw[aD e]at hz;exact⟨e,hz⟩
 have J:(h.set o .dead++[y]).length=Z' h+1:=by simp
 refine⟨⟨?_,λi z hz=>?_,λi j z w hz K e=>?_,λi v O=>?_,λz hz=>?_⟩,A⟩
 ·rw[R.fr];exact PF.pW A R.fb
 ·show(H.set (r o) (y.ren r)) (if i=h.length then r o else r i)=_;by_cases e:i=Z' h
  ·rw[aI e];rw[Hp.CX,u,aI e]at hz;have:=bA.EU hz;subst this;rw[<-bA.pW A M];simp[PH.set,PH.upd,upd]
  ·rw[aD e];obtain⟨h1,l⟩:=d i z e hz;have E:=R.hp i z l;rw[bA.pW A (R.hb z (bmK (nJ l).1))]at E;simp only[PH.set,PH.upd,upd];rw[aD (λN=>h1 (R.inj i o z x l B N))];exact E
 ·try simp only at e
  by_cases p:i=Z' h
  ·by_cases e2:j=Z' h
   ·omega
   ·rw[aI p,aD e2]at e;obtain⟨h1,l⟩:=d j w e2 K;exact absurd (R.inj o j x w B l e).symm h1
  ·by_cases e2:j=Z' h
   ·rw[aD p,aI e2]at e;obtain⟨h1,l⟩:=d i z p hz;exact absurd (R.inj i o z x l B e) h1
   ·rw[aD p,aD e2]at e;exact R.inj i j z w (d i z p hz).2 (d j w e2 K).2 e
 ·rw[J];exact PV.wG (Nat.le_succ _) v (R.fb i v O)
 ·rw[J];rcases blV.1 hz with hz|hz
  ·rcases boN hz with h1|h1
   ·exact(R.hb z h1).mono (Nat.le_succ _)
   ·subst h1;trivial
  ·rw[bmF]at hz;subst hz;exact M.mono (Nat.le_succ _)
theorem Rl.put(R:Rl r f h F H){d:Option Nat}{v:PV}(l:f.fits d=true)(p:v.bound h.length=true):Rl r (f.put d v) h (F.put d (v.ren r)) H:=by
 refine⟨?_,R.hp,R.inj,λi w e=>?_,R.hb⟩
 ·rw[Fr.aSJ l,PF.a6X,R.fr]
 ·rw[Fr.aSJ l]at e;cases d with
  |none=>exact R.fb i w e
  |some d=>
   simp only[PF.put,PF.set,upd]at e;split at e
   ·cases e;exact p
   ·exact R.fb i w e
end
end Go.PM
namespace Go.PM
open Go
def bA.bd(n:Nat):bA->Bool
 | .rows _ rs=>PV.jN n rs
 |_=>false
theorem bA.CD{n:Nat}{x:bA}(h:x.bd n=true):x.Bd n:=by
 cases x<;>first|exact h|cases h
def Zi(n m bytes:Nat):Bool:=decide (n+m<=maxLen)&&decide ((n+m)*bytes<=140737488355328)
theorem sw{n m bytes:Nat}(h:Zi n m bytes=true):roomFor n m bytes:=by
 simp only[Zi,bkI,dT_]at h;exact h
def zQ(op:POp)(f:Fr)(h:Hp):Option (PV × Hp):=match cZ op f.pf with
 |some (d,x)=>if x.bd h.length then some (d h.length,h++[x])else none
 |none=>none
def mM(op:POp)(f:Fr)(h:Hp):Option (PV × Hp):=match op with
 | .store n p x=>match p.ev f.pf,x.ev f.pf with
  |some (.ptr o s i c),some v=>match h[o]? with
   |some (.rows s' rs)=>match rs[i]? with
    |some q=>if(decide (Z' v.cells=n)&&(decide (s'=s)&&(decide (c+Z' v.cells<=s)&&v.cells.all PV.one)))&&bA.bd h.length (.rows s' (rs.set i (setCells q c v.cells)))then
      some (.junk,h.set o (.rows s' (rs.set i (setCells q c v.cells))))else none
    |none=>none
   |_=>none
  |_,_=>none
 | .append size bytes x y=>match x.ev f.pf,y.ev f.pf with
  |some .aK,some b=>match eD h.ph size b with
   |some []=>some (.aK,h)
   |some (a::src)=>if Zi 0 (a::src).length bytes&&bA.bd h.length (.rows size (a::src))then some (.osl h.length size 0 (a::src).length,h++[.rows size (a::src)])else none
   |none=>none
  |some (.osl o s 0 len),some b=>match eD h.ph size b,h[o]? with
   |some src,some (.rows s' rs)=>if(decide (s=size)&&(decide (s'=size)&&decide (len<=Z' rs)))&&(Zi len src.length bytes&&bA.bd h.length (.rows size (rs.take len++src)))then
     some (.osl h.length size 0 (len+Z' src),h.set o .dead++[.rows size (rs.take len++src)])else none
   |_,_=>none
  |_,_=>none
 |_=>none
noncomputable def EZ(op:POp)(f:Fr)(h:Hp):Option (PV × Hp):=
 if op.clo then
  if op.jY then zQ op f h else if op.fA then mM op f h else
   match aQ op f.pf h.ph with
   |some v=>if v.EK h.length then some (v,h)else none
   |none=>none
 else none
section
variable {r:Nat->Nat} {f:Fr} {h h':Hp} {F:PF} {H:PH} {K:PV->PH->Prop} {v:PV}
theorem atI{F:PF}{op:POp}{u:Nat->PV}{x:bA}(d:op.clo=true)(e:cZ op F=some (u,x)) :
  ∃mk',cZ op (F.ren r)=some (mk',x.ren r)/\(∀(q:Nat->Nat) n,mk' (q n)=(u n).ren q)/\∀n,(u n).bound (n+1)=true:=by
 cases op<;>try (simp[cZ]at e;done)
 case alloc cells =>simp only[cZ,bmH.injEq,Prod.mk.injEq]at e ⊢;obtain⟨rfl,rfl⟩:=e;refine⟨_,⟨rfl,?_⟩,λq n=>rfl,λn=>by simp[PV.bound]⟩;simp only[bA.ren,blM,bmE,PV.pX d]
 case box ro y=>
  cases ro with
  |true=>simp[cZ]at e
  |false=>
   simp only[cZ]at e ⊢;split at e
   ·rename_i w i;rw[dD d i];simp only[zK,xS,bkG];split at e
    ·rename_i p;rw[aI p];cases e;exact⟨_,rfl,λq n=>rfl,λn=>by simp[PV.bound]⟩
    ·cases e
   ·cases e
 case bjB ro size len zero parts=>
  cases ro with
  |true=>simp[cZ]at e
  |false=>
   simp only[POp.clo,bkI]at d;simp only[cZ]at e ⊢;split at e
   ·rename_i A;rw[aI A];cases i:jC size (bkM len zero) F parts with
    |none=>rw[i]at e;cases e
    |some w =>rw[i]at e;have p:=JV (r:=r) d.2 i;rw[List.map_replicate,PV.pX d.1]at p;rw[p];cases e;exact⟨_,rfl,λq n=>rfl,λn=>by simp[PV.bound]⟩
   ·cases e
 case bjD size bytes zero l c=>
  simp only[POp.clo,bkI]at d;simp only[cZ]at e ⊢;split at e
  ·rename_i k n J m i p;rw[dD d.2.1 i,dD d.2.2 p];simp only[PV.ren];split at e
   ·rename_i B;rw[aI B];cases e;have E:bA.ren r (.rows size (bkM n.toNat zero))=.rows size (bkM n.toNat zero):=by simp only[bA.ren,List.map_replicate,PV.pX d.1]
    rw[E];exact⟨_,rfl,λq n=>rfl,λn=>by simp[PV.bound]⟩
   ·cases e
  ·cases e
 case bkB sh=>simp[POp.clo]at d
theorem bv{op:POp}{d:Option Nat}{K:PF->PH->Prop}(R:Rl r f h F H)(B:op.clo=true)(e:zQ op f h=some (v,h'))
  (E:∀r' H',jD h.length r r'->Rl r' f h' F H'->v.bound h'.length=true->K (F.put d (v.ren r')) H'):pS (cZ op F) d K F H:=by
 unfold zQ at e;cases i:cZ op f.pf with
 |none=>rw[i]at e;cases e
 |some p=>
  obtain⟨M,x⟩:=p;rw[i]at e;simp only at e;split at e
  ·rename_i hb;cases e;obtain⟨mk',l,w,y⟩:=atI (r:=r) B i;rw[<-R.fr]at l;refine⟨mk',x.ren r,l,λo J=>?_⟩;obtain⟨u,A⟩:=R.push (bA.CD hb) J;have:=E _ _ A u (by rw[bkQ];exact y _);rw[<-w]at this;simpa using this
  ·cases e
theorem NL{op:POp}(R:Rl r f h F H)(d:op.clo=true)(e:mM op f h=some (v,h'))
  (O:∀r' H',jD h.length r r'->Rl r' f h' F H'->v.bound h'.length=true->K (v.ren r') H'):cL op F H K:=by
 have l:=R.fr;cases op<;>try (simp[mM]at e;done)
 case store n p x=>
  simp only[POp.clo,bkI]at d;simp only[mM]at e;split at e
  ·rename_i o s i c w J M;split at e
   ·rename_i s' rs A;split at e
    ·rename_i q S;split at e
     ·rename_i h5;simp only[bkI,dT_]at h5;obtain⟨⟨U,rfl,h7,h8⟩,X⟩:=h5;cases e;simp only[cL,l,dD d.1 J,dD d.2 M];have B:h.ph o=some (.rows s' rs):=by rw[Hp.oC,A];rfl
      refine⟨by rw[zK,bkG];exact U,_,?_,O r _ (λ_ _=>rfl) (R.zp B (bA.CD X)) rfl⟩;simp only[PV.ren,storeAt,R.hp o _ B,bA.ren,zK,xS,bkG];rw[aI ⟨trivial,h7,h8⟩,blC,S];simp only[blJ,List.map_set,KT]
     ·cases e
    ·cases e
   ·cases e
  ·cases e
 case append size bytes x y=>
  simp only[POp.clo,bkI]at d;simp only[mM]at e;split at e
  ·rename_i b J M;split at e
   ·rename_i A;cases e;simp only[cL,l,dD d.1 J,dD d.2 M];refine⟨[],BU R.hp A,⟨by simp[maxLen],by simp⟩,λ_=>O r H (λ_ _=>rfl) R rfl,λV=>absurd rfl V⟩
   ·rename_i a src A;split at e
    ·rename_i h5;simp only[bkI]at h5;cases e;simp only[cL,l,dD d.1 J,dD d.2 M];refine⟨_,BU R.hp A,?_⟩;simp only[PV.ren];refine⟨by rw[bkG];exact sw h5.1,λV=>by simp at V,λ_ o B=>?_⟩;obtain⟨E,N⟩:=R.push (bA.CD h5.2) B;have:=O _ _ N E (by simp[PV.bound]);simpa[PV.ren,bA.ren]using this
    ·cases e
   ·cases e
  ·rename_i o s len b J M;split at e
   ·rename_i src s' rs A S;split at e
    ·rename_i h5;simp only[bkI,dT_]at h5;obtain⟨⟨rfl,rfl,U⟩,h7,h8⟩:=h5;cases e;have B:h.ph o=some (.rows s' rs):=by rw[Hp.oC,S];rfl
     simp only[cL,l,dD d.1 J,dD d.2 M];refine⟨_,BU R.hp A,?_⟩;simp only[PV.ren];have Q:=R.hp o _ B;simp only[bA.ren]at Q;have u:(List.map (λx=>List.map (PV.ren r) x) rs).take len++List.map (λx=>List.map (PV.ren r) x) src=List.map (λx=>List.map (PV.ren r) x) (rs.take len++src):=by rw[blK,bnO]
     refine⟨trivial,trivial,by rw[bkG];exact sw h7,_,Q,by rw[bkG];exact U,?_,λo' W=>?_⟩
     ·obtain⟨E,N⟩:=R.move B (bA.CD h8);have:=O _ _ N E (by simp[PV.bound]);rw[u,bkG];simpa[PV.ren,bA.ren]using this
     ·obtain⟨E,N⟩:=(R.drop o).push (x:=.rows s' (rs.take len++src)) (by rw[bmD];exact bA.CD h8) W;rw[bmD]at N E;have:=O _ _ N E (by simp[PV.bound]);rw[u,bkG];simpa[PV.ren,bA.ren]using this
    ·cases e
   ·cases e
  ·cases e
end
abbrev gV:=Nat->List PV->Hp->Option (PV × Hp)
abbrev RJ:=List (aZ × Bool)->Fr->Hp->Option (Fr × Hp)
noncomputable def nn(call:gV)(op:POp)(f:Fr)(h:Hp):Option (PV × Hp):=match op with
 | .call name args=>if args.all aS.clo then match aS.evs f.pf args with
  |some vs=>call name vs h
  |none=>none
  else none
 | .bjX x args=>if x.clo&&args.all aS.clo then match x.ev f.pf,aS.evs f.pf args with
  |some (.fn name cs),some vs=>call name (vs++cs) h
  |_,_=>none
  else none
 |op=>EZ op f h
noncomputable def BK(call:gV):List aZ->Fr->Hp->Option (Fr × Hp)
 |[],f,h=>some (f,h)
 |i::rest,f,h=>if f.fits i.dst then match i.guard with
   |none=>match nn call i.op f h with
    |some (v,h')=>BK call rest (f.put i.dst v) h'
    |none=>none
   |some (t,d)=>match f.pf t with
    |some (.bool b)=>if b=d then match nn call i.op f h with
      |some (v,h')=>BK call rest (f.put i.dst v) h'
      |none=>none
     else BK call rest (f.put i.dst (.tup [])) h
    |some (.tup [])=>BK call rest (f.put i.dst (.tup [])) h
    |_=>none
  else none
noncomputable def tA(call:gV)(dr:RJ):Nat->aC->Fr->Hp->Option (nY × Fr × Hp)
 |0,_,_,_=>none
 |n+1,c,f,h=>match c with
  | .skip=>some (.normal,f,h)
  | .region ops=>match BK call ops f h with
   |some (f',h')=>some (.normal,f',h')
   |none=>none
  | .draw ops=>match dr ops f h with
   |some (f',h')=>some (.normal,f',h')
   |none=>none
  | .seq a b=>match tA call dr n a f h with
   |some (.normal,f',h')=>tA call dr n b f' h'
   |x=>x
  | .cond x a b=>if x.clo then match x.ev f.pf with
   |some (.bool t)=>if t then tA call dr n a f h else tA call dr n b f h
   |_=>none
   else none
  | .block id c=>match tA call dr n c f h with
   |some (.exit d,f',h')=>if d=id then some (.normal,f',h')else some (.exit d,f',h')
   |x=>x
  | .loop c=>match tA call dr n c f h with
   |some (.normal,f',h')=>tA call dr n (.loop c) f' h'
   |x=>x
  | .exit id=>some (.exit id,f,h)
  | .ret=>some (.ret,f,h)
def Comes(r:Nat->Nat)(n:Nat)(v:PV)(h':Hp)(d:PV)(H':PH):Prop:=
 ∃r',jD n r r'/\Rl r' .nil h' n_ H'/\d=v.ren r'/\v.bound h'.length=true/\n<=Z' h'
def Exact(r:Nat->Nat)(h:Hp)(H:PH):Prop:=∀o x,H o=some x->∃i y,h.ph i=some y/\r i=o
def rF(C:Ctx)(call:gV):Prop:=∀name vs h v h',call name vs h=some (v,h')->∀r H,Rl r .nil h n_ H->Exact r h H->PV.bounds h.length vs=true ->
 aH C name (vs.map (PV.ren r)) H (Comes r h.length v h')
def Aq(C:Ctx)(call:gV):Prop:=∀name vs h v h',call name vs h=some (v,h')->∀r f F H d (K:PF->PH->Prop),Rl r f h F H->PV.bounds h.length vs=true ->
 (∀r' H',jD h.length r r'->Z' h<=Z' h'->Rl r' f h' F H'->v.bound h'.length=true->K (F.put d (v.ren r')) H')->wC C name (some (vs.map (PV.ren r))) d K F H
def Zw(C:Ctx)(dr:RJ):Prop:=∀ops f h f' h',dr ops f h=some (f',h')->∀r F H,Rl r f h F H->∀K:PF->PH->Prop,
 (∀r' d H',jD h.length r r'->Z' h<=Z' h'->Rl r' f' h' d H'->K d H')->∃Hs S,PH.le Hs H/\wpD C Hs S ops K F H
theorem jD.trans{n m:Nat}{r r' d:Nat->Nat}(h:jD n r r')(e:jD m r' d)(l:n<=m):jD n r d:=
 λi hi=>(h i hi).trans (e i (Nat.lt_of_lt_of_le hi l))
section
variable {C:Ctx} {call:gV} {dr:RJ} {r:Nat->Nat} {f f':Fr} {h h':Hp} {F:PF} {H:PH} {v:PV}
theorem Rl.heap(R:Rl r f h F H):Rl r .nil h n_ H:=⟨rfl,R.hp,R.inj,λi v d=>by simp[Fr.pf]at d,R.hb⟩
theorem dt{n:Nat}(hb:Mt n f):∀{l:List aS}{vs:List PV},l.all aS.clo=true->aS.evs f.pf l=some vs->PV.bounds n vs=true
 |[],_,_,e=>by cases e;rfl
 |x::xs,vs,d,e=>by
  simp only[bnY,bkI]at d;simp only[aS.evs]at e;split at e
  ·rename_i v w i p;cases e;rw[PV.bounds,dt hb d.2 p,bmO];cases x with
   |tmp t=>exact hb t v i
   |const u=>cases i;exact PV.wG (bkL _) _ d.1
  ·cases e
theorem be{n:Nat}:∀{a b:List PV},PV.bounds n a=true->PV.bounds n b=true->PV.bounds n (a++b)=true
 |[],_,_,h=>h
 |x::a,b,d,e=>by simp only[PV.bounds,List.cons_append,bkI]at d ⊢;exact⟨d.1,be d.2 e⟩
theorem aoX{op:POp}{d:Option Nat}{K:PF->PH->Prop}(R:Rl r f h F H)(e:EZ op f h=some (v,h'))
  (u:∀r' H',jD h.length r r'->Rl r' f h' F H'->v.bound h'.length=true->K (F.put d (v.ren r')) H') :
  if op.jY then pS (cZ op F) d K F H else if op.fA then cL op F H (λr H'=>K (F.put d r) H')else cP (aQ op F H) d K F H:=by
 unfold EZ at e;split at e
 ·rename_i p;split at e
  ·rename_i i;rw[aI i];exact bv R p e u
  ·rename_i i;rw[aD i];split at e
   ·rename_i l;rw[aI l];exact NL R p e u
   ·rename_i l;rw[aD l];split at e
    ·rename_i w x;split at e
     ·rename_i hb;replace hb:=PV.AC hb;cases e;have:=io R.hp p x;rw[<-R.fr]at this;exact⟨_,this,u r H (λ_ _=>rfl) R hb⟩
     ·cases e
    ·cases e
 ·cases e
theorem YK{op:POp}(e:EZ op f h=some (v,h')):Z' h<=Z' h':=by
 unfold EZ at e;split at e
 ·split at e
  ·unfold zQ at e;split at e
   ·split at e<;>cases e;simp
   ·cases e
  ·split at e
   ·cases op<;>try (simp[mM]at e;done)
    all_goals
     simp only[mM]at e
     (repeat' split at e)<;>cases e<;>simp
   ·split at e
    ·split at e<;>cases e;exact bkN _
    ·cases e
 ·cases e
theorem auY(J:Aq C call){op:POp}{d:Option Nat}{K:PF->PH->Prop}(R:Rl r f h F H)(e:nn call op f h=some (v,h'))
  (y:∀r' H',jD h.length r r'->Z' h<=Z' h'->Rl r' f h' F H'->v.bound h'.length=true->K (F.put d (v.ren r')) H'):wpOp C op d K F H:=by
 by_cases w:∃name args,op=.call name args
 ·obtain⟨name,args,rfl⟩:=w;simp only[nn]at e;split at e
  ·rename_i i;split at e
   ·rename_i vs p;have l:=IF (r:=r) i p;rw[<-R.fr]at l;refine .inl ?_;rw[l];simp only[blJ,bmJ];exact J _ _ _ _ _ e _ _ _ _ _ _ R (dt R.fb i p) y
   ·cases e
  ·cases e
 by_cases p:∃x args,op=.bjX x args
 ·obtain⟨x,args,rfl⟩:=p;simp only[nn]at e;split at e
  ·rename_i i;simp only[bkI]at i;split at e
   ·rename_i name cs vs l B;have h5:=IF (r:=r) i.2 B;have E:=dD (r:=r) i.1 l;rw[<-R.fr]at h5 E;show xB C (x.ev F) args d K F H;rw[E];simp only[PV.ren,PV.fK,xB];refine .inl ?_;rw[h5];simp only[blJ,<-blK];refine J _ _ _ _ _ e _ _ _ _ _ _ R (be (dt R.fb i.2 B) ?_) y;cases x with
    |tmp t=>exact R.fb t _ l
    |const u =>simp only[aS.ev,bmH.injEq]at l;subst l;have:=i.1;simp only[aS.clo,PV.bound]at this;exact PV.sB (bkL _) _ this
   ·cases e
  ·cases e
 ·have A:EZ op f h=some (v,h'):=by cases op<;>first|exact e|exact absurd ⟨_,_,rfl⟩ w|exact absurd ⟨_,_,rfl⟩ p
  have O:=YK A;have:=aoX (d:=d) (K:=K) R A λr' H' N M hb=>y r' H' N O M hb;cases op<;>first|exact this|exact absurd ⟨_,_,rfl⟩ w|exact absurd ⟨_,_,rfl⟩ p
theorem KX(E:Aq C call):∀(ops:List aZ){r:Nat->Nat}{f f':Fr}{h h':Hp}{F:PF}{H:PH}{K:PF->PH->Prop},BK call ops f h=some (f',h')->Rl r f h F H ->
  (∀r' Q H',jD h.length r r'->Z' h<=Z' h'->Rl r' f' h' Q H'->K Q H')->wpOps C ops K F H
 |[],r,f,f',h,h',F,H,K,e,R,x=>by cases e;exact x r F H (λ_ _=>rfl) (bkN _) R
 |i::rest,r,f,f',h,h',F,H,K,e,R,x=>by
  simp only[BK]at e;split at e
  ·rename_i S;have l:∀{e2:(match nn call i.op f h with|some (v,h')=>BK call rest (f.put i.dst v) h'|none=>none)=some (f',h')},wpOp C i.op i.dst (wpOps C rest K) F H:=by
    intro e2;split at e2
    ·rename_i v Z X;refine auY E R X λr' H' Y U W hb=>?_;exact KX E rest e2 (W.put S hb) λO y A J N B=>x O y A (Y.trans J U) (blH U N) B
    ·cases e2
   have d:∀{e2:BK call rest (f.put i.dst (.tup [])) h=some (f',h')},wpOps C rest K (F.put i.dst (.tup [])) H:=by intro e2;exact KX E rest e2 (R.put (v:=.tup []) S rfl) x
   have p:∀t w,f.pf t=some w->F t=some (w.ren r):=λt w u=>by rw[R.fr];simp only[PF.ren,u,blJ]
   simp only[wpOps];split at e
   ·rename_i M;rw[M];exact l (e2:=e)
   ·rename_i t V M;rw[M];simp only;split at e
    ·rename_i b hb;rw[p t _ hb];simp only[PV.ren];split at e
     ·rename_i u;rw[aI u];exact l (e2:=e)
     ·rename_i u;rw[aD u];exact d (e2:=e)
    ·rename_i hb;rw[p t _ hb];exact d (e2:=e)
    ·cases e
  ·cases e
theorem aMV(hC:Aq C call)(hD:Zw C dr):∀(n:Nat)(c:aC){r:Nat->Nat}{f f':Fr}{h h':Hp}{F:PF}{H:PH}{x:nY}{K:cH},tA call dr n c f h=some (x,f',h')->Rl r f h F H ->
  (∀r' d H',jD h.length r r'->Z' h<=Z' h'->Rl r' f' h' d H'->K x d H')->c.wp C K F H:=by
 intro n
 induction n using Nat.strongRecOn with
 |_ n ih=>
 intro c r f f' h h' F H x K e R i;cases n with
 |zero=>cases e
 |succ n=>
 have J:=ih n (Nat.lt_succ_self n);cases c with
 |skip=>cases e;exact i r F H (λ_ _=>rfl) (bkN _) R
 |exit id=>cases e;exact i r F H (λ_ _=>rfl) (bkN _) R
 |ret=>cases e;exact i r F H (λ_ _=>rfl) (bkN _) R
 |region ops=>
  simp only[tA]at e;split at e
  ·rename_i f1 w u;cases e;exact KX hC ops u R i
  ·cases e
 |draw ops=>
  simp only[tA]at e;split at e
  ·rename_i f1 w u;cases e;exact hD ops f h _ _ u r F H R _ i
  ·cases e
 |cond c a b=>
  simp only[tA]at e;split at e
  ·rename_i hc;split at e
   ·rename_i t w;have M:=dD (r:=r) hc w;rw[<-R.fr]at M;simp only[aC.wp,M,PV.ren];cases t with
    |true=>exact J a e R i
    |false=>exact J b e R i
   ·cases e
  ·cases e
 |seq a b=>
  simp only[tA]at e;cases w:tA call dr n a f h with
  |none=>rw[w]at e;cases e
  |some p=>
   obtain⟨y,f1,g1⟩:=p;rw[w]at e;refine J a w R λr' d H' E A B=>?_;cases y with
   |normal=>exact J b e B λY Q S V X U=>i Y Q S (E.trans V A) (blH A X) U
   |exit id=>cases e;exact i r' d H' E A B
   |ret=>cases e;exact i r' d H' E A B
 |block id c=>
  simp only[tA]at e;cases w:tA call dr n c f h with
  |none=>rw[w]at e;cases e
  |some p=>
   obtain⟨y,f1,g1⟩:=p;rw[w]at e;refine J c w R λr' d H' E A B=>?_;cases y with
   |normal=>cases e;exact i r' d H' E A B
   |exit β=>
    simp only at e;simp only[gE];split at e
    ·rename_i M;rw[aI M];cases e;exact i r' d H' E A B
    ·rename_i M;rw[aD M];cases e;exact i r' d H' E A B
   |ret=>cases e;exact i r' d H' E A B
 |loop c=>
  let α:=Nat × Fr × Hp × (Nat->Nat) × PF × PH
  refine⟨α,λa=>a.2.2.2.2.1,λa=>a.2.2.2.2.2,λa=>a.1<=n+1/\tA call dr a.1 (.loop c) a.2.1 a.2.2.1=some (x,f',h')/\Rl a.2.2.2.1 a.2.1 a.2.2.1 a.2.2.2.2.1 a.2.2.2.2.2/\jD h.length r a.2.2.2.1/\Z' h<=a.2.2.1.length,
   λa=>a.1,(n+1,f,h,r,F,H),F,H,.refl F H,⟨bkN _,e,R,λ_ _=>rfl,bkN _⟩,λ_ _ O=>O,λ_ _ O=>O,?_⟩
  rintro⟨k,f1,w,r1,F1,H1⟩ ⟨W,u,Z,N,l⟩;simp only at W u Z N l ⊢;cases k with
  |zero=>cases u
  |succ k=>
   simp only[tA]at u;cases M:tA call dr k c f1 w with
   |none=>rw[M]at u;cases u
   |some p=>
    obtain⟨y,f2,g2⟩:=p;rw[M]at u;refine ih k Om c M Z λr' d H' E A B=>?_;cases y with
    |normal=>exact⟨(k,f2,g2,r',d,H'),d,H',.refl d H',⟨by omega,u,B,N.trans E l,blH l A⟩,Nat.lt_succ_self k,λ_ _ O=>O,λ_ _ O=>O⟩
    |exit id=>cases u;exact i r' d H' (N.trans E l) (blH l A) B
    |ret=>cases u;exact i r' d H' (N.trans E l) (blH l A) B
end
mutual
def PV.on(L:Nat->Bool):PV->Bool
 | .osl o _ _ _=>L o
 | .ptr o _ _ _=>L o
 | .map o=>L o
 | .sl _ rows=>PV.uO L rows
 | .bO cs=>PV.ons L cs
 | .fn _ cs=>PV.ons L cs
 | .agg cs=>PV.ons L cs
 | .tup cs=>PV.ons L cs
 | .int _ _=>true
 | .bool _=>true
 | .str _=>true
 | .aK=>true
 | .lit _=>true
 | .junk=>true
def PV.ons(L:Nat->Bool):List PV->Bool
 |[]=>true
 |v::vs=>PV.on L v&&PV.ons L vs
def PV.uO(L:Nat->Bool):List (List PV)->Bool
 |[]=>true
 |v::vs=>PV.ons L v&&PV.uO L vs
end
mutual
theorem PV.amW{L:Nat->Bool}{r s t:Nat->Nat}(h:∀i,L i=true->r (t i)=s i):∀v:PV,v.on L=true->(v.ren t).ren r=v.ren s
 | .osl o _ _ _,hb=>by simp only[PV.on]at hb;simp only[PV.ren,h o hb]
 | .ptr o _ _ _,hb=>by simp only[PV.on]at hb;simp only[PV.ren,h o hb]
 | .map o,hb=>by simp only[PV.on]at hb;simp only[PV.ren,h o hb]
 | .sl _ rows,hb=>by simp only[PV.on]at hb;simp only[PV.ren,PV.XL h rows hb]
 | .bO cs,hb=>by simp only[PV.on]at hb;simp only[PV.ren,PV.zM h cs hb]
 | .fn _ cs,hb=>by simp only[PV.on]at hb;simp only[PV.ren,PV.zM h cs hb]
 | .agg cs,hb=>by simp only[PV.on]at hb;simp only[PV.ren,PV.zM h cs hb]
 | .tup cs,hb=>by simp only[PV.on]at hb;simp only[PV.ren,PV.zM h cs hb]
 | .int _ _,_=>rfl
 | .bool _,_=>rfl
 | .str _,_=>rfl
 | .aK,_=>rfl
 | .lit _,_=>rfl
 | .junk,_=>rfl
theorem PV.zM{L:Nat->Bool}{r s t:Nat->Nat}(h:∀i,L i=true->r (t i)=s i):∀l:List PV,PV.ons L l=true->PV.lT r (PV.lT t l)=PV.lT s l
 |[],_=>rfl
 |v::vs,hb=>by simp only[PV.ons,bkI]at hb;simp only[PV.lT,PV.amW h v hb.1,PV.zM h vs hb.2]
theorem PV.XL{L:Nat->Bool}{r s t:Nat->Nat}(h:∀i,L i=true->r (t i)=s i):∀l:List (List PV),PV.uO L l=true->PV.qW r (PV.qW t l)=PV.qW s l
 |[],_=>rfl
 |v::vs,hb=>by simp only[PV.uO,bkI]at hb;simp only[PV.qW,PV.zM h v hb.1,PV.XL h vs hb.2]
end
mutual
theorem PV.yq{L:Nat->Bool}{t:Nat->Nat}{m:Nat}(h:∀i,L i=true->t i<m):∀v:PV,v.on L=true->(v.ren t).bound m=true
 | .osl o _ _ _,hb=>by simp only[PV.on]at hb;simp only[PV.ren,PV.bound,h o hb,decide_true]
 | .ptr o _ _ _,hb=>by simp only[PV.on]at hb;simp only[PV.ren,PV.bound,h o hb,decide_true]
 | .map o,hb=>by simp only[PV.on]at hb;simp only[PV.ren,PV.bound,h o hb,decide_true]
 | .sl _ rows,hb=>by simp only[PV.on]at hb;simp only[PV.ren,PV.bound,PV.WZ h rows hb]
 | .bO cs,hb=>by simp only[PV.on]at hb;simp only[PV.ren,PV.bound,PV.vQ h cs hb]
 | .fn _ cs,hb=>by simp only[PV.on]at hb;simp only[PV.ren,PV.bound,PV.vQ h cs hb]
 | .agg cs,hb=>by simp only[PV.on]at hb;simp only[PV.ren,PV.bound,PV.vQ h cs hb]
 | .tup cs,hb=>by simp only[PV.on]at hb;simp only[PV.ren,PV.bound,PV.vQ h cs hb]
 | .int _ _,_=>rfl
 | .bool _,_=>rfl
 | .str _,_=>rfl
 | .aK,_=>rfl
 | .lit _,_=>rfl
 | .junk,_=>rfl
theorem PV.vQ{L:Nat->Bool}{t:Nat->Nat}{m:Nat}(h:∀i,L i=true->t i<m):∀l:List PV,PV.ons L l=true->PV.bounds m (PV.lT t l)=true
 |[],_=>rfl
 |v::vs,hb=>by simp only[PV.ons,bkI]at hb;simp only[PV.lT,PV.bounds,PV.yq h v hb.1,PV.vQ h vs hb.2,bmO]
theorem PV.WZ{L:Nat->Bool}{t:Nat->Nat}{m:Nat}(h:∀i,L i=true->t i<m):∀l:List (List PV),PV.uO L l=true->PV.jN m (PV.qW t l)=true
 |[],_=>rfl
 |v::vs,hb=>by simp only[PV.uO,bkI]at hb;simp only[PV.qW,PV.jN,PV.vQ h v hb.1,PV.WZ h vs hb.2,bmO]
end
mutual
theorem PV.aRW{L L':Nat->Bool}(h:∀i,L i=true->L' i=true):∀v:PV,v.on L=true->v.on L'=true
 | .osl o _ _ _,hb=>h o hb
 | .ptr o _ _ _,hb=>h o hb
 | .map o,hb=>h o hb
 | .sl _ rows,hb=>by simp only[PV.on]at hb ⊢;exact PV.alU h rows hb
 | .bO cs,hb=>by simp only[PV.on]at hb ⊢;exact PV.IU h cs hb
 | .fn _ cs,hb=>by simp only[PV.on]at hb ⊢;exact PV.IU h cs hb
 | .agg cs,hb=>by simp only[PV.on]at hb ⊢;exact PV.IU h cs hb
 | .tup cs,hb=>by simp only[PV.on]at hb ⊢;exact PV.IU h cs hb
 | .int _ _,_=>rfl
 | .bool _,_=>rfl
 | .str _,_=>rfl
 | .aK,_=>rfl
 | .lit _,_=>rfl
 | .junk,_=>rfl
theorem PV.IU{L L':Nat->Bool}(h:∀i,L i=true->L' i=true):∀l:List PV,PV.ons L l=true->PV.ons L' l=true
 |[],_=>rfl
 |v::vs,hb=>by simp only[PV.ons,bkI]at hb ⊢;exact⟨PV.aRW h v hb.1,PV.IU h vs hb.2⟩
theorem PV.alU{L L':Nat->Bool}(h:∀i,L i=true->L' i=true):∀l:List (List PV),PV.uO L l=true->PV.uO L' l=true
 |[],_=>rfl
 |v::vs,hb=>by simp only[PV.uO,bkI]at hb ⊢;exact⟨PV.IU h v hb.1,PV.alU h vs hb.2⟩
end
mutual
theorem PV.SW{n:Nat}:∀v:PV,v.on (λi=>decide (i<n))=v.bound n
 | .osl o _ _ _=>rfl
 | .ptr o _ _ _=>rfl
 | .map o=>rfl
 | .sl _ rows=>by simp only[PV.on,PV.bound,PV.SX rows]
 | .bO cs=>by simp only[PV.on,PV.bound,PV.yY cs]
 | .fn _ cs=>by simp only[PV.on,PV.bound,PV.yY cs]
 | .agg cs=>by simp only[PV.on,PV.bound,PV.yY cs]
 | .tup cs=>by simp only[PV.on,PV.bound,PV.yY cs]
 | .int _ _=>rfl
 | .bool _=>rfl
 | .str _=>rfl
 | .aK=>rfl
 | .lit _=>rfl
 | .junk=>rfl
theorem PV.yY{n:Nat}:∀l:List PV,PV.ons (λi=>decide (i<n)) l=PV.bounds n l
 |[]=>rfl
 |v::vs=>by simp only[PV.ons,PV.bounds,PV.SW v,PV.yY vs]
theorem PV.SX{n:Nat}:∀l:List (List PV),PV.uO (λi=>decide (i<n)) l=PV.jN n l
 |[]=>rfl
 |v::vs=>by simp only[PV.uO,PV.jN,PV.yY v,PV.SX vs]
end
theorem PV.a6J{L L':Nat->Bool}(h:∀i,L i=true->L' i=true)(v:PV)(d:v.on L=true):v.on L'=true:=by
 have:=PV.aRW (L:=L) (L':=L') h v;exact this d
def PV.Oc(r:Nat->Nat)(v:PV):PV:=cond (v.bound 0) v (v.ren r)
theorem PV.XK(r:Nat->Nat)(v:PV):v.Oc r=v.ren r:=by
 unfold PV.Oc;cases e:v.bound 0 with
 |true=>exact(PV.BH e r).symm
 |false=>rfl
def PV.onC(L:Nat->Bool)(v:PV):Bool:=cond (v.bound 0) true (v.on L)
theorem PV.alR{L:Nat->Bool}{v:PV}(h:v.onC L=true):v.on L=true:=by
 unfold PV.onC at h;cases e:v.bound 0 with
 |true =>rw[<-PV.SW]at e;exact PV.a6J (λi hi=>by simp at hi) v e
 |false=>rw[e]at h;exact h
mutual
def PV.ids:PV->List Nat->List Nat
 | .osl o _ _ _,l=>o::l
 | .ptr o _ _ _,l=>o::l
 | .map o,l=>o::l
 | .sl _ rows,l=>PV.a2O rows l
 | .bO cs,l=>PV.M2 cs l
 | .fn _ cs,l=>PV.M2 cs l
 | .agg cs,l=>PV.M2 cs l
 | .tup cs,l=>PV.M2 cs l
 | .int _ _,l=>l
 | .bool _,l=>l
 | .str _,l=>l
 | .aK,l=>l
 | .lit _,l=>l
 | .junk,l=>l
def PV.M2:List PV->List Nat->List Nat
 |[],l=>l
 |v::vs,l=>PV.ids v (PV.M2 vs l)
def PV.a2O:List (List PV)->List Nat->List Nat
 |[],l=>l
 |v::vs,l=>PV.M2 v (PV.a2O vs l)
end
def PV.aYA(v:PV)(l:List Nat):List Nat:=cond (v.bound 0) l (v.ids l)
def wM:List PV->List Nat->List Nat
 |[],l=>l
 |v::vs,l=>PV.aYA v (wM vs l)
def agY:List (List PV)->List Nat->List Nat
 |[],l=>l
 |v::vs,l=>wM v (agY vs l)
def ig(L:Nat->Bool):List PV->Bool
 |[]=>true
 |v::vs=>v.onC L&&ig L vs
def mw(L:Nat->Bool):List (List PV)->Bool
 |[]=>true
 |v::vs=>ig L v&&mw L vs
theorem WW{L:Nat->Bool}:∀{l:List PV},ig L l=true->PV.ons L l=true
 |[],_=>rfl
 |v::vs,h=>by simp only[ig,PV.ons,bkI]at h ⊢;exact⟨PV.alR h.1,WW h.2⟩
theorem AY{L:Nat->Bool}:∀{l:List (List PV)},mw L l=true->PV.uO L l=true
 |[],_=>rfl
 |v::vs,h=>by simp only[mw,PV.uO,bkI]at h ⊢;exact⟨WW h.1,AY h.2⟩
theorem PV.a9P{L:Nat->Bool}{v:PV}(h:v.on L=true):v.onC L=true:=by
 unfold PV.onC;rw[h];cases v.bound 0<;>rfl
theorem alS{L:Nat->Bool}:∀{l:List PV},PV.ons L l=true->ig L l=true
 |[],_=>rfl
 |v::vs,h=>by simp only[ig,PV.ons,bkI]at h ⊢;exact⟨PV.a9P h.1,alS h.2⟩
theorem Gw{L:Nat->Bool}:∀{l:List (List PV)},PV.uO L l=true->mw L l=true
 |[],_=>rfl
 |v::vs,h=>by simp only[mw,PV.uO,bkI]at h ⊢;exact⟨alS h.1,Gw h.2⟩
def nc(r:Nat->Nat):List PV->List PV
 |[]=>[]
 |v::vs=>v.Oc r::nc r vs
def it(r:Nat->Nat):List (List PV)->List (List PV)
 |[]=>[]
 |v::vs=>nc r v::it r vs
theorem HG(r:Nat->Nat):∀l,nc r l=PV.lT r l
 |[]=>rfl
 |v::vs=>by rw[nc,PV.lT,PV.XK,HG r vs]
theorem BG(r:Nat->Nat):∀l,it r l=PV.qW r l
 |[]=>rfl
 |v::vs=>by rw[it,PV.qW,HG,BG r vs]
mutual
def PV.beq:PV->PV->Bool
 | .osl a b c d,y=>match y with | .osl i l p u=>bmL a i&&(bmL b l&&(bmL c p&&bmL d u))|_=>false
 | .ptr a b c d,y=>match y with | .ptr i l p u=>bmL a i&&(bmL b l&&(bmL c p&&bmL d u))|_=>false
 | .map a,y=>match y with | .map i=>bmL a i|_=>false
 | .sl s rows,y=>match y with | .sl s' rows'=>bmL s s'&&PV.l4 rows rows'|_=>false
 | .bO cs,y=>match y with | .bO e=>PV.NX cs e|_=>false
 | .fn n cs,y=>match y with | .fn w e=>bmL n w&&PV.NX cs e|_=>false
 | .agg cs,y=>match y with | .agg e=>PV.NX cs e|_=>false
 | .tup cs,y=>match y with | .tup e=>PV.NX cs e|_=>false
 | .int k n,y=>match y with | .int x w=>decide (k=x)&&decide (n=w)|_=>false
 | .bool b,y=>match y with | .bool l=>decide (b=l)|_=>false
 | .str s,y=>match y with | .str s'=>decide (s=s')|_=>false
 | .aK,y=>match y with | .aK=>true|_=>false
 | .lit _,_=>false
 | .junk,y=>match y with | .junk=>true|_=>false
def PV.NX:List PV->List PV->Bool
 |[],y=>match y with|[]=>true|_=>false
 |v::vs,y=>match y with|w::d=>PV.beq v w&&PV.NX vs d|_=>false
def PV.l4:List (List PV)->List (List PV)->Bool
 |[],y=>match y with|[]=>true|_=>false
 |v::vs,y=>match y with|w::d=>PV.NX v w&&PV.l4 vs d|_=>false
end
mutual
theorem PV.beq_eq:∀v w:PV,PV.beq v w=true->v=w
 | .osl _ _ _ _,w,h=>by cases w<;>simp_all [PV.beq]
 | .ptr _ _ _ _,w,h=>by cases w<;>simp_all [PV.beq]
 | .map _,w,h=>by cases w<;>simp_all [PV.beq]
 | .sl s rows,w,h=>by cases w<;>simp only[PV.beq,bkI,bmT]at h;rw[PV.vi _ _ h.2,Nat.eq_of_beq_eq_true h.1]
 | .bO cs,w,h=>by cases w<;>simp only[PV.beq,bmT]at h;rw[PV.CE _ _ h]
 | .fn _ cs,w,h=>by cases w<;>simp only[PV.beq,bkI,bmT]at h;rw[PV.CE _ _ h.2,Nat.eq_of_beq_eq_true h.1]
 | .agg cs,w,h=>by cases w<;>simp only[PV.beq,bmT]at h;rw[PV.CE _ _ h]
 | .tup cs,w,h=>by cases w<;>simp only[PV.beq,bmT]at h;rw[PV.CE _ _ h]
 | .int _ _,w,h=>by cases w<;>simp_all [PV.beq]
 | .bool _,w,h=>by cases w<;>simp_all [PV.beq]
 | .str _,w,h=>by cases w<;>simp_all [PV.beq]
 | .aK,w,h=>by cases w<;>simp_all [PV.beq]
 | .lit _,_,h=>by simp[PV.beq]at h
 | .junk,w,h=>by cases w<;>simp_all [PV.beq]
theorem PV.CE:∀v w:List PV,PV.NX v w=true->v=w
 |[],w,h=>by cases w<;>simp_all [PV.NX]
 |v::vs,w,h=>by cases w<;>simp only[PV.NX,bkI,bmT]at h;rw[PV.beq_eq _ _ h.1,PV.CE _ _ h.2]
theorem PV.vi:∀v w:List (List PV),PV.l4 v w=true->v=w
 |[],w,h=>by cases w<;>simp_all [PV.l4]
 |v::vs,w,h=>by cases w<;>simp only[PV.l4,bkI,bmT]at h;rw[PV.CE _ _ h.1,PV.vi _ _ h.2]
end
def posOf:List Nat->Nat->Nat
 |[],_=>0
 |x::xs,i=>if bmL x i then 0 else posOf xs i+1
def inL:List Nat->Nat->Bool
 |[],_=>false
 |x::xs,i=>bmL x i||inL xs i
def gj:List Nat->Bool
 |[]=>true
 |x::xs=>!inL xs x&&gj xs
def atN:List Nat->Nat->Nat
 |[],_=>0
 |x::_,0=>x
 |_::xs,k+1=>atN xs k
theorem CP:∀{l:List Nat}{i:Nat},inL l i=true->i∈l
 |x::xs,i,h=>by
  simp only[inL,Bool.or_eq_true]at h;rcases h with h|h
  ·rw[Nat.eq_of_beq_eq_true h];exact List.mem_cons_self ..
  ·exact List.mem_cons_of_mem _ (CP h)
theorem wR:∀{l:List Nat}{i:Nat},i∈l->inL l i=true
 |x::xs,i,h=>by
  simp only[inL,Bool.or_eq_true];rcases bkX.1 h with h|h
  ·left;rw[h];simp
  ·right;exact wR h
theorem tR:∀{l:List Nat}{i:Nat},inL l i=true->atN l (posOf l i)=i/\posOf l i<Z' l
 |x::xs,i,h=>by
  simp only[inL,Bool.or_eq_true]at h;simp only[posOf];by_cases e:bmL x i=true
  ·rw[aI e];exact⟨Nat.eq_of_beq_eq_true e,Nat.zero_lt_succ _⟩
  ·rw[aD e];have:=tR (h.resolve_left e);exact⟨this.1,Nat.succ_lt_succ this.2⟩
theorem vF:∀{l:List Nat}{k:Nat},k<Z' l->inL l (atN l k)=true
 |x::xs,0,_=>by simp[inL,atN]
 |x::xs,k+1,h=>by simp only[inL,atN,Bool.or_eq_true];exact .inr (vF (Nat.lt_of_succ_lt_succ h))
theorem EY:∀{l:List Nat}{k:Nat},gj l=true->k<Z' l->posOf l (atN l k)=k
 |x::xs,0,_,_=>by simp[posOf,atN]
 |x::xs,k+1,d,h=>by simp only[gj,bkI,Bool.not_eq_true']at d;show(if bmL x (atN xs k)=true then 0 else posOf xs (atN xs k)+1)=k+1;have i:=vF (Nat.lt_of_succ_lt_succ h);rw[aD (λe=>by rw[Nat.eq_of_beq_eq_true e,i]at d;cases d.1),EY d.2 (Nat.lt_of_succ_lt_succ h)]
theorem yM{β:Type}(g:Nat->β):∀(l:List Nat)(k:Nat),(l.map g)[k]?=if k<l.length then some (g (atN l k))else none
 |[],k=>by simp
 |x::xs,0=>by simp[atN]
 |x::xs,k+1=>by rw[blM,List.getElem?_cons_succ,yM g xs k];simp only[atN,bmB,Nat.succ_lt_succ_iff,Nat.add_lt_add_iff_right]
def bA.on(L:Nat->Bool):bA->Bool
 | .rows _ rs=>mw L rs
 |_=>true
def bA.rn(r:Nat->Nat):bA->bA
 | .rows s rs=>.rows s (it r rs)
 |x=>x
theorem bA.aSR{L:Nat->Bool}{n:Nat}{r s t:Nat->Nat}(h:∀i,L i=true->r (t i)=s i){x:bA}(hb:x.Bd n)(d:x.on L=true):(x.rn t).ren r=x.ren s:=by
 cases x with
 |rows sz rs=>simp only[bA.rn,bA.ren,<-PV.lJ,BG];rw[PV.XL h rs (AY d)]
 |_=>rfl
theorem bA.baA{L:Nat->Bool}{n:Nat}{r s t:Nat->Nat}(h:∀i,L i=true->r (t i)=s i){x:bA}(hb:x.Bd n)(d:x.on L=true):(x.ren t).ren r=x.rn s:=by
 cases x with
 |rows sz rs=>simp only[bA.rn,bA.ren,<-PV.lJ,BG];rw[PV.XL h rs (AY d)]
 |_=>rfl
theorem bA.a2Z{L:Nat->Bool}{n m:Nat}{t:Nat->Nat}(h:∀i,L i=true->t i<m){x:bA}(hb:x.Bd n)(d:x.on L=true):(x.rn t).Bd m:=by
 cases x with
 |rows sz rs =>show PV.jN m (it t rs)=true;rw[BG];exact PV.WZ h rs (AY d)
 |_=>trivial
theorem bA.Oi{t:Nat->Nat}{x y:bA}(h:(x.rn t).live=some y):x.live=some x/\y=x.rn t:=by
 cases x<;>first|(cases h;done)|(cases h;exact⟨rfl,rfl⟩)
def gtH(h:Hp)(i:Nat):bA:=match h[i]? with
 |some x=>x
 |none=>.dead
theorem wm{h:Hp}{i:Nat}{x:bA}(e:(gtH h i).live=some x):h.ph i=some x/\gtH h i=x:=by
 have e2:=bA.EU e;refine⟨?_,e2⟩;unfold gtH at e;rw[Hp.oC];split at e
 ·rename_i y d;rw[d];exact e
 ·cases e
theorem a9W{h:Hp}{i:Nat}{x:bA}(e:h.ph i=some x):gtH h i=x/\x.live=some x:=by
 have d:=nJ e;rw[Hp.oC,d.1]at e;refine⟨?_,e⟩;unfold gtH;rw[d.1]
def sJ(h:Hp)(t:Nat->Nat)(M:List Nat):Hp:=M.map λi=>(gtH h i).rn t
def HE(M:List Nat)(h:Hp):Bool:=gj M&&M.all λi=>(gtH h i).on (inL M)
theorem yo{M:List Nat}{h:Hp}(ok:HE M h=true){i:Nat}(hi:inL M i=true):(gtH h i).on (inL M)=true:=by
 simp only[HE,bkI,bkS]at ok;exact ok.2 i (CP hi)
theorem XC{h:Hp}{t:Nat->Nat}{M:List Nat}{k:Nat}{x:bA}(e:Hp.ph (sJ h t M) k=some x):k<Z' M/\(gtH h (atN M k)).live=some (gtH h (atN M k))/\x=(gtH h (atN M k)).rn t:=by
 rw[Hp.oC,sJ,yM]at e;split at e
 ·rename_i d;exact⟨d,bA.Oi e⟩
 ·cases e
section
variable {r:Nat->Nat} {f:Fr} {h:Hp} {F:PF} {H:PH}
theorem ER(R:Rl r f h F H)(i:Nat):(gtH h i).Bd h.length:=by
 unfold gtH;split
 ·rename_i x e;exact R.hb x (bmK e)
 ·trivial
theorem Rl.cut(R:Rl r f h F H){M:List Nat}(ok:HE M h=true):Rl (λk=>r (atN M k)) .nil (sJ h (posOf M) M) n_ H:=by
 have d:(sJ h (posOf M) M).length=Z' M:=by simp[sJ]
 refine⟨rfl,λk x p=>?_,λk l x y p K e=>?_,λi v J=>by simp[Fr.pf]at J,λx p=>?_⟩
 ·obtain⟨A,u,rfl⟩:=XC p;have w:=wm u;rw[bA.aSR (L:=inL M) (λi hi=>by rw[(tR hi).1]) (ER R _) (yo ok (vF A))];exact R.hp _ _ w.1
 ·obtain⟨A,u,-⟩:=XC p;obtain⟨E,w,-⟩:=XC K;have B:=R.inj _ _ _ _ (wm u).1 (wm w).1 e;simp only[HE,bkI]at ok;rw[<-EY ok.1 A,B,EY ok.1 E]
 ·rw[d];obtain⟨i,hi,rfl⟩:=blF.1 p;exact bA.a2Z (L:=inL M) (λi hi=>(tR hi).2) (ER R _) (yo ok (wR hi))
theorem yQ(H:PH)(D:List Nat)(o:Nat):(H.only D) o=if o∈D then H o else none:=rfl
theorem Rl.only(R:Rl r f h F H){D:List Nat}(e:∀i x,h.ph i=some x->r i∈D):Rl r f h F (H.only D):=by
 refine⟨R.fr,λi x d=>?_,R.inj,R.fb,R.hb⟩;rw[yQ,aI (e i x d)];exact R.hp i x d
end
def reach(h:Hp):Nat->List Nat->List Nat->List Nat
 |0,_,seen=>seen
 |_+1,[],seen=>seen
 |n+1,i::d,seen=>if inL seen i then reach h n d seen else match gtH h i with
  | .rows _ rs=>reach h n (agY rs d) (i::seen)
  |_=>reach h n d seen
def BQ:Nat->List Nat->List Nat
 |0,l=>l
 |n+1,l=>BQ n (n::l)
theorem aFF:∀(n:Nat)(l:List Nat)(k:Nat),atN (BQ n l) k=if k<n then k else atN l (k-n)
 |0,l,k=>by simp[BQ]
 |n+1,l,k=>by
  rw[BQ,aFF n (n::l) k];rcases Nat.lt_trichotomy k n with h|h|h
  ·rw[aI h,aI Om]
  ·subst h;rw[aD (Nat.lt_irrefl _),aI Om,bnF];rfl
  ·rw[aD Om,aD Om];obtain⟨d,e⟩:∃d,k-n=d+1:=⟨k-n-1,by omega⟩;rw[e,show k-(n+1)=d by omega];rfl
theorem aqU:∀(n:Nat)(l:List Nat),(BQ n l).length=n+Z' l
 |0,l=>by simp[BQ]
 |n+1,l=>by rw[BQ,aqU n];simp;omega
def Gv:Hp->List Nat->List Nat
 |[],l=>l
 |x::xs,l=>match x with
  | .rows _ rs=>agY rs (Gv xs l)
  |_=>Gv xs l
def trim(n:Nat)(v:PV)(h:Hp):Option (PV × Hp):=
 if bmL n h.length then some (v,h)else
 let M:=BQ n ((reach h 1000 (PV.aYA v (Gv (h.take n) [])) []).filter λi=>Nat.ble n i)
 if HE M h&&v.onC (inL M)then some (v.Oc (posOf M),sJ h (posOf M) M)else none
noncomputable def nr(call:gV):gV:=λname vs h=>match call name vs h with
 |some (v,d)=>trim h.length v d
 |none=>none
theorem aNH{r:Nat->Nat}{n:Nat}{v v':PV}{h p:Hp}{w:PV}{H:PH}(e:trim n v h=some (v',p))(u:Comes r n v h w H):Comes r n v' p w H:=by
 unfold trim at e;split at e
 ·cases e;exact u
 ·simp only at e;generalize(reach h 1000 (PV.aYA v (Gv (h.take n) [])) []).filter (λi=>Nat.ble n i)=N at e;split at e
  ·rename_i d;simp only[bkI]at d;replace d:=And.intro d.1 (PV.alR d.2);rw[PV.XK]at e;cases e;obtain⟨r',x,R,rfl,hb,y⟩:=u;have l:(sJ h (posOf (BQ n N)) (BQ n N)).length=(BQ n N).length:=by simp[sJ]
   refine⟨λk=>r' (atN (BQ n N) k),λi hi=>?_,R.cut d.1,(PV.amW (L:=inL (BQ n N)) (λi hi=>by rw[(tR hi).1]) _ d.2).symm,?_,?_⟩
   ·show r i=r' (atN (BQ n N) i);rw[aFF,aI hi];exact x i hi
   ·rw[l];exact PV.yq (λi hi=>(tR hi).2) _ d.2
   ·rw[l,aqU];omega
  ·cases e
variable{C:Ctx}
theorem aH.Zf{name:Nat}{vs:List PV}{H:PH}{R e:PV->PH->Prop}(h:aH C name vs H R)(A:∀i H',R i H'->e i H'):aH C name vs H e:=by
 refine⟨h.1,λE w B x hW d=>(h.2 E w B x hW d).mono λJ K y=>?_⟩;obtain⟨u,pv,l,H',g1,g2,g3,g4,p⟩:=y;exact⟨u,pv,l,H',g1,g2,g3,g4,A _ _ p⟩
theorem a0S{call:gV}(i:rF C call):rF C (nr call):=by
 intro name vs h v p e r H R X hb;unfold nr at e;split at e
 ·rename_i w g d;exact(i name vs h w g d r H R X hb).Zf λu H' l=>aNH e l
 ·cases e
def bA.xZ:bA->Bool
 | .rows _ _=>true
 |_=>false
theorem VJ{x:bA}(h:x.xZ=true):x.live=some x:=by
 cases x<;>first|rfl|cases h
def okM(M:List Nat)(h:Hp):Bool:=HE M h&&M.all λi=>(gtH h i).xZ
def bk(M:List Nat)(n:Nat)(j:Nat):Nat:=if Nat.blt j M.length then atN M j else n+(j-Z' M)
def FL(M:List Nat)(h2:Hp)(t:Nat->Nat):Nat->Hp->Hp
 |_,[]=>[]
 |i,x::xs=>(if inL M i then(gtH h2 (posOf M i)).rn t else x)::FL M h2 t (i+1) xs
def uC(M:List Nat)(h h2:Hp):Hp:=(match M with|[]=>h|_=>FL M h2 (bk M h.length) 0 h)++(h2.drop M.length).map (bA.rn (bk M h.length))
theorem azV(M:List Nat)(h2:Hp)(t:Nat->Nat):∀(h:Hp)(i k:Nat),(FL M h2 t i h)[k]?=(h[k]?).map λx=>if inL M (i+k)then(gtH h2 (posOf M (i+k))).rn t else x
 |[],i,k=>by simp[FL]
 |x::xs,i,0=>by simp[FL]
 |x::xs,i,k+1=>by simp only[FL,List.getElem?_cons_succ];rw[azV M h2 t xs (i+1) k,show i+1+k=i+(k+1) by omega]
theorem ahG(h2:Hp)(t:Nat->Nat):∀(h:Hp)(i:Nat),FL [] h2 t i h=h
 |[],i=>rfl
 |x::xs,i=>by simp[FL,inL,ahG h2 t xs]
theorem KG(M:List Nat)(h2:Hp)(t:Nat->Nat):∀(h:Hp)(i:Nat),(FL M h2 t i h).length=Z' h
 |[],i=>rfl
 |x::xs,i=>by simp[FL,KG M h2 t xs]
theorem aiD(M:List Nat)(h h2:Hp):uC M h h2=FL M h2 (bk M h.length) 0 h++(h2.drop M.length).map (bA.rn (bk M h.length)):=by
 unfold uC;split
 ·rw[ahG]
 ·rfl
theorem MW(M:List Nat)(h h2:Hp):(uC M h h2).length=Z' h+(Z' h2-Z' M):=by
 rw[aiD];simp[KG]
theorem a4S(t:Nat->Nat)(l:Hp)(k:Nat):gtH (l.map (bA.rn t)) k=(gtH l k).rn t:=by
 unfold gtH;rw[blC];cases l[k]?<;>rfl
theorem aXS(l:Hp)(m k:Nat):gtH (l.drop m) k=gtH l (m+k):=by
 unfold gtH;rw[boL]
theorem xi(M:List Nat)(h h2:Hp)(k:Nat):gtH (uC M h h2) k=if k<h.length then(if inL M k then(gtH h2 (posOf M k)).rn (bk M h.length)else gtH h k)else(gtH h2 (Z' M+(k-Z' h))).rn (bk M h.length):=by
 rw[aiD];by_cases d:k<Z' h
 ·rw[aI d];unfold gtH;rw[bmU (by rw[KG];exact d),azV,blG];rw[bkT d,blJ];by_cases e:inL M k=true
  ·simp only[aI e];rfl
  ·simp only[aD e]
 ·rw[aD d];have:gtH (FL M h2 (bk M h.length) 0 h++(h2.drop M.length).map (bA.rn (bk M h.length))) k=gtH ((h2.drop M.length).map (bA.rn (bk M h.length))) (k-Z' h):=by unfold gtH;rw[bmY (by rw[KG];omega),KG]
  rw[this,a4S,aXS]
theorem bA.a2M{n:Nat}{x:bA}(h:x.Bd n):x.on (λi=>decide (i<n))=true:=by
 cases x with
 |rows s rs=>exact Gw ((PV.SX rs).trans h)
 |map=>rfl
 |loop=>rfl
 |dead=>rfl
theorem uV(h:Hp)(k:Nat):h.ph k=(gtH h k).live:=by
 unfold gtH;rw[Hp.oC];cases h[k]?<;>rfl
theorem a5L{h:Hp}{x:bA}(i:x∈h):∃k,k<Z' h/\gtH h k=x:=by
 obtain⟨k,d,e⟩:=blZ i;exact⟨k,d,by unfold gtH;rw[bkT d,<-e]⟩
section
variable {r:Nat->Nat} {f:Fr} {h h2:Hp} {F:PF} {H H':PH} {v rv:PV} {M:List Nat}
theorem vP(ok:okM M h=true){i:Nat}(hi:inL M i=true):h.ph i=some (gtH h i):=by
 simp only[okM,bkI,bkS]at ok;rw[uV];exact VJ (ok.2 i (CP hi))
theorem aRV(ok:okM M h=true){i:Nat}(hi:inL M i=true):i<Z' h:=(nJ (vP ok hi)).2
theorem aiC(R:Rl r f h F H)(ok:okM M h=true)(hc:Comes (λk=>r (atN M k)) M.length v h2 rv H')(ap:qQ H (H.only (M.map r)) H') :
  ∃r',jD h.length r r'/\Z' h<=(uC M h h2).length/\Rl r' f (uC M h h2) F (H.over (H.only (M.map r)) H')/\rv=(v.ren (bk M h.length)).ren r'/\(v.ren (bk M h.length)).bound (uC M h h2).length=true:=by
 obtain⟨r2,α,E,rfl,Q,γ⟩:=hc;have O:jD h.length r (λi=>if i<h.length then r i else r2 (Z' M+(i-Z' h))):=λi hi=>by
  show r i=if i<h.length then r i else _
  rw[aI hi]
 generalize β:(λi=>if i<h.length then r i else r2 (Z' M+(i-Z' h)))=r' at O;have U:∀i,Z' h<=i->r' i=r2 (Z' M+(i-Z' h)):=λi hi=>by rw[<-β];exact aD Om
 have N:∀j,r' (bk M h.length j)=r2 j:=λj=>by
  unfold bk;by_cases V:j<Z' M
  ·rw[aI (by simpa[Nat.blt_eq]using V),<-O _ (aRV ok (vF V)),<-α j V]
  ·rw[aD (by simpa[Nat.blt_eq]using V),U _ Om];congr 1;omega
 have S:∀j,j<Z' h2->bk M h.length j<Z' h+(Z' h2-Z' M):=λj V=>by
  unfold bk;by_cases K:j<Z' M
  ·rw[aI (by simpa[Nat.blt_eq]using K)];have:=aRV ok (vF K);omega
  ·rw[aD (by simpa[Nat.blt_eq]using K)];omega
 have Y:∀j,((gtH h2 j).rn (bk M h.length)).ren r'=(gtH h2 j).ren r2:=λj=>
  bA.aSR (L:=λi=>decide (i<Z' h2)) (λi _=>N i) (ER E j) (bA.a2M (ER E j))
 have J:∀j,((gtH h2 j).rn (bk M h.length)).Bd (Z' h+(Z' h2-Z' M)):=λj=>
  bA.a2Z (L:=λi=>decide (i<Z' h2)) (λi hi=>S i (by simpa using hi)) (ER E j) (bA.a2M (ER E j))
 have p:∀k x,Hp.ph (uC M h h2) k=some x->(h.ph k=some x/\r' k=r k/\H' (r k)=none/\(H.only (M.map r)) (r k)=none) \/
   ∃j,h2.ph j=some (gtH h2 j)/\x=(gtH h2 j).rn (bk M h.length)/\r' k=r2 j/\k=bk M h.length j:=by
  intro k x d;rw[uV,xi]at d;by_cases hk:k<Z' h
  ·rw[aI hk]at d;by_cases hm:inL M k=true
   ·rw[aI hm]at d;obtain⟨u,rfl⟩:=bA.Oi d;have hp:=tR hm;have W:k=bk M h.length (posOf M k):=by unfold bk;rw[aI (by simpa[Nat.blt_eq]using hp.2),hp.1]
    refine .inr ⟨posOf M k,by rw[uV];exact u,rfl,?_,W⟩;exact(congrArg r' W).trans (N (posOf M k))
   ·rw[aD hm,<-uV]at d;have X:r k ∉ M.map r:=λhc=>by obtain⟨i,hi,e⟩:=blF.1 hc;have:=R.inj i k _ _ (vP ok (wR hi)) d e;subst this;exact hm (wR hi)
    have ho:(H.only (M.map r)) (r k)=none:=by rw[yQ,aD X]
    refine .inl ⟨d,(O k hk).symm,?_,ho⟩;cases e:H' (r k)with
    |none=>rfl
    |some y =>have:=ap _ y e ho;rw[R.hp k x d]at this;cases this
  ·rw[aD hk]at d;obtain⟨u,rfl⟩:=bA.Oi d;refine .inr ⟨Z' M+(k-Z' h),by rw[uV];exact u,rfl,U k Om,?_⟩;unfold bk;rw[aD (by simp[Nat.blt_eq])];omega
 refine⟨r',O,by rw[MW];omega,⟨?_,λk x d=>?_,λk l x y d hy e=>?_,λi w hw=>?_,λx d=>?_⟩,(PV.amW (L:=λi=>decide (i<Z' h2)) (λi _=>N i) v ((PV.SW v).trans Q)).symm,?_⟩
 ·rw[R.fr];exact PF.pW O R.fb
 ·rcases p k x d with⟨u,A,B,Z⟩|⟨j,u,rfl,B,-⟩
  ·rw[A];have:=R.hp k x u;rw[bA.pW O (R.hb x (bmK (nJ u).1))]at this;simp only[PH.over,B,Z,this]
  ·rw[B,Y j];simp only[PH.over,E.hp j _ u]
 ·rcases p k x d with⟨u,A,B,Z⟩|⟨j,u,rfl,B,Z⟩<;>rcases p l y hy with⟨g1,g2,g3,g4⟩|⟨j',g1,rfl,g3,g4⟩
  ·rw[A,g2]at e;exact R.inj k l _ _ u g1 e
  ·rw[A,g3]at e;rw[e,E.hp j' _ g1]at B;cases B
  ·rw[B,g2]at e;rw[<-e,E.hp j _ u]at g3;cases g3
  ·rw[B,g3]at e;rw[Z,g4,E.inj j j' _ _ u g1 e]
 ·rw[MW];exact PV.wG (Nat.le_add_right _ _) w (R.fb i w hw)
 ·rw[MW];obtain⟨k,hk,rfl⟩:=a5L d;rw[xi];split
  ·split
   ·exact J _
   ·exact(ER R k).mono (Nat.le_add_right _ _)
  ·exact J _
 ·rw[MW];exact PV.yq (λi hi=>S i (by simpa using hi)) v ((PV.SW v).trans Q)
theorem Ef {C : Ctx} {call : gV} (hC : rF C call) {name : Nat} {vs : List PV} (R : Rl r f h F H) (ok : okM M h = true) (hv : PV.ons (inL M) vs = true)
    (e : call name (PV.lT (posOf M) vs) (sJ h (posOf M) M) = some (v, h2)) : aH C name (vs.map (PV.ren r)) (H.only (M.map r)) (Comes (fun k => r (atN M k)) M.length v h2) := by
  have oks : HE M h = true := by simp only [okM, bkI] at ok; exact ok.1
  have hlen : (sJ h (posOf M) M).length = M.length := by simp [sJ]
  have h1 := hC name _ _ v h2 e (fun k => r (atN M k)) (H.only (M.map r))
    ((R.cut oks).only fun k x hx => List.mem_map_of_mem (CP (vF (XC hx).1))) (fun o x hx => by
      rw [yQ] at hx;split at hx
      · rename_i hm
        obtain ⟨i, hi, rfl⟩ := blF.1 hm;have hp := tR (wR hi);have hl := vP ok (wR hi);rw [uV] at hl;refine ⟨posOf M i, (gtH h i).rn (posOf M), ?_, by show r (atN M (posOf M i)) = r i; rw [hp.1]⟩;rw [Hp.oC, sJ, yM, aI hp.2, hp.1];show bA.live _ = _;generalize gtH h i = y at hl ⊢;cases y <;> first | rfl | cases hl
      · cases hx) (by rw [hlen]; exact PV.vQ (fun i hi => (tR hi).2) vs hv)
  rw [hlen] at h1;rw [<- PV.fK, PV.zM (L := inL M) (s := r) (fun i hi => by show r (atN M (posOf M i)) = r i; rw [(tR hi).1]) vs hv] at h1;rw [<- PV.fK];exact h1
end
noncomputable def a2N(call:gV)(M:List Nat)(name:Nat)(vs:List PV)(h:Hp):Option (PV × Hp):=
 if okM M h&&ig (inL M) vs then match call name (nc (posOf M) vs) (sJ h (posOf M) M)with
  |some (v,h2)=>some (v.Oc (bk M h.length),uC M h h2)
  |none=>none
 else none
noncomputable def hand(call:gV):gV:=λname vs h=>a2N call (reach h 1000 (wM vs []) []) name vs h
theorem a5B{call:gV}(A:rF C call):Aq C (hand call):=by
 intro name vs h v O e r f F H d K R hb E;unfold hand a2N at e;generalize reach h 1000 (wM vs []) []=M at e;split at e
 ·rename_i i;simp only[bkI]at i;rw[HG]at e;split at e
  ·rename_i w h2 e2;rw[PV.XK]at e;cases e;refine⟨_,H.only (M.map r),_,rfl,λo x l=>?_,Ef A R i.1 (WW i.2) e2,λrv H' N y=>?_⟩
   ·rw[yQ]at l;split at l
    ·exact l
    ·cases l
   ·obtain⟨r',B,J,u,rfl,p⟩:=aiC R i.1 N y;exact E r' _ B J u p
  ·cases e
 ·cases e
theorem xK{n:Nat}:∀{l:List (List PV)},PV.jN n l=true↔∀x∈l,PV.bounds n x=true
 |[]=>by simp[PV.jN]
 |x::xs=>by simp[PV.jN,xK (l:=xs)]
theorem tL{n:Nat}:∀{l:List PV},PV.bounds n l=true↔∀x∈l,x.bound n=true
 |[]=>by simp[PV.bounds]
 |x::xs=>by simp[PV.bounds,tL (l:=xs)]
theorem mz{L:Nat->Bool}:∀{l:List PV},PV.ons L l=true↔∀x∈l,x.on L=true
 |[]=>by simp[PV.ons]
 |x::xs=>by simp[PV.ons,mz (l:=xs)]
theorem alT{L:Nat->Bool}:∀{l:List (List PV)},PV.uO L l=true↔∀x∈l,PV.ons L x=true
 |[]=>by simp[PV.uO]
 |x::xs=>by simp[PV.uO,alT (l:=xs)]
section
variable {L:Nat->Bool} {r:Nat->Nat} {o s n:Nat} {rs:List (List PV)}
theorem UL(hi:∀q,L q=true->r q=r o->q=o)(v:PV)(i:v.on L=true):(v.eF o s rs).ren r=(v.ren r).eF (r o) s (rs.map λx=>x.map (PV.ren r)):=by
 cases v with
 |osl q s' d len=>
  simp only[PV.on]at i;simp only[PV.eF,PV.ren];by_cases e:q=o
  ·subst e;rw[aI rfl,aI rfl];simp only[bkG];by_cases c:s'=s/\d+len<=Z' rs
   ·rw[aI c,aI c];simp only[PV.ren,PV.lJ,bnO,List.map_drop]
   ·rw[aD c,aD c];rfl
  ·rw[aD e,aD (λh=>e (hi q i h))];rfl
 |_=>rfl
theorem adQ(hi:∀q,L q=true->r q=r o->q=o)(v:PV)(d:v.on L=true):(v.tO o s rs).ren r=(v.ren r).tO (r o) s (rs.map λx=>x.map (PV.ren r)):=by
 cases v with
 |agg cs =>simp only[PV.on]at d;simp only[PV.tO,PV.ren,PV.fK,bnN];congr 1;exact bnH λx e=>UL hi x (mz.1 d x e)
 |osl q s' i len=>exact UL hi _ d
 |_=>rfl
theorem a4I(hi:∀q,L q=true->r q=r o->q=o)(v:PV)(d:v.on L=true):(v.frz o s rs).ren r=(v.ren r).frz (r o) s (rs.map λx=>x.map (PV.ren r)):=by
 cases v with
 |tup cs =>simp only[PV.on]at d;simp only[PV.frz,PV.ren,PV.fK,bnN];congr 1;exact bnH λx e=>adQ hi x (mz.1 d x e)
 |agg cs=>exact adQ hi _ d
 |osl q s' i len=>exact UL hi _ d
 |_=>rfl
theorem GR(e:PV.jN n rs=true)(v:PV)(d:v.bound n=true):(v.eF o s rs).bound n=true:=by
 cases v with
 |osl q s' l len=>
  simp only[PV.eF];split
  ·split
   ·simp only[PV.bound];exact xK.2 λx i=>xK.1 e x (List.mem_of_mem_drop (boC i))
   ·rfl
  ·exact d
 |_=>exact d
theorem D7(e:PV.jN n rs=true)(v:PV)(d:v.bound n=true):(v.tO o s rs).bound n=true:=by
 cases v with
 |agg cs =>simp only[PV.bound]at d;simp only[PV.tO,PV.bound];refine tL.2 λx i=>?_;obtain⟨y,l,rfl⟩:=blF.1 i;exact GR e y (tL.1 d y l)
 |osl q s' p len=>exact GR e _ d
 |_=>exact d
theorem aQE(e:PV.jN n rs=true)(v:PV)(d:v.bound n=true):(v.frz o s rs).bound n=true:=by
 cases v with
 |tup cs =>simp only[PV.bound]at d;simp only[PV.frz,PV.bound];refine tL.2 λx i=>?_;obtain⟨y,l,rfl⟩:=blF.1 i;exact D7 e y (tL.1 d y l)
 |agg cs=>exact D7 e _ d
 |osl q s' p len=>exact GR e _ d
 |_=>exact d
theorem aLX(hi:∀q,L q=true->r q=r o->q=o)(x:bA)(e:x.on L=true):(x.frz o s rs).ren r=(x.ren r).frz (r o) s (rs.map λx=>x.map (PV.ren r)):=by
 cases x with
 |rows s' rs' =>simp only[bA.on]at e;simp only[bA.frz,bA.ren,bnN];congr 1;refine bnH λrow i=>?_;simp only[Function.comp,bnN];exact bnH λx d=>UL hi x (mz.1 (alT.1 (AY e) row i) x d)
 |_=>rfl
theorem aRS(w:PV.jN n rs=true)(x:bA)(i:x.Bd n):(x.frz o s rs).Bd n:=by
 cases x with
 |rows s' rs' =>refine xK.2 λrow d=>?_;obtain⟨e,p,rfl⟩:=blF.1 d;refine tL.2 λy A=>?_;obtain⟨l,u,rfl⟩:=blF.1 A;exact GR w l (tL.1 (xK.1 i e p) l u)
 |_=>exact i
end
def RZ(L:Nat->Bool)(o s:Nat)(rs:List (List PV))(x:bA):bA:=if x.on L then x.frz o s rs else .dead
def sU(p:PV × Hp)(o:Nat):PV × Hp:=match gtH p.2 o with
 | .rows s rs=>if PV.jN 0 rs&&p.1.onC (λi=>(gtH p.2 i).xZ)then(p.1.frz o s rs,(p.2.map (RZ (λi=>(gtH p.2 i).xZ) o s rs)).set o .dead)else p
 |_=>p
mutual
def PV.aKU:PV->List Nat->List Nat
 | .osl o _ _ _,l=>o::l
 | .ptr _ _ _ _,l=>l
 | .map _,l=>l
 | .sl _ _,l=>l
 | .bO _,l=>l
 | .fn _ _,l=>l
 | .agg cs,l=>PV.Zb cs l
 | .tup cs,l=>PV.Zb cs l
 | .int _ _,l=>l
 | .bool _,l=>l
 | .str _,l=>l
 | .aK,l=>l
 | .lit _,l=>l
 | .junk,l=>l
def PV.Zb:List PV->List Nat->List Nat
 |[],l=>l
 |v::vs,l=>PV.aKU v (PV.Zb vs l)
end
def azW:List (List PV)->List Nat->List Nat
 |[],l=>l
 |r::rs,l=>PV.Zb r (azW rs l)
def D9(h:Hp)(n:Nat):Nat->List Nat->List Nat
 |0,l=>l
 |d+1,l=>match(l.filter λi=>Nat.ble n i).foldr (λi e=>match gtH h i with | .rows _ rs=>azW rs e|_=>e) []with
  |[]=>l
  |l'=>D9 h n d l'++l
def aQC(n:Nat)(v:PV)(h:Hp):PV × Hp:=((D9 h n 6 (PV.aKU v [])).filter λi=>Nat.ble n i).foldl sU (v,h)
section
variable {r:Nat->Nat} {H:PH}
theorem aXT(g:bA->bA)(d:g .dead=.dead)(l:Hp)(k:Nat):gtH (l.map g) k=g (gtH l k):=by
 unfold gtH;rw[blC];cases l[k]? with
 |none=>exact d.symm
 |some x=>rfl
theorem aQS{x:bA}{L:Nat->Bool}{o s:Nat}{rs:List (List PV)}{y:bA}(h:(RZ L o s rs x).live=some y):x.on L=true/\x.live=some x/\y=x.frz o s rs:=by
 unfold RZ at h;split at h
 ·rename_i d;refine⟨d,?_,(bA.EU h).symm⟩;cases x<;>first|rfl|cases h
 ·cases h
theorem aQD{p:PV × Hp}(o:Nat)(R:Rl r .nil p.2 n_ H)(hb:p.1.bound p.2.length=true) :
  ∃K M,(∀F H2,kM K M F H2->kM (n_.set 0 (p.1.ren r)) H F H2)/\K=n_.set 0 ((sU p o).1.ren r)/\Rl r .nil (sU p o).2 n_ M/\(sU p o).1.bound (sU p o).2.length=true/\(sU p o).2.length=p.2.length:=by
 obtain⟨v,h⟩:=p;simp only at R hb;have l:∃K M,(∀F H2,kM K M F H2->kM (n_.set 0 (v.ren r)) H F H2)/\K=n_.set 0 (v.ren r)/\Rl r .nil h n_ M/\v.bound h.length=true/\Z' h=Z' h:=⟨_,H,λ_ _ h=>h,rfl,R,hb,rfl⟩;unfold sU;simp only;split
 ·rename_i s rs V;split
  ·rename_i J;simp only[bkI]at J;replace J:=And.intro J.1 (PV.alR J.2);have A:h.ph o=some (.rows s rs):=by rw[uV,V];rfl
   have O:=(nJ A).2;have hi:∀q,(gtH h q).xZ=true->r q=r o->q=o:=λq W e=>by
    have h1:h.ph q=some (gtH h q):=by rw[uV];exact VJ W
    exact R.inj _ _ _ _ h1 A e
   have N:PV.jN h.length rs=true:=PV.AE (bkL _) _ J.1;have B:((h.map (RZ (λi=>(gtH h i).xZ) o s rs)).set o .dead).length=Z' h:=by simp
   have d:∀i x,Hp.ph ((h.map (RZ (λi=>(gtH h i).xZ) o s rs)).set o .dead) i=some x->i≠o/\h.ph i=some (gtH h i)/\(gtH h i).on (λi=>(gtH h i).xZ)=true/\x=(gtH h i).frz o s rs:=λi x u=>by
    rw[Hp.SH (by simpa using O)]at u;split at u
    ·cases u
    ·rename_i E;rw[uV,aXT _ (by rfl)]at u;obtain⟨h1,Q,U⟩:=aQS u;exact⟨E,by rw[uV];exact Q,h1,U⟩
   refine⟨_,H.frz (r o) s (rs.map λx=>x.map (PV.ren r)),λF H2 X=>.step (r o) (R.hp o _ A) X,?_,⟨rfl,λi x u=>?_,λi j x y u S e=>?_,λi w Y=>by simp[Fr.pf]at Y,λx u=>?_⟩,?_,B⟩
   ·funext i;simp only[PF.frz,PF.set,upd];split
    ·rw[blJ,a4I (L:=λi=>(gtH h i).xZ) hi v J.2]
    ·rfl
   ·obtain⟨E,h1,Q,rfl⟩:=d i x u;show(if r i=r o then none else(H (r i)).map (bA.frz (r o) s _))=_;rw[aD (λe=>E (R.inj _ _ _ _ h1 A e)),R.hp i _ h1,blJ,aLX (L:=λi=>(gtH h i).xZ) hi _ Q]
   ·exact R.inj _ _ _ _ (d i x u).2.1 (d j y S).2.1 e
   ·rw[B];rcases boN u with h1|h1
    ·obtain⟨y,S,rfl⟩:=blF.1 h1;unfold RZ;split
     ·exact aRS N y (R.hb y S)
     ·trivial
    ·subst h1;trivial
   ·rw[B];exact aQE N v hb
  ·exact l
 ·exact l
theorem D8:∀(l:List Nat){p:PV × Hp}{H:PH},Rl r .nil p.2 n_ H->p.1.bound p.2.length=true ->
  ∃d,kM (n_.set 0 (p.1.ren r)) H (n_.set 0 ((l.foldl sU p).1.ren r)) d/\Rl r .nil (l.foldl sU p).2 n_ d/\(l.foldl sU p).1.bound (l.foldl sU p).2.length=true/\(l.foldl sU p).2.length=p.2.length
 |[],p,H,R,hb=>⟨H,.refl _ _,R,hb,rfl⟩
 |o::l,p,H,R,hb=>by obtain⟨E,d,B,rfl,u,e,i⟩:=aQD o R hb;obtain⟨H2,w,x,y,A⟩:=D8 l u e;exact⟨H2,B _ _ w,x,y,A.trans i⟩
end
end Go.PM
namespace Go.PM
open Go
def Az(C:Ctx)(k:Nat)(pf:bB):Prop:=∀(args:List PV)(H:PH)(R:PV->PH->Prop),Z' args<=pf.ntmps->pf.body.wp C (aX pf.res R) (g_ args) H->aH C k args H R
theorem Fr.aoV{l:List PV}{f:Fr}(h:Fr.args l 0 (Fr.empty 9)=some f):f.pf=g_ l:=by
 rw[Fr.avP h];funext i;simp only[Nat.not_lt_zero,if_false,Nat.sub_zero,Fr.acZ,g_];cases l[i]?<;>rfl
theorem aVL(r:Nat->Nat)(l:List PV):g_ (l.map (PV.ren r))=(g_ l).ren r:=by
 funext i;simp only[g_,PF.ren,blC]
abbrev Orc:=Nat->List PV->Option PV
def Y3(C:Ctx)(d:Orc):Prop:=∀name vs v,d name vs=some v->aH C name vs h_ (λe _=>e=v)
noncomputable def PU(tab:Nat->Option bB)(d:Orc)(fz:Nat->Bool)(i:gV->RJ)(m:Nat):Nat->gV
 |0=>λ_ _ _=>none
 |n+1=>λname args h=>match d name args with
  |some v=>if v.bound 0&&h.isEmpty then some (v,h)else none
  |none=>match tab name with
  |some pf=>if args.length<=pf.ntmps then match Fr.args args 0 (Fr.empty 9)with
    |none=>none
    |some f=>match tA (hand (nr (PU tab d fz i m n))) (i (nr (PU tab d fz i m n))) m pf.body f h with
    |some (.exit _,_,_)=>none
    |some (_,l,e)=>match eC.evs l.pf e.ph pf.res with
     |some vs=>if(bN vs).EK e.length then some (if fz name then aQC h.length (bN vs) e else(bN vs,e))else none
     |none=>none
    |none=>none
   else none
  |none=>none
section
variable {C:Ctx} {r:Nat->Nat} {f:Fr} {h:Hp} {F:PF} {H:PH}
theorem aZS{h:PH}(u:bz r h H){F:PF}{q:eC}{v:PV}(e:q.ev F h=some v):q.ev (F.ren r) H=some (v.ren r):=by
 cases q with
 |tmp t=>simp only[eC.ev]at e ⊢;simp only[PF.ren,e,blJ]
 |cell t n=>
  cases n with
  |none=>
   simp only[eC.ev]at e ⊢;split at e
   ·rename_i p i;simp only[PF.ren,i,blJ];split at e
    ·rename_i w d;have l:=yA u d;simp only[blM,bmE]at l;simp only[l];cases e;rfl
    ·cases e
   ·cases e
  |some k=>
   simp only[eC.ev]at e ⊢;split at e
   ·rename_i p i;simp only[PF.ren,i,blJ];cases d:loadCells h p k with
    |none=>rw[d]at e;cases e
    |some w =>rw[d]at e;rw[yA u d];cases e;simp only[blJ,PV.ren,PV.fK]
   ·cases e
theorem T6{h:PH}(d:bz r h H){F:PF}:∀{l:List eC}{vs:List PV},eC.evs F h l=some vs->eC.evs (F.ren r) H l=some (vs.map (PV.ren r))
 |[],_,e=>by cases e;rfl
 |q::l,vs,e=>by
  simp only[eC.evs]at e ⊢;split at e
  ·rename_i v u i p;cases e;rw[aZS d i,T6 d p];rfl
  ·cases e
theorem auJ(vs:List PV):bN (vs.map (PV.ren r))=(bN vs).ren r:=by
 unfold bN
 match vs with
 |[]=>rfl
 |[v]=>rfl
 |a::b::l=>simp only[blM,PV.ren,PV.fK]
theorem aDP{tab:Nat->Option bB}{E:Orc}{fz:Nat->Bool}{N:gV->RJ}(hO:Y3 C E)(hT:∀k pf,tab k=some pf->Az C k pf)(hD:∀call,rF C call->Zw C (N call))(m:Nat):∀n,rF C (PU tab E fz N m n)
 |0=>λname vs h v Q e=>by cases e
 |n+1=>λname vs h v Q e r H R X hb=>by
  have ih:=a0S (aDP (fz:=fz) hO hT hD m n);simp only[PU]at e;split at e
  ·rename_i w W;split at e
   ·rename_i S;simp only[bkI,List.isEmpty_iff]at S;obtain⟨S,rfl⟩:=S;cases e;have hH:H=h_:=PH.ext λo=>by
     cases O:H o with
     |none=>rfl
     |some x =>obtain⟨i,y,d,-⟩:=X o x O;simp[Hp.oC]at d
    rw[hH,PV.pX hb];exact(hO name vs v W).Zf λrv H' hr=>by subst hr;exact⟨r,λ_ _=>rfl,⟨rfl,λi x B=>by simp[Hp.oC]at B,λi j x y B=>by simp[Hp.oC]at B,λi w Y=>by simp[Fr.pf]at Y,λx B=>by cases B⟩,(PV.BH S r).symm,S,bkN _⟩
   ·cases e
  split at e
  ·rename_i pf ht;split at e
   ·rename_i hl;split at e
    ·cases e
    rename_i f0 U;have V:∀(x:nY)(J:Fr)(d:Hp),(∀id,x≠.exit id)->tA (hand (nr (PU tab E fz N m n))) (N (nr (PU tab E fz N m n))) m pf.body f0 h=some (x,J,d) ->
      (match eC.evs J.pf d.ph pf.res with|some vs=>if(bN vs).EK d.length then some (if fz name then aQC h.length (bN vs) d else(bN vs,d))else none|none=>none)=some (v,Q)->aH C name (vs.map (PV.ren r)) H (Comes r h.length v Q):=by
     intro x J d B O e2;refine hT name pf ht _ _ _ (by rw[bkG];exact hl) ?_;have R0:Rl r f0 h (g_ (vs.map (PV.ren r))) H:=⟨by rw[Fr.aoV U,aVL],R.hp,R.inj,λi w Y=>by
      rw[Fr.aoV U]at Y;simp only[g_]at Y;have:∀(l:List PV)(i:Nat),PV.bounds h.length l=true->l[i]?=some w->w.bound h.length=true:=by
       intro l
       induction l with
       |nil=>intro i _ hi;simp at hi
       |cons a l α=>
        intro i hb hi;simp only[PV.bounds,bkI]at hb;cases i with
        |zero=>simp at hi;subst hi;exact hb.1
        |succ i=>exact α i hb.2 (by simpa using hi)
      exact this vs i hb Y,R.hb⟩
     refine aMV (a5B ih) (hD _ ih) m pf.body O R0 λr' F' H' ha hn Z=>?_;cases h2:eC.evs J.pf d.ph pf.res with
     |none=>rw[h2]at e2;cases e2
     |some K=>
      rw[h2]at e2;simp only at e2;split at e2
      ·rename_i A;replace A:=PV.AC A;simp only[bmH.injEq]at e2;have h3:=T6 Z.hp h2;rw[<-Z.fr]at h3;have hR:∃vs,eC.evs F' H' pf.res=some vs/\∃F1 M H2,kM (n_.set 0 (bN vs)) H' F1 M/\PH.le H2 M/\∃u,F1 0=some u/\Comes r h.length v Q u H2:=by
        refine⟨_,h3,?_⟩;rw[auJ K];split at e2
        ·obtain⟨M,g1,g2,g3,g4⟩:=D8 ((D9 d h.length 6 (PV.aKU (bN K) [])).filter λi=>Nat.ble h.length i) (p:=(bN K,d)) Z.heap A;have e3:((D9 d h.length 6 (PV.aKU (bN K) [])).filter λi=>Nat.ble h.length i).foldl sU (bN K,d)=(v,Q):=e2;rw[e3]at g1 g2 g3 g4;exact⟨_,M,M,g1,λ_ _ W=>W,v.ren r',rfl,r',ha,g2,rfl,g3,by rw[g4];exact hn⟩
        ·cases e2;exact⟨_,H',H',.refl _ _,λ_ _ W=>W,(bN K).ren r',rfl,r',ha,Z.heap,rfl,A,hn⟩
       cases x with
       |normal=>exact hR
       |ret=>exact hR
       |exit id=>exact absurd rfl (B id)
      ·cases e2
    split at e
    ·cases e
    ·rename_i x J d B O;exact V x J d (λid he=>B id he) O e
    ·cases e
   ·cases e
  ·cases e
end
def vJ(W:List Nat):Nat->Hp->Hp
 |_,[]=>[]
 |i,x::xs=>(if W.contains i then .dead else x)::vJ W (i+1) xs
theorem qv(W:List Nat):∀(h:Hp)(i k:Nat)(x:bA),(vJ W i h)[k]?=some x->x=.dead\/h[k]?=some x
 |[],_,_,_,e=>by simp[vJ]at e
 |y::h,i,0,x,e=>by
  simp only[vJ,List.getElem?_cons_zero,bmH.injEq]at e;split at e
  ·exact .inl e.symm
  ·exact .inr (by rw[<-e];rfl)
 |y::h,i,k+1,x,e=>by simp only[vJ,List.getElem?_cons_succ]at e ⊢;exact qv W h (i+1) k x e
theorem aAA{W:List Nat}{h:Hp}{i:Nat}{x:bA}(e:Hp.ph (vJ W 0 h) i=some x):h.ph i=some x:=by
 have d:=nJ e;rcases qv W h 0 i x d.1 with h2|h2
 ·subst h2;rw[Hp.oC,d.1]at e;cases e
 ·rw[Hp.oC]at e ⊢;rw[d.1]at e;rw[h2];exact e
def zn(op:POp)(f:Fr):Option Nat:=match op with
 | .store _ p _=>match p.ev f.pf with
  |some (.ptr o _ _ _)=>some o
  |_=>none
 | .append _ _ x _=>match x.ev f.pf with
  |some (.osl o _ _ _)=>some o
  |_=>none
 |_=>none
def aLY(hs:Hp)(op:POp)(f:Fr):Bool:=match zn op f with
 |none=>true
 |some o=>match hs[o]? with
  |none=>true
  |some .dead=>true
  |_=>false
theorem aLZ{hs:Hp}{op:POp}{f:Fr}{o:Nat}(h:aLY hs op f=true)(d:zn op f=some o):hs.ph o=none:=by
 unfold aLY at h;rw[d]at h;simp only at h;rw[Hp.oC];split at h
 ·rename_i e;rw[e];rfl
 ·rename_i e;rw[e];rfl
 ·cases h
noncomputable def A4(call:gV)(name:Nat)(vs:List PV):Option PV:=
 if PV.bounds 0 vs then match call name vs []with
  |some (v,_)=>if v.bound 0 then some v else none
  |none=>none
 else none
def I8:bA->bA->Bool
 | .rows s rs,y=>match y with | .rows s' rs'=>bmL s s'&&PV.l4 rs rs'|_=>false
 |_,_=>true
def bdB(hs:Hp)(M:List Nat)(h':Hp):Bool:=M.all λi=>I8 (gtH hs i) (gtH h' i)
noncomputable def Za(call:gV)(e hs:Hp)(name:Nat)(vs:List PV)(h:Hp):Option (PV × Hp):=
 let M:=reach e 1000 (wM vs []) []
 if(M.all λi=>(gtH e i).xZ)&&(okM M h&&ig (inL M) vs)then match call name (nc (posOf M) vs) (sJ h (posOf M) M)with
  |some (v,d)=>if(Nat.ble M.length d.length&&v.EK d.length)&&((d.all λx=>x.xZ.not||x.bd d.length)&&bdB hs M (uC M h d))then some (v.Oc (bk M h.length),uC M h d)else none
  |none=>none
 else none
noncomputable def Jl(call:gV)(d hs:Hp)(op:POp)(st:Bool)(f:Fr)(h:Hp):Option (PV × Hp):=match op with
 | .call name args=>if args.all aS.clo then match aS.evs f.pf args with
  |some vs=>Za call d hs name vs h
  |none=>none
  else none
 | .bjX x args=>if x.clo&&args.all aS.clo then match x.ev f.pf,aS.evs f.pf args with
  |some (.fn name cs),some vs=>Za call d hs name (vs++cs) h
  |_,_=>none
  else none
 |op=>if op.clo&&aLY hs op f then
   if op.jY then zQ op f h else if op.fA then mM op f h else
    match aQ op f.pf (if st then hs.ph else h.ph)with
    |some v=>if v.EK h.length then some (v,h)else none
    |none=>none
  else none
noncomputable def Jm(call:gV)(e hs:Hp)(i:aZ)(st:Bool)(f:Fr)(h:Hp):Option (PV × Hp):=match i.guard with
 |none=>Jl call e hs i.op st f h
 |some (t,d)=>match f.pf t with
  |some (.bool b)=>if b=d then Jl call e hs i.op st f h else some (.tup [],h)
  |some (.tup [])=>some (.tup [],h)
  |_=>none
noncomputable def jk(call:gV)(d hs:Hp):List (aZ × Bool)->Fr->Hp->Option (Fr × Hp)
 |[],f,h=>some (f,h)
 |i::rest,f,h=>if f.fits i.1.dst then match Jm call d hs i.1 i.2 f h with
   |some (v,h')=>jk call d hs rest (f.put i.1.dst v) h'
   |none=>none
  else none
noncomputable def baN(d:Hp)(i:aZ)(f:Fr)(h h':Hp):List Nat:=match i.op with
 | .call _ args=>match aS.evs f.pf args with
  |some vs=>(reach d 1000 (wM vs []) []).filter λi=>!I8 (gtH h i) (gtH h' i)
  |none=>[]
 | .bjX x args=>match x.ev f.pf,aS.evs f.pf args with
  |some (.fn _ cs),some vs=>(reach d 1000 (wM (vs++cs) []) []).filter λi=>!I8 (gtH h i) (gtH h' i)
  |_,_=>[]
 |op=>(zn op f).toList
noncomputable def targets(call:gV)(d:Hp):List (aZ × Bool)->Fr->Hp->List Nat
 |[],_,_=>[]
 |i::rest,f,h=>match Jm call d [] i.1 false f h with
  |some (v,h')=>baN d i.1 f h h'++targets call d rest (f.put i.1.dst v) h'
  |none=>[]
noncomputable def l8(call:gV):RJ:=λops f h=>
 if ops.any λi=>i.2 then
  if ops.any λi=>i.1.op.fA then jk call h (vJ (targets call h ops f h) 0 h) ops f h
  else match jk call h h ops f h with
   |some x=>some x
   |none=>jk call h (vJ (targets call h ops f h) 0 h) ops f h
 else jk call h [] ops f h
structure DI(r:Nat->Nat)(hs h:Hp)(Hs:PH):Prop where
 a:∀i x,hs.ph i=some x->h.ph i=some x
 b:∀o x,Hs o=some x->∃i y,hs.ph i=some y/\o=r i/\x=y.ren r
 c:bz r hs.ph Hs
section
variable {C:Ctx} {call:gV} {r:Nat->Nat} {f f':Fr} {hs h h':Hp} {F:PF} {H Hs:PH} {v:PV}
theorem DI.le(D:DI r hs h Hs)(R:Rl r f h F H):Hs.le H:=λo x e=>by
 obtain⟨i,y,d,rfl,rfl⟩:=D.b o x e;exact R.hp i y (D.a i y d)
theorem DI.next(D:DI r hs h Hs)(R:Rl r f h F H){r':Nat->Nat}(p:jD h.length r r')(A:∀i x,hs.ph i=some x->h'.ph i=some x):DI r' hs h' Hs:=by
 have d:∀i y,hs.ph i=some y->r i=r' i/\y.ren r=y.ren r':=λi y B=>by have e:=nJ (D.a i y B);exact⟨p i e.2,bA.pW p (R.hb y (bmK e.1))⟩
 refine⟨A,λo x l=>?_,λi x l=>?_⟩
 ·obtain⟨i,y,e,u,w⟩:=D.b o x l;exact⟨i,y,e,u.trans (d i y e).1,w.trans (d i y e).2⟩
 ·rw[<-(d i x l).1,<-(d i x l).2];exact D.c i x l
theorem Ys{op:POp}(e:zQ op f h=some (v,h')){i:Nat}{x:bA}(d:h.ph i=some x):h'.ph i=some x:=by
 have hlt:=(nJ d).2;unfold zQ at e;split at e
 ·split at e<;>cases e;rw[Hp.CX,aD Om];exact d
 ·cases e
theorem Jn{op:POp}(e:mM op f h=some (v,h')){i:Nat}{x:bA}(l:h.ph i=some x)(d:zn op f≠some i):h'.ph i=some x:=by
 have hlt:=(nJ l).2;cases op<;>try (simp[mM]at e;done)
 case store n p y=>
  simp only[mM]at e;simp only[zn]at d;split at e
  ·rename_i o s j c w u B;rw[u]at d;split at e
   ·rename_i s' rs A;split at e
    ·split at e<;>cases e;rw[Hp.SH ((blQ.1 A).1),aD (λe=>d (by rw[e]))];exact l
    ·cases e
   ·cases e
  ·cases e
 case append size bytes y z=>
  simp only[mM]at e;simp only[zn]at d;split at e
  ·split at e
   ·cases e;exact l
   ·split at e<;>cases e;rw[Hp.CX,aD Om];exact l
   ·cases e
  ·rename_i o s len b u B;rw[u]at d;split at e
   ·rename_i src s' rs A E;split at e<;>cases e;rw[Hp.CX,aD (by rw[bmD];omega),Hp.SH ((blQ.1 E).1),aD (λe=>d (by rw[e]))];exact l
   ·cases e
  ·cases e
theorem atM(N:rF C call){name:Nat}{vs:List PV}(e:A4 call name vs=some v) :
  vs.map (PV.ren r)=vs/\v.ren r=v/\v.bound 0=true/\aH C name vs h_ (λS _=>S=v):=by
 unfold A4 at e;split at e
 ·rename_i l;split at e
  ·rename_i w M e2;split at e
   ·rename_i p;cases e;refine⟨PV.pX l r,PV.BH p r,p,?_⟩;have A:=N name vs [] v M e2 id h_ ⟨rfl,λi x d=>by simp[Hp.oC]at d,λi j x y d=>by simp[Hp.oC]at d,λi w R=>by simp[Fr.pf]at R,λx d=>by cases d⟩ (λo x d=>by cases d) l;rw[PV.pX l]at A;refine⟨A.1,λE w U O hW B=>(A.2 E w U O hW B).mono λV W Q=>?_⟩;obtain⟨u,pv,J,H',g1,g2,g3,g4,r',-,-,K,-,-⟩:=Q;exact⟨u,pv,J,H',g1,g2,g3,g4,by rw[K,PV.BH p]⟩
   ·cases e
  ·cases e
 ·cases e
end
theorem Pk(r:Nat->Nat):∀n:Nat,∃b,∀j,j<n->r j<b
 |0=>⟨0,λj d=>absurd d (Nat.not_lt_zero j)⟩
 |n+1=>by
  obtain⟨b,hb⟩:=Pk r n;refine⟨b+r n+1,λj d=>?_⟩;rcases Nat.lt_succ_iff_lt_or_eq.1 d with h|h
  ·have:=hb j h;omega
  ·subst h;omega
theorem a9C(r:Nat->Nat)(h:Hp)(hi:∀i j x y,h.ph i=some x->h.ph j=some y->r i=r j->i=j) :
  ∃H:PH,bz r h.ph H/\∀o x,H o=some x->∃i y,h.ph i=some y/\r i=o:=by
 classical
 obtain⟨b,hb⟩:=Pk r h.length;refine⟨⟨λo=>if e:∃i y,h.ph i=some y/\r i=o then some ((Classical.choose (Classical.choose_spec e)).ren r)else none,b,λo w=>?_⟩,λi x d=>?_,λo x d=>?_⟩
 ·rw[dif_neg];rintro⟨i,y,l,p⟩;have:=hb i (nJ l).2;omega
 ·have e:∃j y,h.ph j=some y/\r j=r i:=⟨i,x,d,rfl⟩;show(if e:∃j y,h.ph j=some y/\r j=r i then some ((Classical.choose (Classical.choose_spec e)).ren r)else none)=_;rw[dif_pos e];have l:=Classical.choose_spec (Classical.choose_spec e);have p:=hi _ _ _ _ l.1 d l.2;have u:=l.1.symm.trans ((congrArg h.ph.f p).trans d);rw[bmH.inj u]
 ·change(if e:∃j y,h.ph j=some y/\r j=o then some ((Classical.choose (Classical.choose_spec e)).ren r)else none)=some x at d;split at d
  ·rename_i e;exact e
  ·cases d
theorem a3G{r:Nat->Nat}{f:Fr}{h:Hp}{F:PF}{H:PH}(R:Rl r f h F H):∃q:Nat->Nat,∀i x,h.ph i=some x->q (r i)=i:=by
 classical
 refine⟨λo=>if e:∃i y,h.ph i=some y/\r i=o then Classical.choose e else 0,λi x d=>?_⟩;have e:∃j y,h.ph j=some y/\r j=r i:=⟨i,x,d,rfl⟩;show(if e:∃j y,h.ph j=some y/\r j=r i then Classical.choose e else 0)=i;rw[dif_pos e];obtain⟨y,l,p⟩:=Classical.choose_spec e;exact R.inj _ _ _ _ l d p
def Zh(q r:Nat->Nat)(M:List Nat)(H:PH):Hp:=M.map λi=>match H (r i)with
 |some x=>x.ren λo=>posOf M (q o)
 |none=>.dead
noncomputable def js(call:gV)(h0:Hp)(q r:Nat->Nat):Spec:=λname vs=>
 some ((reach h0 1000 (wM (PV.lT q vs) []) []).map r,λe i H'=>∃v d,
  call name (PV.lT (posOf (reach h0 1000 (wM (PV.lT q vs) []) [])) (PV.lT q vs)) (Zh q r (reach h0 1000 (wM (PV.lT q vs) []) []) e)=some (v,d) /\
  Comes (λk=>r (atN (reach h0 1000 (wM (PV.lT q vs) []) []) k)) (reach h0 1000 (wM (PV.lT q vs) []) []).length v d i H')
theorem Comes.agree{r s:Nat->Nat}{n:Nat}{v:PV}{h:Hp}{d:PV}{H:PH}(u:Comes r n v h d H)(p:jD n r s):Comes s n v h d H:=by
 obtain⟨r',e,l⟩:=u;exact⟨r',λi hi=>(p i hi).symm.trans (e i hi),l⟩
theorem a0J{x y:bA}(h:I8 x y=true)(d:x.live=some x):x=y:=by
 cases x with
 |rows s rs =>cases y<;>simp only[I8,bkI,bmT]at h;rw[PV.vi _ _ h.2,Nat.eq_of_beq_eq_true h.1]
 |map=>cases d
 |loop=>cases d
 |dead=>cases d
section
variable {C:Ctx} {call:gV} {q r0 r:Nat->Nat} {f f':Fr} {h0 hs h h':Hp} {F:PF} {H Hs:PH} {v:PV} {K:PV->PH->Prop} {st:Bool}
theorem RR(hC:rF C call)(hq:∀i x,h0.ph i=some x->q (r0 i)=i)(θ:jD h0.length r0 r)(R:Rl r f h F H)(D:DI r hs h Hs){name:Nat}{vs:List PV}(e:Za call h0 hs name vs h=some (v,h'))
  (J:∀r' H',jD h.length r r'->Z' h<=Z' h'->Rl r' f h' F H'->DI r' hs h' Hs->v.bound h'.length=true->K (v.ren r') H') :
  (Kind.call name (some (vs.map (PV.ren r)))).run C Hs (js call h0 q r0) st K H:=by
 unfold Za at e;simp only at e;generalize hM:reach h0 1000 (wM vs []) []=M at e;split at e
 ·rename_i β;simp only[bkI,bkS]at β;obtain⟨ξ,ok,hv⟩:=β;replace hv:=WW hv;rw[HG]at e;split at e
  ·rename_i w p e2;split at e
   ·rename_i hb;simp only[bkI]at hb;obtain⟨⟨κ,Q⟩,μ,ν⟩:=hb;replace Q:=PV.AC Q;rw[PV.XK]at e;cases e;have ο:Z' M<=Z' p:=Nat.le_of_ble_eq_true κ;have E:∀i,inL M i=true->h0.ph i=some (gtH h0 i):=λi hi=>by rw[uV];exact VJ (ξ i (CP hi))
    have N:∀i,inL M i=true->r0 i=r i:=λi hi=>θ i (nJ (E i hi)).2;have γ:∀i,inL M i=true->q (r i)=i:=λi hi=>by rw[<-N i hi];exact hq i _ (E i hi)
    have ρ:PV.lT q (vs.map (PV.ren r))=vs:=by rw[<-PV.fK,PV.zM (L:=inL M) (s:=id) γ vs hv,PV.zL]
    have Z:M.map r0=M.map r:=bnH λi hi=>N i (wR hi);have X:∀i,inL M i=true->(H.only (M.map r)) (r i)=some ((gtH h i).ren r):=λi hi=>by rw[yQ,aI (List.mem_map_of_mem (CP hi))];exact R.hp i _ (vP ok hi)
    have V:HE M h=true:=by simp only[okM,bkI]at ok;exact ok.1
    have d:Zh q r0 M (H.only (M.map r))=sJ h (posOf M) M:=by unfold Zh sJ;refine bnH λi hi=>?_;have S:=wR hi;rw[N i S,X i S];exact bA.baA (L:=inL M) (λj l=>by rw[γ j l]) (ER R i) (yo V S)
    have A:jD M.length (λk=>r0 (atN M k)) (λk=>r (atN M k)):=λk J=>N _ (vF J);have η:∀x∈p,bA.Bd p.length x:=λx W=>by
     have:=(bkS.1 μ) x W;simp only[Bool.or_eq_true,Bool.not_eq_true']at this;rcases this with h1|h1
     ·cases x<;>first|trivial|cases h1
     ·exact bA.CD h1
    refine⟨_,M.map r,λH0 rv H'=>∃v p,call name (PV.lT (posOf M) vs) (Zh q r0 M H0)=some (v,p)/\Comes (λk=>r0 (atN M k)) M.length v p rv H',rfl,?_,λo ho=>?_,?_,λG=>?_,λrv H' hr ap=>?_⟩
    ·simp only[js,ρ,hM,Z]
    ·obtain⟨i,hi,rfl⟩:=blF.1 ho;exact⟨_,R.hp i _ (vP ok (wR hi))⟩
    ·exact(Ef hC R ok hv e2).Zf λrv H' hc=>⟨w,p,by rw[d];exact e2,hc.agree λk J=>(A k J).symm⟩
    ·obtain⟨nG,hG⟩:=G.fin;obtain⟨nH,hH⟩:=H.fin;have ε:∀k,k<Z' M->r (atN M k)<nH:=λk J=>by
      rcases blI (r (atN M k)) nH with h1|h1
      ·exact h1
      ·have:=R.hp _ _ (vP ok (vF J));rw[hH _ h1]at this;cases this
     generalize δ:(λj=>if j<M.length then r (atN M j)else nG+nH+j)=r2;have hlt:∀j,j<Z' M->r2 j=r (atN M j):=λj l=>by rw[<-δ];exact aI l
     have B:∀j,¬j<Z' M->r2 j=nG+nH+j:=λj l=>by rw[<-δ];exact aD l
     have O:∀i j x y,p.ph i=some x->p.ph j=some y->r2 i=r2 j->i=j:=λi j x y _ _ Y=>by
      by_cases hi:i<Z' M<;>by_cases l:j<Z' M
      ·rw[hlt i hi,hlt j l]at Y;have:=R.inj _ _ _ _ (vP ok (vF hi)) (vP ok (vF l)) Y;have α:gj M=true:=by simp only[HE,bkI]at V;exact V.1
       rw[<-EY α hi,this,EY α l]
      ·rw[hlt i hi,B j l]at Y;have:=ε i hi;omega
      ·rw[B i hi,hlt j l]at Y;have:=ε j l;omega
      ·rw[B i hi,B j l]at Y;omega
     obtain⟨H',h1,h3⟩:=a9C r2 p O;refine⟨w.ren r2,H',⟨w,p,by rw[d];exact e2,r2,λk J=>?_,⟨rfl,h1,O,λi u hu=>by simp[Fr.pf]at hu,η⟩,rfl,Q,ο⟩,λo x W h4=>?_⟩
     ·rw[hlt k J];exact A k J
     ·obtain⟨i,y,-,rfl⟩:=h3 o x W;by_cases hi:i<Z' M
      ·rw[hlt i hi,X _ (vF hi)]at h4;cases h4
      ·rw[B i hi];exact hG _ Om
    ·obtain⟨w',h3,e3,hc⟩:=hr;rw[d,e2]at e3;cases e3;obtain⟨r',ha,hn,R',rfl,ι⟩:=aiC R ok (hc.agree A) ap;have U:∀i x,hs.ph i=some x->Hp.ph (uC M h p) i=some x:=λi x W=>by
      have ζ:=D.a i x W;have hlt:=(nJ ζ).2;by_cases hi:inL M i=true
      ·have h5:=(bkS.1 ν) i (CP hi);have h6:=a9W W;have h7:=a0J h5 (by rw[h6.1];exact h6.2);rw[uV,<-h7,h6.1];exact h6.2
      ·rw[uV,xi,aI hlt,aD hi,<-uV];exact ζ
     have D':=D.next R ha U;exact⟨D'.le R',J r' _ ha hn R' D' ι⟩
   ·cases e
  ·cases e
 ·cases e
theorem tw(hC:rF C call)(hq:∀i x,h0.ph i=some x->q (r0 i)=i)(M:jD h0.length r0 r){op:POp}(R:Rl r f h F H)(D:DI r hs h Hs)(e:Jl call h0 hs op st f h=some (v,h'))
  (N:∀r' H',jD h.length r r'->Z' h<=Z' h'->Rl r' f h' F H'->DI r' hs h' Hs->v.bound h'.length=true->K (v.ren r') H') :
  (op.kind F).run C Hs (js call h0 q r0) st K H:=by
 by_cases X:∃name args,op=.call name args
 ·obtain⟨name,args,rfl⟩:=X;simp only[Jl]at e;split at e
  ·rename_i p;split at e
   ·rename_i vs E;have U:=IF (r:=r) p E;rw[<-R.fr]at U;simp only[POp.kind];rw[U];exact RR hC hq M R D e N
   ·cases e
  ·cases e
 by_cases E:∃x args,op=.bjX x args
 ·obtain⟨x,args,rfl⟩:=E;simp only[Jl]at e;split at e
  ·rename_i p;simp only[bkI]at p;split at e
   ·rename_i name cs vs Y U;have h5:=IF (r:=r) p.2 U;have h6:=dD (r:=r) p.1 Y;rw[<-R.fr]at h5 h6;simp only[POp.kind];rw[h6];simp only[PV.ren,PV.fK];rw[h5];simp only[blJ,<-blK];exact RR hC hq M R D e N
   ·cases e
  ·cases e
 have l:(if op.clo&&aLY hs op f then if op.jY then zQ op f h else if op.fA then mM op f h else
   match aQ op f.pf (if st then hs.ph else h.ph)with|some v=>if v.EK h.length then some (v,h)else none|none=>none else none)=some (v,h'):=by
  cases op<;>first|exact e|exact absurd ⟨_,_,rfl⟩ X|exact absurd ⟨_,_,rfl⟩ E
 split at l
 ·rename_i p;simp only[bkI]at p;have Q:∀i x,hs.ph i=some x->zn op f≠some i:=λi x hx ht=>by rw[aLZ p.2 ht]at hx;cases hx
  have Y:¬∃sh x k w,op=.insert sh x k w:=by rintro⟨sh,x,k,w,rfl⟩;simp[POp.clo]at p
  have B:op.kind F=if op.jY then .new (cZ op F)else if op.fA then .write (λH K=>cL op F H K)else .calm (aQ op F):=by cases op<;>first|rfl|exact absurd ⟨_,_,rfl⟩ X|exact absurd ⟨_,_,rfl⟩ E|exact absurd ⟨_,_,_,_,rfl⟩ Y
  rw[B];split at l
  ·rename_i O;rw[aI O];have A:Z' h<=Z' h':=YK (op:=op) (f:=f) (v:=v) (by unfold EZ;rw[aI p.1,aI O];exact l);obtain⟨mk,x,g1,g2⟩:=bv (d:=some 0) (K:=λF' H'=>∀u,F' 0=some u->K u H') R p.1 l λr' H' J S hb u hu=>by simp only[PF.put,PF.set,aqV]at hu;cases hu;exact N r' H' J A S (D.next R J λi y W=>Ys l (D.a i y W)) hb
   exact⟨mk,x,g1,λo ho=>g2 o ho _ (by simp[PF.put,PF.set,aqV])⟩
  ·rename_i O;rw[aD O];split at l
   ·rename_i V;rw[aI V];have A:Z' h<=Z' h':=YK (op:=op) (f:=f) (v:=v) (by unfold EZ;rw[aI p.1,aD O,aI V];exact l);show cL op F H λZ H'=>Hs.le H'/\K Z H';refine NL (K:=λZ H'=>Hs.le H'/\K Z H') R p.1 l λr' H' J S hb=>?_;have D':=D.next R J λi y W=>Jn l (D.a i y W) (Q i y W);exact⟨D'.le S,N r' H' J A S D' hb⟩
   ·rename_i V;rw[aD V];split at l
    ·rename_i w g1;split at l
     ·rename_i hb;replace hb:=PV.AC hb;cases l;refine⟨v.ren r,?_,N r H (λ_ _=>rfl) (bkN _) R D hb⟩;cases st with
      |true=>
       have:=io D.c p.1 g1
       rwa[<-R.fr]at this
      |false=>
       have:=io R.hp p.1 g1
       rwa[<-R.fr]at this
     ·cases l
    ·cases l
 ·cases l
theorem aoW(A:rF C call)(B:∀i x,h0.ph i=some x->q (r0 i)=i)(d:jD h0.length r0 r){i:aZ}(R:Rl r f h F H)(D:DI r hs h Hs)(e:Jm call h0 hs i st f h=some (v,h'))
  (u:∀r' H',jD h.length r r'->Z' h<=Z' h'->Rl r' f h' F H'->DI r' hs h' Hs->v.bound h'.length=true->K (v.ren r') H') :
  (i.kind F).run C Hs (js call h0 q r0) st K H:=by
 have l:∀t w,f.pf t=some w->F t=some (w.ren r):=λt w p=>by rw[R.fr];simp only[PF.ren,p,blJ]
 unfold Jm at e;unfold aZ.kind;split at e
 ·rename_i y;rw[y];exact tw A B d R D e u
 ·rename_i t E y;rw[y];simp only;split at e
  ·rename_i b hb;rw[l t _ hb];simp only[PV.ren];split at e
   ·rename_i p;rw[aI p];exact tw A B d R D e u
   ·rename_i p;rw[aD p];cases e;exact⟨_,rfl,u r H (λ_ _=>rfl) (bkN _) R D rfl⟩
  ·rename_i hb;rw[l t _ hb];cases e;exact⟨_,rfl,u r H (λ_ _=>rfl) (bkN _) R D rfl⟩
  ·cases e
end
variable{C:Ctx}
theorem I2{call:gV}(N:rF C call){h0 hs:Hp}{Hs:PH}{q r0:Nat->Nat}(Q:∀i x,h0.ph i=some x->q (r0 i)=i):∀(ops:List (aZ × Bool)) {r:Nat->Nat} {f f':Fr} {h h':Hp} {F:PF} {H:PH} {K:PF->PH->Prop},jk call h0 hs ops f h=some (f',h')->jD h0.length r0 r->Z' h0<=Z' h->Rl r f h F H->DI r hs h Hs ->
  (∀r' M H',jD h.length r r'->Z' h<=Z' h'->Rl r' f' h' M H'->K M H')->wpD C Hs (js call h0 q r0) ops K F H
 |[],r,f,f',h,h',F,H,K,e,_,_,R,D,A=>by cases e;exact A r F H (λ_ _=>rfl) (bkN _) R
 |i::rest,r,f,f',h,h',F,H,K,e,d,l,R,D,A=>by
  simp only[jk]at e;split at e
  ·rename_i W;split at e
   ·rename_i v X V;refine aoW N Q d R D V λr' H' O B U S hb=>?_;exact I2 N Q rest e (d.trans O l) (blH l B) (U.put W hb) S λJ p u y E w=>A J p u (O.trans y B) (blH B E) w
   ·cases e
  ·cases e
theorem NH{call:gV}(w:rF C call){hs:Hp}{ops:List (aZ × Bool)}{r:Nat->Nat}{f f':Fr}{h h':Hp}{F:PF}{H:PH}{K:PF->PH->Prop}(e:jk call h hs ops f h=some (f',h'))(R:Rl r f h F H)
  (d:∀i x,hs.ph i=some x->h.ph i=some x) (A:∀r' p H',jD h.length r r'->Z' h<=Z' h'->Rl r' f' h' p H'->K p H'):∃Hs S,PH.le Hs H/\wpD C Hs S ops K F H:=by
 obtain⟨q,E⟩:=a3G R;have D:DI r hs h (H.only (((bkH h.length).filter λi=>(Hp.ph hs i).isSome).map r)):=by
  refine⟨d,λo x l=>?_,λi x l=>?_⟩
  ·rw[yQ]at l;split at l
   ·rename_i B;obtain⟨i,hi,rfl⟩:=blF.1 B;obtain⟨-,hi⟩:=List.mem_filter.1 hi;obtain⟨y,u⟩:=Option.isSome_iff_exists.1 hi;refine⟨i,y,u,rfl,?_⟩;have:=R.hp i y (d i y u);rw[this]at l;cases l;rfl
   ·cases l
  ·rw[yQ,aI]
   ·exact R.hp i x (d i x l)
   ·exact blF.2 ⟨i,List.mem_filter.2 ⟨blN.2 (nJ (d i x l)).2,by rw[l];rfl⟩,rfl⟩
 exact⟨_,_,D.le R,I2 w E ops e (λ_ _=>rfl) (bkN _) R D A⟩
theorem aWQ(call:gV)(l:rF C call):Zw C (l8 call):=by
 intro ops f h f' h' e r F H R K u;unfold l8 at e;split at e
 ·split at e
  ·exact NH l e R (λi x d=>aAA d) u
  ·split at e
   ·rename_i p w;cases e;exact NH l w R (λi x d=>d) u
   ·exact NH l e R (λi x d=>aAA d) u
 ·exact NH l e R (λi x d=>by simp[Hp.oC]at d) u
theorem aMX{tab:Nat->Option bB}{d:Orc}{fz:Nat->Bool}(i:Y3 C d)(l:∀k pf,tab k=some pf->Az C k pf)(m n:Nat):rF C (PU tab d fz l8 m n):=aDP i l (λcall e=>aWQ call e) m n
theorem aMW{tab:Nat->Option bB}{d:Orc}{fz:Nat->Bool}(i:Y3 C d)(l:∀k pf,tab k=some pf->Az C k pf)(m n:Nat){name:Nat}{vs:List PV}{v:PV}(e:A4 (PU tab d fz l8 m n) name vs=some v):aH C name vs h_ (λp _=>p=v):=
 (atM (r:=id) (aMX i l m n) e).2.2.2
end Go.PM
