/-
  Texts of ours, joined: Mv3 Mv4 L11W4 Jn3. No condition.
-/
import Derived.Test.YtelckcmlobadkaaGreatDoorMd1
import Derived.Test.YtelckcmlobadkaaGreatDoorMd2
import Derived.Test.YtelckcmlobadkaaGreatDoorMd3
import Derived.Test.YtelckcmlobadkaaGreatDoorMd4

set_option linter.unusedSimpArgs false
set_option linter.unusedVariables false
open Nat renaming reduceEqDiff → γ, reduceAdd → δ, reduceSub → ε, reduceMul → ζ, reduceLT → η, reduceLeDiff → θ, reduceBEq → τ
open Int renaming reduceLT → ι, reduceLE → κ, reduceEq → μ, reduceToNat → ν, reduceAdd → ξ, reduceNeg → ο, reduceBEq → ρ, reduceBNe → σ
open List renaming reduceReplicate → υ
open List renaming length_map → bKY, range → bKZ, length_append → bLC, replicate → bLD, getElem_mem → bLF, length_singleton → bLH, getElem?_eq_getElem → bLL, mem_cons → bLO, getD_eq_getElem?_getD → bLP, take_of_length_le → bLQ, length_take → bLR, all_eq_true → bLU, not_mem_nil → bLW, take_length → bLZ, append_assoc → bMA, drop_zero → bMD, mem_map → bMF, getElem?_map → bMH, map_cons → bMI, getElem?_eq_none → bML, getElem?_eq_some_iff → bMM, getElem_map → bMN, getElem_of_mem → bMO, append_nil → bMP, mem_range → bMQ, mem_append → bMT, drop_eq_getElem_cons → bMU, map_append → bMW, Sublist → bMX, length_drop → bMY, map_nil → bMZ, take_succ_eq_append_getElem → bNC, length_nil → bNJ, length_set → bNL, length_cons → bNM, mem_of_getElem? → bNO, take_append_drop → bNP, nodup_append → bNQ, getElem?_append_left → bNV, ext_getElem → bNW, getElem?_append_right → bNX, getElem?_take → bNZ, set_append_right → bOA, drop_of_length_le → bOG
open Nat renaming gcd → bLA, zero_le → bLE, le_refl → bLG, mul_add → bLM, lt_or_ge → bLS, mul_assoc → bLV, zero_add → bLX, mul_comm → bLY, add_mul → bMB, mul_le_mul_right → bMC, mod_eq_of_lt → bMG, mod_lt → bMJ, pow_succ → bMR, add_zero → bMV, eq_zero_or_pos → bNA, min_eq_left → bNB, add_assoc → bND, le_trans → bNE, mul_le_mul_left → bNF, pos_of_ne_zero → bNG, pow_pos → bNN, div_lt_iff_lt_mul → bNR, div_le_self → bNY, div_add_mod → bOB, div_eq_of_lt → bOC
open Bool renaming not_true → bLB, false_and → bLI, not_false → bLK, true_and → bLN, and_eq_true → bLT, and_false → bMK, and_true → bNK, and_assoc → bNT, false_eq_true → bOF
open Option renaming map_eq_some_iff → bLJ, map_some → bME, getD_some → bNH, some → bNI, bind_eq_some_iff → bOD, bind_some → bOH
open Array renaming replicate → bMS, length_toList → bNS, getElem?_eq_getElem → bOE, getElem?_eq_some_iff → bOI
open Int renaming toNat_natCast → bNU
namespace Go.PM
open Go Go.Na
theorem wW (l:List Nat) (a:Nat):∃ n:Nat,(gQ l a).1=n∧n≤3:=by
 have h:=bT l (show 0<3 by decide) (aC l 3 a).2
 unfold gQ
 simp only
 split
 ·exact⟨1+(aC l 3 (aC l 3 a).2).1,rfl,by omega⟩
 ·exact⟨0,rfl,by omega⟩
theorem eG {n lo hi:Int} (h1:lo≤n) (h2:n≤hi):within n lo hi=true:=within_iff.2 ⟨h1,h2⟩
theorem byM {nm:List UInt8} {k m q s1 s2 s3 s4 g h:Nat} {ms:List Int} {rp:List RF} {mc:Nat} (hk1:1≤k) (hk2:k≤2) (hm:m≤2) (hq1:k≤q) (hq2:q≤k+m) (h1:s1≤3) (h2:s2≤3) (h3:s3≤3) (h4:s4≤3) (hg:g≤8) (hh:h≤4)
  (hrl:rp.length=max m 1) (hrp:∀ x∈rp,rV x∧bL x=true)
  (hmc:mc≤2) (hms:∃ f:Nat,f<mc∧(ms=[(f:Int)]∨mc=2∧ms=[(f:Int),1-(f:Int)])) :
  jI mc ⟨nm,(k:Nat),(m:Nat),(q:Nat),0,(s1:Nat),(s2:Nat),(s3:Nat),(s4:Nat),ms,rp,mkT (g:Nat) ((8:Nat):Int),mkT (h:Nat) ((1:Nat):Int)⟩=true ∧
  (⟨nm,(k:Nat),(m:Nat),(q:Nat),0,(s1:Nat),(s2:Nat),(s3:Nat),(s4:Nat),ms,rp,mkT (g:Nat) ((8:Nat):Int),mkT (h:Nat) ((1:Nat):Int)⟩:cJ).Ok:=by
 have G:=SmF.mk' (a:=g) (b:=8) Om (by decide) (by decide)
 have Z:=SmF.mk' (a:=h) (b:=1) Om (by decide) (by decide)
 obtain⟨f,hf,hms⟩:=hms
 constructor
 ·unfold jI IR AF
  simp only[bLT,List.all_cons,List.all_nil,bNK]
  refine⟨⟨⟨⟨⟨⟨⟨⟨eG Om Om,eG Om Om⟩,decide_eq_true Om⟩,eG Om Om⟩,rfl⟩,eG Om Om,eG Om Om,eG Om Om,eG Om Om,eG Om Om⟩,?_⟩,⟨⟨⟨⟨decide_eq_true (by rw[hrl]; omega),?_⟩,G.lim⟩,G.one Om⟩,Z.lim⟩⟩,?_⟩
  ·rcases hms with e | ⟨-,e⟩<;>rw[e]<;>rfl
  ·rw[bLU]
   intro x hx
   rw[(hrp x hx).1.lim,(hrp x hx).2]
   rfl
  ·rw[bLU]
   rcases hms with rfl | ⟨rfl,rfl⟩
   ·intro j hj
    simp only[bNM,bNJ,bMQ] at hj
    have:j=0:=by omega
    subst this
    rw[bLT]
    exact⟨eG (by simp) (by simp; omega),by simp⟩
   ·intro j hj
    simp only[bNM,bNJ,bMQ] at hj
    have:j=0∨j=1:=by omega
    rcases this with rfl | rfl
    ·rw[bLT]
     exact⟨eG (by simp) (by simp; omega),by simp⟩
    ·rw[bLT]
     refine⟨eG (by simp; omega) (by simp; omega),?_⟩
     have:¬ (1-(f:Int)=f):=by omega
     simp[this]
 ·refine⟨by unfold cZ; constructor<;>simp only<;>omega,by unfold cZ; constructor<;>simp only<;>omega,by unfold cZ; constructor<;>simp only<;>omega,?_,?_,⟨?_,fun x hx=>(hrp x hx).1.ok⟩,G.ok,Z.ok⟩
  ·show ms.length≤_
   rcases hms with e | ⟨-,e⟩<;>rw[e]<;>simp
  ·show ∀ x∈ms,cZ x
   unfold cZ
   rcases hms with e | ⟨h2,e⟩<;>rw[e]<;>intro x hx<;>simp only[bLO,bLW,or_false] at hx
   ·subst hx; omega
   ·rcases hx with rfl | rfl<;>omega
  ·show rp.length≤_
   rw[hrl]; omega
theorem azN (l:List Nat) {mc:Nat} (h0:0<mc) (h2:mc≤2) (i a:Nat):(lP l mc i a).1.name=[112]++bV i∧jI mc (lP l mc i a).1=true∧(lP l mc i a).1.Ok:=by
 refine⟨rfl,?_⟩
 have hk:=bT l (show 0<2 by decide) a
 have hm:=bT l (show 0<3 by decide) (aC l 2 a).2
 have hh:=bT l (show 0<4 by decide) (aC l 3 (aC l 2 a).2).2
 unfold lP
 simp only
 generalize aC l 2 a=k at *
 generalize aC l 3 k.2=m at *
 generalize aC l 4 m.2=h at *
 have hq:=bT l (Om:0<m.1+1) h.2
 generalize aC l (m.1+1) h.2=q at *
 obtain⟨r1,r2⟩:=a1I l q.2 (max m.1 1)
 generalize kB l q.2 (max m.1 1)=r at *
 have hg:=bT l (show 0<9 by decide) r.2
 generalize aC l 9 r.2=g at *
 obtain⟨n1,e1,b1⟩:=wW l g.2
 generalize gQ l g.2=s1 at *
 obtain⟨n2,e2,b2⟩:=wW l s1.2
 generalize gQ l s1.2=s2 at *
 obtain⟨n3,e3,b3⟩:=wW l s2.2
 generalize gQ l s2.2=s3 at *
 obtain⟨n4,e4,b4⟩:=wW l s3.2
 generalize gQ l s3.2=s4 at *
 have hf:=bT l h0 s4.2
 generalize aC l mc s4.2=f at *
 generalize aC l 2 f.2=b at *
 rw[e1,e2,e3,e4]
 refine byM Om Om Om Om Om b1 b2 b3 b4 Om Om r1 r2 h2 ⟨f.1,hf,?_⟩
 split
 ·rename_i hmc
  split
  ·exact .inr ⟨by omega,rfl⟩
  ·exact .inl rfl
 ·exact .inl rfl
theorem AE (l:List Nat) {mc:Nat} (h0:0<mc) (h2:mc≤2) (a:Nat):∀ n,(dL l mc a n).1.length=n∧∀ i (hi:i<(dL l mc a n).1.length),(dL l mc a n).1[i].name=[112]++bV i∧jI mc (dL l mc a n).1[i]=true∧(dL l mc a n).1[i].Ok
 | 0=>⟨rfl,fun i hi=>absurd hi (by simp[dL])⟩
 | n+1=>by
  obtain⟨k1,k2⟩:=AE l h0 h2 a n
  have e:(dL l mc a (n+1)).1=(dL l mc a n).1++[(lP l mc n (dL l mc a n).2).1]:=rfl
  rw[e]
  refine⟨by simp[k1],qY (P:=fun i (x:cJ)=>x.name=[112]++bV i∧jI mc x=true∧x.Ok) k2 ?_⟩
  rw[k1]
  exact azN l h0 h2 n _
theorem FO (l:List Nat) {pc:Nat} (h0:0<pc) (a:Nat):∀ n,(eF l pc a n).1.length=n∧∀ i (hi:i<(eF l pc a n).1.length),(eF l pc a n).1[i].name=[118]++bV i∧∃ p:Nat,(eF l pc a n).1[i].bJI=p∧p<pc
 | 0=>⟨rfl,fun i hi=>absurd hi (by simp[eF])⟩
 | n+1=>by
  obtain⟨k1,k2⟩:=FO l h0 a n
  have e:(eF l pc a (n+1)).1=(eF l pc a n).1++[⟨[118]++bV n,((aC l pc (eF l pc a n).2).1:Nat)⟩]:=rfl
  rw[e]
  refine⟨by simp[k1],qY (P:=fun i (x:eN)=>x.name=[118]++bV i∧∃ p:Nat,x.bJI=p∧p<pc) k2 ?_⟩
  rw[k1]
  exact⟨rfl,_,rfl,bT l h0 _⟩
abbrev lvs (ds:List cI):List Int:=ds.map cI.level
def bDJ (ds:List cI) (i:Nat) (d:cI):Prop:=∃ lev p u:Nat,d.name=[kY lev]++bV (i+1)∧d.level=lev∧1≤lev∧lev≤4∧d.parent=p∧p≤i∧(lvs ds)[p]?=some ((lev:Int)-1)∧d.bJU=u∧1≤u∧u≤16∧rV d.bJM
def bxI (ds:List cI) (mc i:Nat) (d:dB):Prop:=∃ m c:Nat,d.name=[100]++bV i∧d.model=m∧m<mc∧d.machine=c∧(lvs ds)[c]?=some 4
structure GV (mc bIS:Nat) (s:GS):Prop where
 len:s.bJF.length≤35
 bJT:s.bJT.length≤bIS
 root:s.bJF[0]?=some mF
 dom:∀ i (hi:i+1<s.bJF.length),bDJ s.bJF i s.bJF[i+1]
 drv:∀ i (hi:i<s.bJT.length),bxI s.bJF mc i s.bJT[i]
theorem GV.a {mc bIS:Nat} {s:GS} (h:GV mc bIS s) (x:Nat):GV mc bIS { s with a:=x }:=⟨h.len,h.bJT,h.root,h.dom,h.drv⟩
theorem aFM (l:List Nat) {mc bIS dom:Nat} (hmc:0<mc) {s:GS} (h:GV mc bIS s) (hd:(lvs s.bJF)[dom]?=some 4):∀ n,GV mc bIS (jO l mc bIS dom s n)∧(jO l mc bIS dom s n).bJF=s.bJF
 | 0=>⟨h,rfl⟩
 | n+1=>by
  obtain⟨h1,h2⟩:=aFM l hmc h hd n
  simp only[jO]
  generalize jO l mc bIS dom s n=t at *
  split
  ·rename_i hlt
   refine⟨⟨h1.len,by simp only[bLC,bLH]; omega,h1.root,h1.dom,?_⟩,h2⟩
   refine qY (P:=fun i d=>bxI t.bJF mc i d) h1.drv ?_
   exact⟨_,dom,rfl,rfl,bT l hmc _,rfl,by rw[h2]; exact hd⟩
  ·exact⟨h1,h2⟩
theorem SS {ds:List cI} {p:Nat} {x:Int} {t:List cI} (h:(lvs ds)[p]?=some x):(lvs (ds++t))[p]?=some x:=by
 unfold lvs at *
 rw[bMW,bNV]
 ·exact h
 ·exact (bMM.1 h).1
theorem bsE (l:List Nat) {mc bIS dom level:Nat} {s:GS} (h:GV mc bIS s) (hl1:1≤level) (hl:level≤4) (hd:(lvs s.bJF)[dom]?=some ((level:Int)-1)) (hf:pL bIS s=false) :
  GV mc bIS (mW l level dom s)∧(∃ t,(mW l level dom s).bJF=s.bJF++t)∧(mW l level dom s).bJF.length=s.bJF.length+1∧(lvs (mW l level dom s).bJF)[s.bJF.length]?=some (level:Int):=by
 unfold pL at hf
 simp only[Bool.or_eq_false_iff,decide_eq_false_iff_not] at hf
 have hdl:dom<s.bJF.length:=by
  have:=(bMM.1 hd).1
  rwa [bKY] at this
 have hu:=bT l (show 0<16 by decide) s.a
 have hk:=bT l (show 0<6 by decide) (aC l 3 (aC l 16 s.a).2).2
 unfold mW
 simp only
 generalize aC l 16 s.a=u at *
 generalize aC l 3 u.2=t at *
 generalize aC l 6 t.2=k at *
 have hsh:rV (if t.1=0 then (mkT 1 ((2+k.1:Nat):Int),k.2) else (kE,t.2)).1:=by
  split
  ·exact (SmF.mk' (a:=1) (b:=2+k.1) Om Om Om).o
  ·exact pG.o
 generalize (if t.1=0 then (mkT 1 ((2+k.1:Nat):Int),k.2) else (kE,t.2))=sh at *
 refine⟨⟨by simp only[bLC,bLH]; omega,h.bJT,?_,?_,fun i hi=>?_⟩,⟨_,rfl⟩,by simp,?_⟩
 ·rw[bNV Om]; exact h.root
 ·intro i hi
  simp only[bLC,bLH] at hi
  by_cases hlt:i+1<s.bJF.length
  ·rw[List.getElem_append_left hlt]
   obtain⟨lev,p,v,h1,h2,h3,h4,h5,h6,h7,h8⟩:=h.dom i hlt
   exact⟨lev,p,v,h1,h2,h3,h4,h5,h6,SS h7,h8⟩
  ·have:i+1=s.bJF.length:=by omega
   rw[List.getElem_append_right Om]
   simp only[List.getElem_singleton]
   exact⟨level,dom,1+u.1,by rw[this],rfl,hl1,hl,rfl,by omega,SS hd,rfl,by omega,by omega,hsh⟩
 ·obtain⟨m,c,h1,h2,h3,h4,h5⟩:=h.drv i hi
  exact⟨m,c,h1,h2,h3,h4,SS h5⟩
 ·unfold lvs
  rw[bMW,bNX (by rw[bKY]; exact bLG _),bKY,Nat.sub_self]
  rfl
theorem aFN (l:List Nat) {mc bIS dom level:Nat} (hl1:1≤level) (hl:level≤4) {rec:Nat→GS→GS}
  (hrec:∀ d t,GV mc bIS t→(lvs t.bJF)[d]?=some (level:Int)→GV mc bIS (rec d t)∧∃ u,(rec d t).bJF=t.bJF++u) {s:GS} (h:GV mc bIS s) (hd:(lvs s.bJF)[dom]?=some ((level:Int)-1)) :
  ∀ n,GV mc bIS (fW l level bIS dom rec s n)∧∃ u,(fW l level bIS dom rec s n).bJF=s.bJF++u
 | 0=>⟨h,[],by simp[fW]⟩
 | n+1=>by
  obtain⟨h1,u,h2⟩:=aFN l hl1 hl hrec h hd n
  simp only[fW]
  generalize fW l level bIS dom rec s n=t at *
  split
  ·exact⟨h1,u,h2⟩
  ·rename_i hf
   have hdt:(lvs t.bJF)[dom]?=some ((level:Int)-1):=by rw[h2]; exact SS hd
   obtain⟨k1,⟨v,k2⟩,k3,k4⟩:=bsE l h1 hl1 hl hdt (by simpa using hf)
   obtain⟨m1,w,m2⟩:=hrec ((mW l level dom t).bJF.length-1) (mW l level dom t) k1 (by rw[k3,Nat.add_sub_cancel]; exact k4)
   exact⟨m1,u++(v++w),by rw[m2,k2,h2]; simp⟩
theorem aFO (l:List Nat) {mc bIS:Nat} (hmc:0<mc):∀ (k:Nat),k≤4→∀ (dom:Nat) {s:GS},GV mc bIS s→(lvs s.bJF)[dom]?=some (4-(k:Int))→GV mc bIS (eM l mc bIS k dom s)∧∃ u,(eM l mc bIS k dom s).bJF=s.bJF++u
 | 0,_,dom,s,h,hd=>by
  simp only[eM]
  obtain⟨h1,h2⟩:=aFM l hmc (h.a (aC l 2 s.a).2) hd (1+(aC l 2 s.a).1)
  exact⟨h1,[],by rw[h2]; simp⟩
 | k+1,hk,dom,s,h,hd=>by
  simp only[eM]
  refine aFN l Om Om (fun d t ht hdt=>aFO l hmc k Om d ht ?_) (h.a (aC l 2 s.a).2) ?_ _
  ·rw[hdt]; congr 1; omega
  ·rw[hd]; congr 1; omega
theorem aqA (lev:Nat) (h1:1≤lev) (h4:lev≤4):eO (kY lev).toNat=true∧kY lev≠100:=by
 have:lev=1∨lev=2∨lev=3∨lev=4:=by omega
 rcases this with rfl | rfl | rfl | rfl<;>decide
theorem aiQ (c:UInt8) {k:Nat} (hk:k<100):TL (([c]++bV k).drop 1)=k:=by
 show TL (bV k)=k
 rw[NW hk]
 exact (aCN ⟨k,hk⟩).1
theorem aSX {mc bIS:Nat} {s:GS} (h:GV mc bIS s) (hd:bIS≤60):distinct ((s.bJF.drop 1).map cI.name++s.bJT.map dB.name)=true:=by
 have hA:∀ i (hi:i<((s.bJF.drop 1).map cI.name).length),∃ lev:Nat,1≤lev∧lev≤4∧((s.bJF.drop 1).map cI.name)[i]=[kY lev]++bV (i+1):=by
  intro i hi
  rw[bKY,bMY] at hi
  obtain⟨lev,p,u,h1,-,h3,h4,-⟩:=h.dom i Om
  refine⟨lev,h3,h4,?_⟩
  rw[bMN,List.getElem_drop]
  simp only[Nat.add_comm 1 i]
  exact h1
 have hB:∀ i (hi:i<(s.bJT.map dB.name).length),(s.bJT.map dB.name)[i]=[100]++bV i:=by
  intro i hi
  rw[bKY] at hi
  obtain⟨m,c,h1,-⟩:=h.drv i hi
  rw[bMN]; exact h1
 have lA:((s.bJF.drop 1).map cI.name).length≤40:=by rw[bKY,bMY]; have:=h.len; omega
 have lB:(s.bJT.map dB.name).length≤60:=by rw[bKY]; have:=h.bJT; omega
 generalize (s.bJF.drop 1).map cI.name=A at *
 generalize s.bJT.map dB.name=B at *
 refine TX ?_ ?_
 ·intro x hx
  rcases bMT.1 hx with hx | hx
  ·obtain⟨i,hi,rfl⟩:=bMO hx
   obtain⟨lev,h1,h4,e⟩:=hA i hi
   rw[e]
   exact anC rfl (aqA lev h1 h4).1 rfl (by simp) Om
  ·obtain⟨i,hi,rfl⟩:=bMO hx
   rw[hB i hi]
   exact anC rfl (by decide) rfl (by simp) Om
 ·rw[bNQ]
  refine⟨?_,?_,?_⟩
  ·refine OQ (g:=fun s=>TL (s.drop 1)-1) fun i hi=>?_
   obtain⟨lev,-,-,e⟩:=hA i hi
   rw[e,aiQ _ Om]
   omega
  ·refine OQ (g:=fun s=>TL (s.drop 1)) fun i hi=>?_
   rw[hB i hi]
   exact aiQ _ Om
  ·intro x hx y hy e
   obtain⟨i,hi,rfl⟩:=bMO hx
   obtain⟨j,hj,rfl⟩:=bMO hy
   obtain⟨lev,h1,h4,e1⟩:=hA i hi
   rw[e1,hB j hj] at e
   exact (aqA lev h1 h4).2 (List.cons.inj e).1
theorem boS {mc bIS a:Nat}:GV mc bIS ⟨[mF],[],a⟩ :=
 ⟨by simp,bLE _,rfl,fun i hi=>absurd hi (by simp),fun i hi=>absurd hi (by simp)⟩
theorem btH {mc bIS:Nat} {s:GS} (h:GV mc bIS s) (f:aD) (hf:f.bIW=s.bJF):nJ f=true:=by
 have hr:=h.root
 have hdom:=h.dom
 unfold nJ
 rw[hf]
 cases hdm:s.bJF with
 | nil=>rw[hdm] at hr; cases hr
 | cons r t =>
  rw[hdm] at hr
  have:r=mF:=by simpa using hr
  subst this
  show zS f mF t=true
  unfold zS
  simp only[bLT]
  refine⟨⟨⟨⟨⟨⟨rfl,rfl⟩,rfl⟩,rfl⟩,pG.lim⟩,by rw[show mF.bJM=kE from rfl,pG.zero]; rfl⟩,?_⟩
  rw[bLU]
  intro i hi
  rw[bMQ] at hi
  rw[bLL hi]
  obtain⟨lev,p,u,h1,h2,h3,h4,h5,h6,h7,h8,h9,h10,h11⟩:=hdom i (by rw[hdm]; simp; omega)
  have e:s.bJF[i+1]'(by rw[hdm]; simp; omega)=t[i]:=by simp[hdm]
  rw[e] at h1 h2 h5 h8 h11
  show FX f i t[i]=true
  unfold FX
  simp only[bLT]
  refine⟨⟨⟨⟨?_,?_⟩,?_⟩,?_⟩,h11.lim⟩
  ·rw[h5]; exact eG Om Om
  ·rw[h5,h2,hf,bNU,bLP,h7,akB Om Om]
   exact decide_eq_true rfl
  ·rw[h2]; exact eG Om Om
  ·rw[h8]; exact eG Om Om
theorem yH (l:List Nat) (bIS bIV a:Nat) (hd:bIS≤24) (hv:bIV≤12) :
  cX (fY l bIS bIV a).1=true∧(fY l bIS bIV a).1.Ok:=by
 unfold fY
 simp only
 have he:=bT l (show 0<2 by decide) a
 generalize aC l 2 a=e at *
 have hlw:=bT l (show 0<2 by decide) e.2
 generalize aC l 2 e.2=lw at *
 obtain⟨w1,w2⟩:=UF l lw.2 (1+lw.1)
 generalize gP l lw.2 (1+lw.1)=bJD at *
 have hmd:=bT l (show 0<2 by decide) bJD.2
 generalize aC l 2 bJD.2=md at *
 obtain⟨m1,m2⟩:=ML l (1+lw.1) Om md.2 (1+md.1)
 generalize eE l (1+lw.1) md.2 (1+md.1)=bIT at *
 obtain⟨G,-⟩:=aFO l (mc:=1+md.1) (bIS:=bIS) Om 4 (by decide) 0 (s:=⟨[mF],[],bIT.2⟩) boS rfl
 generalize eM l (1+md.1) bIS 4 0 ⟨[mF],[],bIT.2⟩=g at *
 have hpl:=bT l (show 0<2 by decide) g.a
 generalize aC l 2 g.a=pl at *
 obtain⟨p1,p2⟩:=AE l (mc:=1+md.1) Om Om pl.2 (1+pl.1)
 generalize dL l (1+md.1) pl.2 (1+pl.1)=pols at *
 have hvo:=bT l (Om:0<bIV+1) pols.2
 generalize aC l (bIV+1) pols.2=vo at *
 obtain⟨v1,v2⟩:=FO l (pc:=1+pl.1) Om vo.2 vo.1
 generalize eF l (1+pl.1) vo.2 vo.1=vols at *
 have g1:=G.len
 have g2:=G.bJT
 have hdp:∀ f:aD,f.bIW=g.bJF→nJ f=true:=fun f hf=>btH G f hf
 have bKJ:∀ n:Nat,n≤1000→n≤9223372036854775807:=fun n h=>by omega
 have hdrv:∀ x∈g.bJT,∃ m c:Nat,x.model=m∧m<1+md.1∧x.machine=c∧c<g.bJF.length∧(lvs g.bJF)[c]?=some 4:=by
  intro x hx
  obtain⟨i,hi,rfl⟩:=bMO hx
  obtain⟨m,c,-,h2,h3,h4,h5⟩:=G.drv i hi
  refine⟨m,c,h2,h3,h4,?_,h5⟩
  have:=(bMM.1 h5).1
  rwa [bKY] at this
 constructor
 ·unfold cX
  rw[hdp _ rfl]
  simp only[bLT,bNK]
  refine⟨⟨?_,⟨⟨⟨⟨?_,?_⟩,?_⟩,?_⟩,?_⟩⟩,⟨⟨⟨?_,?_⟩,aSX G Om⟩,?_⟩,?_⟩
  ·unfold nC
   simp only[bLT]
   exact⟨⟨⟨⟨⟨⟨eG Om Om,decide_eq_true Om⟩,decide_eq_true Om⟩,decide_eq_true Om⟩,decide_eq_true Om⟩,decide_eq_true Om⟩,decide_eq_true Om⟩
  ·exact xK fun i hi=>(w2 i hi).2.1
  ·refine xK fun i hi=>?_
   obtain⟨-,x,y,z,e1,e2,e3,e4,e5,e6,e7,e8⟩:=m2 i hi
   unfold kA
   simp only[bLT]
   rw[e1,e4,e7,w1]
   exact⟨⟨eG Om Om,eG Om Om⟩,eG Om Om⟩
  ·rw[bLU]
   intro x hx
   obtain⟨m,c,e1,e2,e3,e4,e5⟩:=hdrv x hx
   unfold iR
   simp only[bLT]
   rw[e1,e3,m1,bNU,bLP,e5]
   exact⟨⟨eG Om Om,eG Om Om⟩,rfl⟩
  ·refine xK fun i hi=>?_
   rw[m1]; exact (p2 i hi).2.1
  ·refine xK fun i hi=>?_
   obtain⟨-,p,e1,e2⟩:=v2 i hi
   unfold nO
   rw[e1,p1]
   exact eG Om Om
  ·refine sE (p:=[108,97,119]) rfl (by decide) (by decide) (by decide) (by rw[bKY]; omega) fun i hi=>?_
   rw[bMN]; exact (w2 i (by simpa using hi)).1
  ·refine sE (p:=[109]) rfl (by decide) (by decide) (by decide) (by rw[bKY]; omega) fun i hi=>?_
   rw[bMN]; exact (m2 i (by simpa using hi)).1
  ·refine sE (p:=[112]) rfl (by decide) (by decide) (by decide) (by rw[bKY]; omega) fun i hi=>?_
   rw[bMN]; exact (p2 i (by simpa using hi)).1
  ·refine sE (p:=[118]) rfl (by decide) (by decide) (by decide) (by rw[bKY]; omega) fun i hi=>?_
   rw[bMN]; exact (v2 i (by simpa using hi)).1
 ·refine⟨bKJ bJD.1.length Om,bKJ bIT.1.length Om,bKJ g.bJF.length Om,bKJ g.bJT.length Om,bKJ pols.1.length Om,bKJ vols.1.length Om,?_,?_,?_,?_,?_⟩
  ·intro x hx
   obtain⟨i,hi,rfl⟩:=bMO hx
   exact (w2 i hi).2.2
  ·intro x hx
   obtain⟨i,hi,rfl⟩:=bMO hx
   rcases bNA i with rfl | hp
   ·have:g.bJF[0]=mF:=by have:=G.root; rw[bLL hi] at this; exact bNI.inj this
    rw[this]
    exact⟨pG.ok,by unfold cZ; decide,by unfold cZ; decide⟩
   ·obtain⟨k,rfl⟩:∃ k,i=k+1:=⟨i-1,by omega⟩
    obtain⟨lev,p,u,h1,h2,h3,h4,h5,h6,h7,h8,h9,h10,h11⟩:=G.dom k hi
    have hi':k+1<g.bJF.length:=hi
    rw[h2,h5]
    exact⟨h11.ok,by unfold cZ; omega,by unfold cZ; omega⟩
  ·intro x hx
   obtain⟨m,c,e1,e2,e3,e4,e5⟩:=hdrv x hx
   rw[e1,e3]
   unfold cZ; omega
  ·intro x hx
   obtain⟨i,hi,rfl⟩:=bMO hx
   exact (p2 i hi).2.2
  ·intro x hx
   obtain⟨i,hi,rfl⟩:=bMO hx
   obtain⟨-,p,e1,e2⟩:=v2 i hi
   rw[e1]
   unfold cZ; omega

theorem bfN {C:Ctx} (c:eH C) (hi:rU C):aBQ C :=
 {bfM c hi with
  grow:=fun l v T mc bIS h0 h1 h2=>aFP (bfM c hi) T mc bIS h0 h1 h2 (fun args H R hl h=>c.r7 args H R (by rw[hl]; decide) h) 4 (bLG _) }
theorem aIU {C:Ctx} (c:eH C) (hi:rU C):bcQ C :=
 {bfN c hi with
  new:=fun l hb hl=>c.r28.go (buK l hb hl) rfl
  fleet:=fun l v T o bIS bIV a hdr hvo ha=>MR.exact (c.r0.go (bfI (bfN c hi) T o bIS bIV a hdr hvo ha) rfl) }
theorem adH {C:Ctx} (c:eH C) (hi:rU C):MS C :=
 {at_:=fun f hf d level=>(c.r147.go (bzC (TH c) f hf d level) rfl).seen
  child:=fun f hf d=>(c.r148.go (biH (TH c) f hf d) rfl).seen
  bIS:=fun f hf d=>(c.r149.go (bbC (TH c) f hf d) rfl).seen
  holds:=fun f l room hf hl=>(c.r150.go (biK (brQ c) f hf l hl room) rfl).seen
  loads:=fun f l hf hl=>(c.r151.go (biA (aiA c) f hf l hl) rfl).seen
  room:=(aiA c).room
  shaped:=fun f l hf hl=>(c.r153.go (bbA (biP c) f hf l hl) rfl).seen
  viol:=(brQ c).viol
  fleet:=fun l hb hl bIS bIV hdr hvo=>(c.r27.go (bfF (aIU c hi) l hb hl bIS bIV hdr hvo) rfl).seen }
theorem bmT {C:Ctx} (c:eH C) (hi:rU C):aH C 20 [] .nil (aF (.bool true)) :=
 c.r20.go (beB (adH c hi) (c.r23.go (bfC (adH c hi)) rfl)) rfl
end Go.PM
