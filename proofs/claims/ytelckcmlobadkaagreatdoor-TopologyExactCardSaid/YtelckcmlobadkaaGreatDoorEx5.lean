/-
  Texts of ours, joined: Mv3 Mv4 L11W4 Jn3. No condition.
-/
import Derived.Test.YtelckcmlobadkaaGreatDoorEx1
import Derived.Test.YtelckcmlobadkaaGreatDoorEx2
import Derived.Test.YtelckcmlobadkaaGreatDoorEx3
import Derived.Test.YtelckcmlobadkaaGreatDoorEx4

set_option linter.unusedSimpArgs false
set_option linter.unusedVariables false
open Nat renaming reduceEqDiff → γ, reduceAdd → δ, reduceSub → ε, reduceMul → ζ, reduceLT → η, reduceLeDiff → θ, reduceBEq → τ
open Int renaming reduceLT → ι, reduceLE → κ, reduceEq → μ, reduceToNat → ν, reduceAdd → ξ, reduceNeg → ο, reduceBEq → ρ, reduceBNe → σ
open List renaming reduceReplicate → υ
open List renaming length_map → bJT, range → bJU, length_append → bJX, replicate → bJY, getElem_mem → bJZ, length_singleton → bKD, getElem?_eq_getElem → bKG, mem_cons → bKI, getD_eq_getElem?_getD → bKK, take_of_length_le → bKL, length_take → bKN, all_eq_true → bKP, not_mem_nil → bKR, take_length → bKU, append_assoc → bKV, drop_zero → bKY, mem_map → bLA, getElem?_map → bLC, getElem?_eq_some_iff → bLD, map_cons → bLF, getElem?_eq_none → bLH, getElem_map → bLI, getElem_of_mem → bLJ, append_nil → bLK, mem_range → bLN, drop_eq_getElem_cons → bLO, mem_append → bLQ, Sublist → bLR, length_drop → bLS, map_append → bLT, take_succ_eq_append_getElem → bLY, length_nil → bMD, map_nil → bME, length_set → bMG, length_cons → bMH, mem_of_getElem? → bMI, getElem?_append_left → bMK, take_append_drop → bML, nodup_append → bMM, ext_getElem → bMR, getElem?_append_right → bMS, getElem?_take → bMU, set_append_right → bMV, drop_of_length_le → bNB
open Nat renaming gcd → bJV, zero_le → bKA, le_refl → bKB, mul_add → bKH, lt_or_ge → bKO, mul_assoc → bKQ, zero_add → bKS, mul_comm → bKT, add_mul → bKW, mul_le_mul_right → bKX, mod_eq_of_lt → bLB, mod_lt → bLG, pow_succ → bLL, add_zero → bLP, eq_zero_or_pos → bLU, le_trans → bLV, min_eq_left → bLW, add_assoc → bLZ, mul_le_mul_left → bMA, pos_of_ne_zero → bMB, pow_pos → bMJ, div_lt_iff_lt_mul → bMN, div_le_self → bMT, div_add_mod → bMW, div_eq_of_lt → bMX
open Bool renaming not_true → bJW, false_and → bKC, not_false → bKF, true_and → bKJ, and_eq_true → bKM, and_false → bLE, and_true → bMF, and_assoc → bMP, false_eq_true → bNA
open Option renaming map_eq_some_iff → bKE, map_some → bKZ, getD_some → bLX, some → bMC, bind_eq_some_iff → bMY, bind_some → bNC
open Array renaming replicate → bLM, length_toList → bMO, getElem?_eq_getElem → bMZ, getElem?_eq_some_iff → bND
open Int renaming toNat_natCast → bMQ
namespace Go.PM
open Go Go.Na
theorem wK (l:List Nat) (a:Nat):∃ n:Nat,(gE l a).1=n∧n≤3:=by
 have h:=cC l (show 0<3 by decide) (aF l 3 a).2
 unfold gE
 simp only
 split
 ·exact⟨1+(aF l 3 (aF l 3 a).2).1,rfl,by omega⟩
 ·exact⟨0,rfl,by omega⟩
theorem eF {n lo hi:Int} (h1:lo≤n) (h2:n≤hi):within n lo hi=true:=within_iff.2 ⟨h1,h2⟩
theorem bxJ {nm:List UInt8} {k m q s1 s2 s3 s4 g h:Nat} {ms:List Int} {rp:List RF} {mc:Nat} (hk1:1≤k) (hk2:k≤2) (hm:m≤2) (hq1:k≤q) (hq2:q≤k+m) (h1:s1≤3) (h2:s2≤3) (h3:s3≤3) (h4:s4≤3) (hg:g≤8) (hh:h≤4)
  (hrl:rp.length=max m 1) (hrp:∀ x∈rp,rL x∧bJ x=true)
  (hmc:mc≤2) (hms:∃ f:Nat,f<mc∧(ms=[(f:Int)]∨mc=2∧ms=[(f:Int),1-(f:Int)])) :
  jD mc ⟨nm,(k:Nat),(m:Nat),(q:Nat),0,(s1:Nat),(s2:Nat),(s3:Nat),(s4:Nat),ms,rp,mkT (g:Nat) ((8:Nat):Int),mkT (h:Nat) ((1:Nat):Int)⟩=true ∧
  (⟨nm,(k:Nat),(m:Nat),(q:Nat),0,(s1:Nat),(s2:Nat),(s3:Nat),(s4:Nat),ms,rp,mkT (g:Nat) ((8:Nat):Int),mkT (h:Nat) ((1:Nat):Int)⟩:cJ).Ok:=by
 have G:=SmF.mk' (a:=g) (b:=8) Om (by decide) (by decide)
 have Z:=SmF.mk' (a:=h) (b:=1) Om (by decide) (by decide)
 obtain⟨f,hf,hms⟩:=hms
 constructor
 ·unfold jD HP zR
  simp only[bKM,List.all_cons,List.all_nil,bMF]
  refine⟨⟨⟨⟨⟨⟨⟨⟨eF Om Om,eF Om Om⟩,decide_eq_true Om⟩,eF Om Om⟩,rfl⟩,eF Om Om,eF Om Om,eF Om Om,eF Om Om,eF Om Om⟩,?_⟩,⟨⟨⟨⟨decide_eq_true (by rw[hrl]; omega),?_⟩,G.lim⟩,G.one Om⟩,Z.lim⟩⟩,?_⟩
  ·rcases hms with e | ⟨-,e⟩<;>rw[e]<;>rfl
  ·rw[bKP]
   intro x hx
   rw[(hrp x hx).1.lim,(hrp x hx).2]
   rfl
  ·rw[bKP]
   rcases hms with rfl | ⟨rfl,rfl⟩
   ·intro j hj
    simp only[bMH,bMD,bLN] at hj
    have:j=0:=by omega
    subst this
    rw[bKM]
    exact⟨eF (by simp) (by simp; omega),by simp⟩
   ·intro j hj
    simp only[bMH,bMD,bLN] at hj
    have:j=0∨j=1:=by omega
    rcases this with rfl | rfl
    ·rw[bKM]
     exact⟨eF (by simp) (by simp; omega),by simp⟩
    ·rw[bKM]
     refine⟨eF (by simp; omega) (by simp; omega),?_⟩
     have:¬ (1-(f:Int)=f):=by omega
     simp[this]
 ·refine⟨by unfold cX; constructor<;>simp only<;>omega,by unfold cX; constructor<;>simp only<;>omega,by unfold cX; constructor<;>simp only<;>omega,?_,?_,⟨?_,fun x hx=>(hrp x hx).1.ok⟩,G.ok,Z.ok⟩
  ·show ms.length≤_
   rcases hms with e | ⟨-,e⟩<;>rw[e]<;>simp
  ·show ∀ x∈ms,cX x
   unfold cX
   rcases hms with e | ⟨h2,e⟩<;>rw[e]<;>intro x hx<;>simp only[bKI,bKR,or_false] at hx
   ·subst hx; omega
   ·rcases hx with rfl | rfl<;>omega
  ·show rp.length≤_
   rw[hrl]; omega
theorem ayA (l:List Nat) {mc:Nat} (h0:0<mc) (h2:mc≤2) (i a:Nat):(lL l mc i a).1.name=[112]++bU i∧jD mc (lL l mc i a).1=true∧(lL l mc i a).1.Ok:=by
 refine⟨rfl,?_⟩
 have hk:=cC l (show 0<2 by decide) a
 have hm:=cC l (show 0<3 by decide) (aF l 2 a).2
 have hh:=cC l (show 0<4 by decide) (aF l 3 (aF l 2 a).2).2
 unfold lL
 simp only
 generalize aF l 2 a=k at *
 generalize aF l 3 k.2=m at *
 generalize aF l 4 m.2=h at *
 have hq:=cC l (Om:0<m.1+1) h.2
 generalize aF l (m.1+1) h.2=q at *
 obtain⟨r1,r2⟩:=aZK l q.2 (max m.1 1)
 generalize jW l q.2 (max m.1 1)=r at *
 have hg:=cC l (show 0<9 by decide) r.2
 generalize aF l 9 r.2=g at *
 obtain⟨n1,e1,b1⟩:=wK l g.2
 generalize gE l g.2=s1 at *
 obtain⟨n2,e2,b2⟩:=wK l s1.2
 generalize gE l s1.2=s2 at *
 obtain⟨n3,e3,b3⟩:=wK l s2.2
 generalize gE l s2.2=s3 at *
 obtain⟨n4,e4,b4⟩:=wK l s3.2
 generalize gE l s3.2=s4 at *
 have hf:=cC l h0 s4.2
 generalize aF l mc s4.2=f at *
 generalize aF l 2 f.2=b at *
 rw[e1,e2,e3,e4]
 refine bxJ Om Om Om Om Om b1 b2 b3 b4 Om Om r1 r2 h2 ⟨f.1,hf,?_⟩
 split
 ·rename_i hmc
  split
  ·exact .inr ⟨by omega,rfl⟩
  ·exact .inl rfl
 ·exact .inl rfl
theorem zQ (l:List Nat) {mc:Nat} (h0:0<mc) (h2:mc≤2) (a:Nat):∀ n,(dK l mc a n).1.length=n∧∀ i (hi:i<(dK l mc a n).1.length),(dK l mc a n).1[i].name=[112]++bU i∧jD mc (dK l mc a n).1[i]=true∧(dK l mc a n).1[i].Ok
 | 0=>⟨rfl,fun i hi=>absurd hi (by simp[dK])⟩
 | n+1=>by
  obtain⟨k1,k2⟩:=zQ l h0 h2 a n
  have e:(dK l mc a (n+1)).1=(dK l mc a n).1++[(lL l mc n (dK l mc a n).2).1]:=rfl
  rw[e]
  refine⟨by simp[k1],qP (P:=fun i (x:cJ)=>x.name=[112]++bU i∧jD mc x=true∧x.Ok) k2 ?_⟩
  rw[k1]
  exact ayA l h0 h2 n _
theorem EQ (l:List Nat) {pc:Nat} (h0:0<pc) (a:Nat):∀ n,(eE l pc a n).1.length=n∧∀ i (hi:i<(eE l pc a n).1.length),(eE l pc a n).1[i].name=[118]++bU i∧∃ p:Nat,(eE l pc a n).1[i].bID=p∧p<pc
 | 0=>⟨rfl,fun i hi=>absurd hi (by simp[eE])⟩
 | n+1=>by
  obtain⟨k1,k2⟩:=EQ l h0 a n
  have e:(eE l pc a (n+1)).1=(eE l pc a n).1++[⟨[118]++bU n,((aF l pc (eE l pc a n).2).1:Nat)⟩]:=rfl
  rw[e]
  refine⟨by simp[k1],qP (P:=fun i (x:eM)=>x.name=[118]++bU i∧∃ p:Nat,x.bID=p∧p<pc) k2 ?_⟩
  rw[k1]
  exact⟨rfl,_,rfl,cC l h0 _⟩
abbrev lvs (ds:List cH):List Int:=ds.map cH.level
def bCG (ds:List cH) (i:Nat) (d:cH):Prop:=∃ lev p u:Nat,d.name=[kT lev]++bU (i+1)∧d.level=lev∧1≤lev∧lev≤4∧d.parent=p∧p≤i∧(lvs ds)[p]?=some ((lev:Int)-1)∧d.bIP=u∧1≤u∧u≤16∧rL d.bIH
def bwF (ds:List cH) (mc i:Nat) (d:cY):Prop:=∃ m c:Nat,d.name=[100]++bU i∧d.model=m∧m<mc∧d.machine=c∧(lvs ds)[c]?=some 4
structure GV (mc bHN:Nat) (s:GS):Prop where
 len:s.bIA.length≤35
 bIO:s.bIO.length≤bHN
 root:s.bIA[0]?=some mH
 dom:∀ i (hi:i+1<s.bIA.length),bCG s.bIA i s.bIA[i+1]
 drv:∀ i (hi:i<s.bIO.length),bwF s.bIA mc i s.bIO[i]
theorem GV.a {mc bHN:Nat} {s:GS} (h:GV mc bHN s) (x:Nat):GV mc bHN { s with a:=x }:=⟨h.len,h.bIO,h.root,h.dom,h.drv⟩
theorem aDX (l:List Nat) {mc bHN dom:Nat} (hmc:0<mc) {s:GS} (h:GV mc bHN s) (hd:(lvs s.bIA)[dom]?=some 4):∀ n,GV mc bHN (jK l mc bHN dom s n)∧(jK l mc bHN dom s n).bIA=s.bIA
 | 0=>⟨h,rfl⟩
 | n+1=>by
  obtain⟨h1,h2⟩:=aDX l hmc h hd n
  simp only[jK]
  generalize jK l mc bHN dom s n=t at *
  split
  ·rename_i hlt
   refine⟨⟨h1.len,by simp only[bJX,bKD]; omega,h1.root,h1.dom,?_⟩,h2⟩
   refine qP (P:=fun i d=>bwF t.bIA mc i d) h1.drv ?_
   exact⟨_,dom,rfl,rfl,cC l hmc _,rfl,by rw[h2]; exact hd⟩
  ·exact⟨h1,h2⟩
theorem RR {ds:List cH} {p:Nat} {x:Int} {t:List cH} (h:(lvs ds)[p]?=some x):(lvs (ds++t))[p]?=some x:=by
 unfold lvs at *
 rw[bLT,bMK]
 ·exact h
 ·exact (bLD.1 h).1
theorem brF (l:List Nat) {mc bHN dom level:Nat} {s:GS} (h:GV mc bHN s) (hl1:1≤level) (hl:level≤4) (hd:(lvs s.bIA)[dom]?=some ((level:Int)-1)) (hf:pA bHN s=false) :
  GV mc bHN (mN l level dom s)∧(∃ t,(mN l level dom s).bIA=s.bIA++t)∧(mN l level dom s).bIA.length=s.bIA.length+1∧(lvs (mN l level dom s).bIA)[s.bIA.length]?=some (level:Int):=by
 unfold pA at hf
 simp only[Bool.or_eq_false_iff,decide_eq_false_iff_not] at hf
 have hdl:dom<s.bIA.length:=by
  have:=(bLD.1 hd).1
  rwa [bJT] at this
 have hu:=cC l (show 0<16 by decide) s.a
 have hk:=cC l (show 0<6 by decide) (aF l 3 (aF l 16 s.a).2).2
 unfold mN
 simp only
 generalize aF l 16 s.a=u at *
 generalize aF l 3 u.2=t at *
 generalize aF l 6 t.2=k at *
 have hsh:rL (if t.1=0 then (mkT 1 ((2+k.1:Nat):Int),k.2) else (jY,t.2)).1:=by
  split
  ·exact (SmF.mk' (a:=1) (b:=2+k.1) Om Om Om).o
  ·exact oV.o
 generalize (if t.1=0 then (mkT 1 ((2+k.1:Nat):Int),k.2) else (jY,t.2))=sh at *
 refine⟨⟨by simp only[bJX,bKD]; omega,h.bIO,?_,?_,fun i hi=>?_⟩,⟨_,rfl⟩,by simp,?_⟩
 ·rw[bMK Om]; exact h.root
 ·intro i hi
  simp only[bJX,bKD] at hi
  by_cases hlt:i+1<s.bIA.length
  ·rw[List.getElem_append_left hlt]
   obtain⟨lev,p,v,h1,h2,h3,h4,h5,h6,h7,h8⟩:=h.dom i hlt
   exact⟨lev,p,v,h1,h2,h3,h4,h5,h6,RR h7,h8⟩
  ·have:i+1=s.bIA.length:=by omega
   rw[List.getElem_append_right Om]
   simp only[List.getElem_singleton]
   exact⟨level,dom,1+u.1,by rw[this],rfl,hl1,hl,rfl,by omega,RR hd,rfl,by omega,by omega,hsh⟩
 ·obtain⟨m,c,h1,h2,h3,h4,h5⟩:=h.drv i hi
  exact⟨m,c,h1,h2,h3,h4,RR h5⟩
 ·unfold lvs
  rw[bLT,bMS (by rw[bJT]; exact bKB _),bJT,Nat.sub_self]
  rfl
theorem aDY (l:List Nat) {mc bHN dom level:Nat} (hl1:1≤level) (hl:level≤4) {rec:Nat→GS→GS}
  (hrec:∀ d t,GV mc bHN t→(lvs t.bIA)[d]?=some (level:Int)→GV mc bHN (rec d t)∧∃ u,(rec d t).bIA=t.bIA++u) {s:GS} (h:GV mc bHN s) (hd:(lvs s.bIA)[dom]?=some ((level:Int)-1)) :
  ∀ n,GV mc bHN (fU l level bHN dom rec s n)∧∃ u,(fU l level bHN dom rec s n).bIA=s.bIA++u
 | 0=>⟨h,[],by simp[fU]⟩
 | n+1=>by
  obtain⟨h1,u,h2⟩:=aDY l hl1 hl hrec h hd n
  simp only[fU]
  generalize fU l level bHN dom rec s n=t at *
  split
  ·exact⟨h1,u,h2⟩
  ·rename_i hf
   have hdt:(lvs t.bIA)[dom]?=some ((level:Int)-1):=by rw[h2]; exact RR hd
   obtain⟨k1,⟨v,k2⟩,k3,k4⟩:=brF l h1 hl1 hl hdt (by simpa using hf)
   obtain⟨m1,w,m2⟩:=hrec ((mN l level dom t).bIA.length-1) (mN l level dom t) k1 (by rw[k3,Nat.add_sub_cancel]; exact k4)
   exact⟨m1,u++(v++w),by rw[m2,k2,h2]; simp⟩
theorem aDZ (l:List Nat) {mc bHN:Nat} (hmc:0<mc):∀ (k:Nat),k≤4→∀ (dom:Nat) {s:GS},GV mc bHN s→(lvs s.bIA)[dom]?=some (4-(k:Int))→GV mc bHN (eK l mc bHN k dom s)∧∃ u,(eK l mc bHN k dom s).bIA=s.bIA++u
 | 0,_,dom,s,h,hd=>by
  simp only[eK]
  obtain⟨h1,h2⟩:=aDX l hmc (h.a (aF l 2 s.a).2) hd (1+(aF l 2 s.a).1)
  exact⟨h1,[],by rw[h2]; simp⟩
 | k+1,hk,dom,s,h,hd=>by
  simp only[eK]
  refine aDY l Om Om (fun d t ht hdt=>aDZ l hmc k Om d ht ?_) (h.a (aF l 2 s.a).2) ?_ _
  ·rw[hdt]; congr 1; omega
  ·rw[hd]; congr 1; omega
theorem aoJ (lev:Nat) (h1:1≤lev) (h4:lev≤4):eN (kT lev).toNat=true∧kT lev≠100:=by
 have:lev=1∨lev=2∨lev=3∨lev=4:=by omega
 rcases this with rfl | rfl | rfl | rfl<;>decide
theorem ahD (c:UInt8) {k:Nat} (hk:k<100):SI (([c]++bU k).drop 1)=k:=by
 show SI (bU k)=k
 rw[MV hk]
 exact (aAX ⟨k,hk⟩).1
theorem aQP {mc bHN:Nat} {s:GS} (h:GV mc bHN s) (hd:bHN≤60):distinct ((s.bIA.drop 1).map cH.name++s.bIO.map cY.name)=true:=by
 have hA:∀ i (hi:i<((s.bIA.drop 1).map cH.name).length),∃ lev:Nat,1≤lev∧lev≤4∧((s.bIA.drop 1).map cH.name)[i]=[kT lev]++bU (i+1):=by
  intro i hi
  rw[bJT,bLS] at hi
  obtain⟨lev,p,u,h1,-,h3,h4,-⟩:=h.dom i Om
  refine⟨lev,h3,h4,?_⟩
  rw[bLI,List.getElem_drop]
  simp only[Nat.add_comm 1 i]
  exact h1
 have hB:∀ i (hi:i<(s.bIO.map cY.name).length),(s.bIO.map cY.name)[i]=[100]++bU i:=by
  intro i hi
  rw[bJT] at hi
  obtain⟨m,c,h1,-⟩:=h.drv i hi
  rw[bLI]; exact h1
 have lA:((s.bIA.drop 1).map cH.name).length≤40:=by rw[bJT,bLS]; have:=h.len; omega
 have lB:(s.bIO.map cY.name).length≤60:=by rw[bJT]; have:=h.bIO; omega
 generalize (s.bIA.drop 1).map cH.name=A at *
 generalize s.bIO.map cY.name=B at *
 refine ST ?_ ?_
 ·intro x hx
  rcases bLQ.1 hx with hx | hx
  ·obtain⟨i,hi,rfl⟩:=bLJ hx
   obtain⟨lev,h1,h4,e⟩:=hA i hi
   rw[e]
   exact alP rfl (aoJ lev h1 h4).1 rfl (by simp) Om
  ·obtain⟨i,hi,rfl⟩:=bLJ hx
   rw[hB i hi]
   exact alP rfl (by decide) rfl (by simp) Om
 ·rw[bMM]
  refine⟨?_,?_,?_⟩
  ·refine NP (g:=fun s=>SI (s.drop 1)-1) fun i hi=>?_
   obtain⟨lev,-,-,e⟩:=hA i hi
   rw[e,ahD _ Om]
   omega
  ·refine NP (g:=fun s=>SI (s.drop 1)) fun i hi=>?_
   rw[hB i hi]
   exact ahD _ Om
  ·intro x hx y hy e
   obtain⟨i,hi,rfl⟩:=bLJ hx
   obtain⟨j,hj,rfl⟩:=bLJ hy
   obtain⟨lev,h1,h4,e1⟩:=hA i hi
   rw[e1,hB j hj] at e
   exact (aoJ lev h1 h4).2 (List.cons.inj e).1
theorem bnT {mc bHN a:Nat}:GV mc bHN ⟨[mH],[],a⟩ :=
 ⟨by simp,bKA _,rfl,fun i hi=>absurd hi (by simp),fun i hi=>absurd hi (by simp)⟩
theorem bsI {mc bHN:Nat} {s:GS} (h:GV mc bHN s) (f:aE) (hf:f.bHR=s.bIA):nB f=true:=by
 have hr:=h.root
 have hdom:=h.dom
 unfold nB
 rw[hf]
 cases hdm:s.bIA with
 | nil=>rw[hdm] at hr; cases hr
 | cons r t =>
  rw[hdm] at hr
  have:r=mH:=by simpa using hr
  subst this
  show zE f mH t=true
  unfold zE
  simp only[bKM]
  refine⟨⟨⟨⟨⟨⟨rfl,rfl⟩,rfl⟩,rfl⟩,oV.lim⟩,by rw[show mH.bIH=jY from rfl,oV.zero]; rfl⟩,?_⟩
  rw[bKP]
  intro i hi
  rw[bLN] at hi
  rw[bKG hi]
  obtain⟨lev,p,u,h1,h2,h3,h4,h5,h6,h7,h8,h9,h10,h11⟩:=hdom i (by rw[hdm]; simp; omega)
  have e:s.bIA[i+1]'(by rw[hdm]; simp; omega)=t[i]:=by simp[hdm]
  rw[e] at h1 h2 h5 h8 h11
  show EZ f i t[i]=true
  unfold EZ
  simp only[bKM]
  refine⟨⟨⟨⟨?_,?_⟩,?_⟩,?_⟩,h11.lim⟩
  ·rw[h5]; exact eF Om Om
  ·rw[h5,h2,hf,bMQ,bKK,h7,aiO Om Om]
   exact decide_eq_true rfl
  ·rw[h2]; exact eF Om Om
  ·rw[h8]; exact eF Om Om
theorem aBU (l:List Nat) (bHN bHQ a:Nat) (hd:bHN≤24) (hv:bHQ≤12) :
  cV (jA l bHN bHQ a).1=true∧(jA l bHN bHQ a).1.Ok:=by
 unfold jA
 simp only
 have he:=cC l (show 0<2 by decide) a
 generalize aF l 2 a=e at *
 have hlw:=cC l (show 0<2 by decide) e.2
 generalize aF l 2 e.2=lw at *
 obtain⟨w1,w2⟩:=TC l lw.2 (1+lw.1)
 generalize gY l lw.2 (1+lw.1)=bHY at *
 have hmd:=cC l (show 0<2 by decide) bHY.2
 generalize aF l 2 bHY.2=md at *
 obtain⟨m1,m2⟩:=LE l (1+lw.1) Om md.2 (1+md.1)
 generalize eD l (1+lw.1) md.2 (1+md.1)=bHO at *
 obtain⟨G,-⟩:=aDZ l (mc:=1+md.1) (bHN:=bHN) Om 4 (by decide) 0 (s:=⟨[mH],[],bHO.2⟩) bnT rfl
 generalize eK l (1+md.1) bHN 4 0 ⟨[mH],[],bHO.2⟩=g at *
 have hpl:=cC l (show 0<2 by decide) g.a
 generalize aF l 2 g.a=pl at *
 obtain⟨p1,p2⟩:=zQ l (mc:=1+md.1) Om Om pl.2 (1+pl.1)
 generalize dK l (1+md.1) pl.2 (1+pl.1)=pols at *
 have hvo:=cC l (Om:0<bHQ+1) pols.2
 generalize aF l (bHQ+1) pols.2=vo at *
 obtain⟨v1,v2⟩:=EQ l (pc:=1+pl.1) Om vo.2 vo.1
 generalize eE l (1+pl.1) vo.2 vo.1=vols at *
 have g1:=G.len
 have g2:=G.bIO
 have hdp:∀ f:aE,f.bHR=g.bIA→nB f=true:=fun f hf=>bsI G f hf
 have bJE:∀ n:Nat,n≤1000→n≤9223372036854775807:=fun n h=>by omega
 have hdrv:∀ x∈g.bIO,∃ m c:Nat,x.model=m∧m<1+md.1∧x.machine=c∧c<g.bIA.length∧(lvs g.bIA)[c]?=some 4:=by
  intro x hx
  obtain⟨i,hi,rfl⟩:=bLJ hx
  obtain⟨m,c,-,h2,h3,h4,h5⟩:=G.drv i hi
  refine⟨m,c,h2,h3,h4,?_,h5⟩
  have:=(bLD.1 h5).1
  rwa [bJT] at this
 constructor
 ·unfold cV
  rw[hdp _ rfl]
  simp only[bKM,bMF]
  refine⟨⟨?_,⟨⟨⟨⟨?_,?_⟩,?_⟩,?_⟩,?_⟩⟩,⟨⟨⟨?_,?_⟩,aQP G Om⟩,?_⟩,?_⟩
  ·unfold mS
   simp only[bKM]
   exact⟨⟨⟨⟨⟨⟨eF Om Om,decide_eq_true Om⟩,decide_eq_true Om⟩,decide_eq_true Om⟩,decide_eq_true Om⟩,decide_eq_true Om⟩,decide_eq_true Om⟩
  ·exact wY fun i hi=>(w2 i hi).2.1
  ·refine wY fun i hi=>?_
   obtain⟨-,x,y,z,e1,e2,e3,e4,e5,e6,e7,e8⟩:=m2 i hi
   unfold jV
   simp only[bKM]
   rw[e1,e4,e7,w1]
   exact⟨⟨eF Om Om,eF Om Om⟩,eF Om Om⟩
  ·rw[bKP]
   intro x hx
   obtain⟨m,c,e1,e2,e3,e4,e5⟩:=hdrv x hx
   unfold hJ
   simp only[bKM]
   rw[e1,e3,m1,bMQ,bKK,e5]
   exact⟨⟨eF Om Om,eF Om Om⟩,rfl⟩
  ·refine wY fun i hi=>?_
   rw[m1]; exact (p2 i hi).2.1
  ·refine wY fun i hi=>?_
   obtain⟨-,p,e1,e2⟩:=v2 i hi
   unfold nF
   rw[e1,p1]
   exact eF Om Om
  ·refine rT (p:=[108,97,119]) rfl (by decide) (by decide) (by decide) (by rw[bJT]; omega) fun i hi=>?_
   rw[bLI]; exact (w2 i (by simpa using hi)).1
  ·refine rT (p:=[109]) rfl (by decide) (by decide) (by decide) (by rw[bJT]; omega) fun i hi=>?_
   rw[bLI]; exact (m2 i (by simpa using hi)).1
  ·refine rT (p:=[112]) rfl (by decide) (by decide) (by decide) (by rw[bJT]; omega) fun i hi=>?_
   rw[bLI]; exact (p2 i (by simpa using hi)).1
  ·refine rT (p:=[118]) rfl (by decide) (by decide) (by decide) (by rw[bJT]; omega) fun i hi=>?_
   rw[bLI]; exact (v2 i (by simpa using hi)).1
 ·refine⟨bJE bHY.1.length Om,bJE bHO.1.length Om,bJE g.bIA.length Om,bJE g.bIO.length Om,bJE pols.1.length Om,bJE vols.1.length Om,?_,?_,?_,?_,?_⟩
  ·intro x hx
   obtain⟨i,hi,rfl⟩:=bLJ hx
   exact (w2 i hi).2.2
  ·intro x hx
   obtain⟨i,hi,rfl⟩:=bLJ hx
   rcases bLU i with rfl | hp
   ·have:g.bIA[0]=mH:=by have:=G.root; rw[bKG hi] at this; exact bMC.inj this
    rw[this]
    exact⟨oV.ok,by unfold cX; decide,by unfold cX; decide⟩
   ·obtain⟨k,rfl⟩:∃ k,i=k+1:=⟨i-1,by omega⟩
    obtain⟨lev,p,u,h1,h2,h3,h4,h5,h6,h7,h8,h9,h10,h11⟩:=G.dom k hi
    have hi':k+1<g.bIA.length:=hi
    rw[h2,h5]
    exact⟨h11.ok,by unfold cX; omega,by unfold cX; omega⟩
  ·intro x hx
   obtain⟨m,c,e1,e2,e3,e4,e5⟩:=hdrv x hx
   rw[e1,e3]
   unfold cX; omega
  ·intro x hx
   obtain⟨i,hi,rfl⟩:=bLJ hx
   exact (p2 i hi).2.2
  ·intro x hx
   obtain⟨i,hi,rfl⟩:=bLJ hx
   obtain⟨-,p,e1,e2⟩:=v2 i hi
   rw[e1]
   unfold cX; omega

theorem beE {C:Ctx} (c:eG C) (hi:vE C):aAB C :=
 {beD c hi with
  grow:=fun l v T mc bHN h0 h1 h2=>aEA (beD c hi) T mc bHN h0 h1 h2 (fun args H R hl h=>c.r7 args H R (by rw[hl]; decide) h) 4 (bKB _) }
theorem bxC {C:Ctx} (c:eG C) (hi:vE C):bbF C :=
 {beE c hi with
  new:=fun l hb hl=>c.r28.go (btI l hb hl) rfl
  fleet:=fun l v T o bHN bHQ a hdr hvo ha=>LL.exact (c.r0.go (bdZ (beE c hi) T o bHN bHQ a hdr hvo ha) rfl) }
theorem acC {C:Ctx} (c:eG C) (hi:vE C):LM C :=
 {at_:=fun f hf d level=>(c.r147.go (bxZ (agM c) f hf d level) rfl).seen
  child:=fun f hf d=>(c.r148.go (bgY (agM c) f hf d) rfl).seen
  bHN:=fun f hf d=>(c.r149.go (a9P (agM c) f hf d) rfl).seen
  holds:=fun f l room hf hl=>(c.r150.go (bhB (bqQ c) f hf l hl room) rfl).seen
  loads:=fun f l hf hl=>(c.r151.go (bgR (agN c) f hf l hl) rfl).seen
  room:=(agN c).room
  shaped:=fun f l hf hl=>(c.r153.go (a9N (bhG c) f hf l hl) rfl).seen
  viol:=(bqQ c).viol
  fleet:=fun l hb hl bHN bHQ hdr hvo=>(c.r27.go (bdW (bxC c hi) l hb hl bHN bHQ hdr hvo) rfl).seen }
theorem blI {C:Ctx} (c:eG C) (hi:vE C):aI C 20 [] .nil (aD (.bool true)) :=
 c.r20.go (bcU (acC c hi) (c.r23.go (bdT (acC c hi)) rfl)) rfl
end Go.PM
