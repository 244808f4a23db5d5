/-
  Texts of ours, joined: MkPlain MkW1 Pm35 Pm36 MkW2 MkW3 MkW4 MkW5 MkW6 MkW7 MkW8 MkW9 MkW10 MkW11 MkW12 MkW13 MkW14 MkW15 MkW16 L11W1 R2Code R2W1 R2W2 R2W3 R2W4 R2W5 R2W6 R2W7 R2W8 Jn1 Jn2 L11P1 L11W2 L11W3 Mv1 Mv2. No condition.
-/
import Derived.Test.YtelckcmlobadkaaGreatDoorMd1
import Derived.Test.YtelckcmlobadkaaGreatDoorMd2
import Derived.Test.YtelckcmlobadkaaGreatDoorMd3
import Derived.Lib.ItoaNum
set_option linter.unusedSimpArgs false
set_option linter.unusedVariables false
open Nat renaming reduceEqDiff → γ, reduceAdd → δ, reduceSub → ε, reduceMul → ζ, reduceLT → η, reduceLeDiff → θ, reduceBEq → τ
open Int renaming reduceLT → ι, reduceLE → κ, reduceEq → μ, reduceToNat → ν, reduceAdd → ξ, reduceNeg → ο, reduceBEq → ρ, reduceBNe → σ
open List renaming reduceReplicate → υ
open List renaming length_map → bKY, range → bKZ, length_append → bLC, replicate → bLD, getElem_mem → bLF, length_singleton → bLH, getElem?_eq_getElem → bLL, mem_cons → bLO, getD_eq_getElem?_getD → bLP, take_of_length_le → bLQ, length_take → bLR, all_eq_true → bLU, not_mem_nil → bLW, take_length → bLZ, append_assoc → bMA, drop_zero → bMD, mem_map → bMF, getElem?_map → bMH, map_cons → bMI, getElem?_eq_none → bML, getElem?_eq_some_iff → bMM, getElem_map → bMN, getElem_of_mem → bMO, append_nil → bMP, mem_range → bMQ, mem_append → bMT, drop_eq_getElem_cons → bMU, map_append → bMW, Sublist → bMX, length_drop → bMY, map_nil → bMZ, take_succ_eq_append_getElem → bNC, length_nil → bNJ, length_set → bNL, length_cons → bNM, mem_of_getElem? → bNO, take_append_drop → bNP, nodup_append → bNQ, getElem?_append_left → bNV, ext_getElem → bNW, getElem?_append_right → bNX, getElem?_take → bNZ, set_append_right → bOA, drop_of_length_le → bOG
open Nat renaming gcd → bLA, zero_le → bLE, le_refl → bLG, mul_add → bLM, lt_or_ge → bLS, mul_assoc → bLV, zero_add → bLX, mul_comm → bLY, add_mul → bMB, mul_le_mul_right → bMC, mod_eq_of_lt → bMG, mod_lt → bMJ, pow_succ → bMR, add_zero → bMV, eq_zero_or_pos → bNA, min_eq_left → bNB, add_assoc → bND, le_trans → bNE, mul_le_mul_left → bNF, pos_of_ne_zero → bNG, pow_pos → bNN, div_lt_iff_lt_mul → bNR, div_le_self → bNY, div_add_mod → bOB, div_eq_of_lt → bOC
open Bool renaming not_true → bLB, false_and → bLI, not_false → bLK, true_and → bLN, and_eq_true → bLT, and_false → bMK, and_true → bNK, and_assoc → bNT, false_eq_true → bOF
open Option renaming map_eq_some_iff → bLJ, map_some → bME, getD_some → bNH, some → bNI, bind_eq_some_iff → bOD, bind_some → bOH
open Array renaming replicate → bMS, length_toList → bNS, getElem?_eq_getElem → bOE, getElem?_eq_some_iff → bOI
open Int renaming toNat_natCast → bNU
namespace Go.PM
open Go Go.Na
def aC (l:List Nat) (n a:Nat):Nat × Nat:=if l.length≤a∨n<2 then (0,a) else (l.getD a 0%n,a+1)
theorem bT (l:List Nat) {n:Nat} (h:0<n) (a:Nat):(aC l n a).1<n:=by
 unfold aC
 split
 ·exact h
 ·exact bMJ _ h
theorem bK (l:List Nat) (n:Nat) {a:Nat} (h:a≤l.length):(aC l n a).2≤l.length:=by
 unfold aC
 split
 ·exact h
 ·simp only; omega
def fA (l:List Nat) (a:Nat):RF × Nat :=
 let x:=aC l 6 a
 let y:=aC l 8 x.2
 (mkT ((1+x.1:Nat):Int) ((1+y.1:Nat):Int),y.2)
abbrev kE:RF:=mkT 0 1
def iY (l:List Nat) (i j a:Nat):RF × Nat :=
 if j=i+1 then fA l a
 else if j=i then (kE,a)
 else let t:=aC l 3 a
  if t.1=0 then fA l t.2 else (kE,t.2)
def dJ (l:List Nat) (i a:Nat):Nat→List RF × Nat
 | 0=>([],a)
 | j+1=>let s:=dJ l i a j
  let z:=iY l i j s.2
  (s.1++[z.1],z.2)
structure BH where
 start:List RF
 exit:List RF
 bIY:List (List RF)
 left:Nat
 a:Nat
def dH (l:List Nat) (n i:Nat) (s:BH):Nat × Nat:=if i+1<n then aC l (s.left+1) s.a else (s.left,s.a)
def eS (l:List Nat) (n i a:Nat):RF × Nat :=
 let e:=fA l a
 if i+1<n then (let t:=aC l 3 e.2; (if t.1=0 then kE else e.1,t.2)) else e
def fO (l:List Nat) (n a:Nat):Nat→BH
 | 0=>⟨[],[],[],8,a⟩
 | i+1=>let s:=fO l n a i
  let k:=dH l n i s
  let e:=eS l n i k.2
  let r:=dJ l i e.2 n
  ⟨s.start++[mkT (k.1:Nat) 8],s.exit++[e.1],s.bIY++[r.1],s.left-k.1,r.2⟩
def qA (l:List Nat) (dX a:Nat):bZ × Nat :=
 let t:=aC l dX a
 let s:=fO l (1+t.1) t.2 (1+t.1)
 (⟨[],s.start,s.bIY,s.exit⟩,s.a)
def kB (l:List Nat) (a:Nat):Nat→List RF × Nat
 | 0=>([],a)
 | k+1=>let s:=kB l a k
  let z:=fA l s.2
  (s.1++[z.1],z.2)
abbrev bV (n:Nat):List UInt8:=Lib.decDigits n
def gP (l:List Nat) (a:Nat):Nat→List bZ × Nat
 | 0=>([],a)
 | k+1=>let s:=gP l a k
  let z:=qA l 2 s.2
  (s.1++[{ z.1 with name:=[108,97,119]++bV k }],z.2)
def eE (l:List Nat) (bJD a:Nat):Nat→List cL × Nat
 | 0=>([],a)
 | k+1=>let s:=eE l bJD a k
  let x:=aC l 4 s.2
  let y:=aC l 8 x.2
  let z:=aC l bJD y.2
  (s.1++[⟨[109]++bV k,(1+x.1:Nat),(1+y.1:Nat),(z.1:Nat)⟩],z.2)
structure GS where
 bJF:List cI
 bJT:List dB
 a:Nat
def jO (l:List Nat) (mc bIS domain:Nat) (s:GS):Nat→GS
 | 0=>s
 | i+1=>let s:=jO l mc bIS domain s i
  if s.bJT.length<bIS then
   let t:=aC l mc s.a
   { s with bJT:=s.bJT++[⟨[100]++bV s.bJT.length,(t.1:Nat),(domain:Nat)⟩],a:=t.2 }
  else s
def kY (level:Nat):UInt8:=match level with
 | 0=>45
 | 1=>115
 | 2=>114
 | 3=>107
 | _=>109
def mW (l:List Nat) (level domain:Nat) (s:GS):GS :=
 let u:=aC l 16 s.a
 let t:=aC l 3 u.2
 let k:=aC l 6 t.2
 let sh:RF × Nat:=if t.1=0 then (mkT 1 ((2+k.1:Nat):Int),k.2) else (kE,t.2)
 { s with bJF:=s.bJF++[⟨[kY level]++bV s.bJF.length,(level:Nat),(domain:Nat),(1+u.1:Nat),sh.1⟩],a:=sh.2 }
def pL (bIS:Nat) (s:GS):Bool:=decide (bIS≤s.bJT.length)||decide (35≤s.bJF.length)
def fW (l:List Nat) (level bIS domain:Nat) (rec:Nat→GS→GS) (s:GS):Nat→GS
 | 0=>s
 | i+1=>let s:=fW l level bIS domain rec s i
  if pL bIS s then s else (let s':=mW l level domain s; rec (s'.bJF.length-1) s')
def eM (l:List Nat) (mc bIS:Nat):Nat→Nat→GS→GS
 | 0,domain,s=>let t:=aC l 2 s.a
  jO l mc bIS domain { s with a:=t.2 } (1+t.1)
 | k+1,domain,s=>let t:=aC l 2 s.a
  fW l (4-k) bIS domain (eM l mc bIS k) { s with a:=t.2 } (if 4-k=2 then 1 else 1+t.1)
def mF:cI:=⟨[],0,-1,0,kE⟩
def gQ (l:List Nat) (a:Nat):Int × Nat :=
 let t:=aC l 3 a
 let k:=aC l 3 t.2
 if t.1=0 then ((1+k.1:Nat),k.2) else (0,t.2)
def lP (l:List Nat) (bIT i a:Nat):cJ × Nat :=
 let k:=aC l 2 a
 let m:=aC l 3 k.2
 let h:=aC l 4 m.2
 let q:=aC l (m.1+1) h.2
 let r:=kB l q.2 (max m.1 1)
 let g:=aC l 9 r.2
 let s1:=gQ l g.2
 let s2:=gQ l s1.2
 let s3:=gQ l s2.2
 let s4:=gQ l s3.2
 let f:=aC l bIT s4.2
 let b:=aC l 2 f.2
 let ms:List Int × Nat:=if 1<bIT then (if b.1=0 then ([(f.1:Int),1-(f.1:Int)],b.2) else ([(f.1:Int)],b.2)) else ([(f.1:Int)],f.2)
 (⟨[112]++bV i,(1+k.1:Nat),(m.1:Nat),(1+k.1+q.1:Nat),0,s1.1,s2.1,s3.1,s4.1,ms.1,r.1,mkT (g.1:Nat) 8,mkT ((1+h.1:Nat):Int) 1⟩,ms.2)
def dL (l:List Nat) (bIT a:Nat):Nat→List cJ × Nat
 | 0=>([],a)
 | k+1=>let s:=dL l bIT a k
  let z:=lP l bIT k s.2
  (s.1++[z.1],z.2)
def eF (l:List Nat) (pols a:Nat):Nat→List eN × Nat
 | 0=>([],a)
 | k+1=>let s:=eF l pols a k
  let z:=aC l pols s.2
  (s.1++[⟨[118]++bV k,(z.1:Nat)⟩],z.2)
def fY (l:List Nat) (bIS bIV a:Nat):aD × Nat :=
 let e:=aC l 2 a
 let lw:=aC l 2 e.2
 let bJD:=gP l lw.2 (1+lw.1)
 let md:=aC l 2 bJD.2
 let bIT:=eE l (1+lw.1) md.2 (1+md.1)
 let g:=eM l (1+md.1) bIS 4 0 ⟨[mF],[],bIT.2⟩
 let pl:=aC l 2 g.a
 let pols:=dL l (1+md.1) pl.2 (1+pl.1)
 let vo:=aC l (bIV+1) pols.2
 let vols:=eF l (1+pl.1) vo.2 vo.1
 (⟨(1+e.1:Nat),bJD.1,bIT.1,g.bJF,g.bJT,pols.1,vols.1⟩,vols.2)
def mE (l:List Nat) (a:Nat):Nat→List Int × Nat
 | 0=>([],a)
 | k+1=>let s:=mE l a k
  let z:=aC l 7 s.2
  (s.1++[(z.1:Int)-1],z.2)
def mR (l:List Nat) (f:aD) (a:Nat):List Int × Nat :=
 let t:=aC l 4 a
 if t.1=0 then ([],t.2) else mE l t.2 f.bIS.length
def oM (l:List Nat) (bIS at_ i a:Nat):Int × Nat :=
 if bIS=0 then (-1,a) else
  let t:=aC l 6 a
  if t.1=0 then (let z:=aC l bIS t.2; ((z.1:Int),z.2))
  else if t.1=1 then (let z:=aC l (bIS+1) t.2; ((z.1:Int)-1,z.2))
  else (((at_+i)%bIS:Nat),t.2)
def kD (l:List Nat) (bIS at_ a:Nat):Nat→List Int × Nat
 | 0=>([],a)
 | i+1=>let s:=kD l bIS at_ a i
  let z:=oM l bIS at_ i s.2
  (s.1++[z.1],z.2)
def cR (l:List Nat) (f:aD) (a:Nat):Nat→List (List Int) × Nat
 | 0=>([],a)
 | v+1=>let s:=cR l f a v
  let t:=aC l (f.bIS.length+1) s.2
  let r:=kD l f.bIS.length t.1 t.2 (eZ f v).toNat
  (s.1++[r.1],r.2)
abbrev jW (l:List Nat):List (List PV):=l.map fun (n:Nat)=>[PV.int .u8 (n:Int)]
theorem RM (l:List Nat):(jW l).length=l.length:=by simp
theorem bqK (l:List Nat) {i:Nat} (h:i<l.length):(jW l)[i]?=some [.int .u8 (l[i]:Nat)]:=by simp[h]
abbrev aW (v:PV) (a:Nat):cD:=.rows 2 [[v,.int .i64 a]]
structure Tp (l:List Nat) (v:PV):Prop where
 seen:Seen 1 v (jW l)
 byte:∀ x∈l,x<256
 len:l.length≤400
def aBS (l:List Nat) (r:PV) (H:PH):Prop:=∃ o v,r=.ptr o 2 0 0∧Tp (l.take 400) v∧H=PH.nil.set o (aW v 0)
theorem azO {t q s:Nat} {rs:List (List PV)} {F:PF} {H H2:PH} {R:PV→PH→Prop} {v:PV} {e:mO} (he:e=.normal∨e=.ret) (ht:F t=some v) (hq:H q=some (.rows s rs)) (hH:H2.le (H.frz q s rs)) (hR:R (PV.frz q s rs v) H2):aS [.tmp t] R e F H:=by
 have key:∃ vs,eC.evs F H [.tmp t]=some vs∧∃ F1 H1 H2,jU (PF.nil.set 0 (bF vs)) H F1 H1∧H2.le H1∧∃ u,F1 0=some u∧R u H2:=by
  refine⟨[v],by rw[lI,oE,ht,pU],_,_,H2,.step q hq (.refl _ _),hH,PV.frz q s rs v,?_,hR⟩
  rw[sH,nB,if_pos rfl,bME]
  rfl
 rcases he with rfl | rfl<;>exact key
theorem buK {C:Ctx} (l:List Nat) (hb:∀ x∈l,x<256) (hl:l.length≤9223372036854775807):OH.wp C (aS a9E.res (aBS l)) (PF.args [.sl 1 (jW l)]) .nil:=by
 simp only[go_sem,γ,reduceCtorEq,OH,aYX,aYY,a9E,bKY]
 have fin:∀ F:PF,F 0=some (.sl 1 (jW (l.take 400)))→aB.wp C (.seq (.region amW) .ret) (aS [.tmp 2] (aBS l)) F .nil:=by
  intro F f0
  have htl:(l.take 400).length≤400:=by rw[bLR]; omega
  have hbt:∀ x∈l.take 400,x<256:=fun x hx=>hb x (List.mem_of_mem_take hx)
  have hR:∀ o v,Seen 1 v (jW (l.take 400))→aBS l (.ptr o 2 0 0) (PH.nil.set o (aW v 0)):=fun o v hv=>⟨o,v,rfl,⟨hv,hbt,htl⟩,rfl⟩
  generalize hL:l.take 400=L at *
  simp only[go_sem,δ,γ,θ,amW,f0]
  refine zN (src:=jW L) rfl ?_ (fun h=>?_) fun h o ho=>?_
  ·unfold roomFor
   rw[RM]
   simp only[maxLen]; omega
  ·simp only[go_sem,δ,γ,bLO,bLW,or_false,forall_eq]
   refine aN fun o ho=>?_
   simp only[go_sem,γ]
   exact aV (vs:=[.ptr o 2 0 0]) (.inr rfl) (PH.nil.set o (aW .bIU 0)) rfl PH.le_refl (hR o .bIU (.inl ⟨h,rfl⟩))
  ·simp only[go_sem,δ,γ,bLO,bLW,or_false,forall_eq]
   refine aN fun p hp=>?_
   have hne:¬ p=o:=(iU.1 hp).1
   have bJZ:¬ o=p:=fun h=>hne h.symm
   simp only[go_sem,γ]
   refine azO (v:=.ptr p 2 0 0) (q:=o) (s:=1) (rs:=jW L) (H2:=PH.nil.set p (aW (.sl 1 (jW L)) 0)) (.inr rfl) rfl (by simp only[go_sem,bJZ]) (PH.aG PH.nil_le ?_) (hR p _ (.inr rfl))
   have h2:(jW L).take L.length=jW L:=bLQ (by rw[RM]; exact bLG _)
   simp only[go_sem,hne,cD.frz,PV.dN,bKY,h2]
   rfl
 simp only[aB.wp,go_sem] at fin
 by_cases c:l.length>400
 ·have c':((l.length:Nat):Int)>400:=by omega
  have c2:(400:Int)≤((l.length:Nat):Int):=by omega
  simp only[go_sem,κ,ν,γ,reduceCtorEq,c',aYZ,bKY,c2]
  refine fin _ ?_
  rw[nB,if_pos rfl]
  simp[jW]
 ·have c':¬ ((l.length:Nat):Int)>400:=by omega
  simp only[go_sem,c']
  refine fin _ ?_
  rw[bLQ Om]
  simp only[go_sem,reduceCtorEq]
def abM (l:List Nat) (v:PV) (o n a:Nat) (r:PV) (H:PH):Prop:=r=.int .i64 ((aC l n a).1:Nat)∧H=PH.nil.set o (aW v (aC l n a).2)
theorem bnU {C:Ctx} {l:List Nat} {v:PV} (T:Tp l v) (o n a:Nat) (hn:n≤1000000) (ha:a≤l.length):wP.wp C (aS aeZ.res (abM l v o n a)) (PF.args [.ptr o 2 0 0,.int .i64 n]) (PH.nil.set o (aW v a)):=by
 obtain⟨hv,hb,hl⟩:=T
 have zero:(l.length≤a∨n<2)→∀ F,aB.wp C (.seq (.region YV) .ret) (aS [.tmp 4] (abM l v o n a)) F (PH.nil.set o (aW v a)):=by
  intro h F
  have e:aC l n a=(0,a):=by unfold aC; rw[if_pos h]
  simp only[go_sem,YV]
  exact aV (vs:=[.int .i64 0]) (.inr rfl) _ rfl PH.le_refl ⟨by rw[e]; rfl,by rw[e]⟩
 simp only[aB.wp,go_sem] at zero
 rcases hv with ⟨h1,rfl⟩ | rfl
 ·have h0:l.length=0:=by rw[← RM,h1]; rfl
  have hge:(a:Int)≥0:=by omega
  simp only[go_sem,wP,YU,aeZ]
  refine bM .nil dK PH.nil_le ?_
  simp only[go_sem,δ,γ,θ,reduceCtorEq,IF,hge]
  exact zero (.inl Om) _
 simp only[go_sem,wP,YU,aeZ]
 refine bM .nil dK PH.nil_le ?_
 by_cases c1:l.length≤a
 ·have c1':(a:Int)≥(l.length:Nat):=by omega
  simp only[go_sem,δ,γ,θ,reduceCtorEq,IF,bKY,c1']
  exact zero (.inl c1) _
 have c1':¬ (a:Int)≥(l.length:Nat):=by omega
 simp only[go_sem,δ,γ,θ,reduceCtorEq,IF,bKY,c1']
 by_cases c2:n<2
 ·have c2':(n:Int)<2:=by omega
  simp only[go_sem,c2']
  exact zero (.inr c2) _
 have c2':¬ (n:Int)<2:=by omega
 have hal:a<l.length:=by omega
 have e:aC l n a=(l[a]%n,a+1):=by
  unfold aC
  rw[if_neg Om]
  simp[bLP,hal]
 have ew:IntKind.i64.wrap ((a:Int)+1)=((a+1:Nat):Int):=cY Om
 have ep:IntKind.i64.wrap (((a+1:Nat):Int)-1)=((a:Nat):Int):=by rw[wrap_i64 Om Om]; omega
 have hr:=bqK l hal
 have hx:=hb _ (bLF hal)
 have eb:IntKind.i64.wrap ((l[a]:Nat):Int)=((l[a]:Nat):Int):=aaV Om
 have hn0:¬ ((n:Nat):Int)=0:=by omega
 have em:Int.tmod ((l[a]:Nat):Int) ((n:Nat):Int)=((l[a]%n:Nat):Int):=rfl
 simp only[go_sem,δ,γ,reduceCtorEq,c2',aJD,ew]
 refine bM .nil dK PH.nil_le ?_
 simp only[go_sem,δ,γ,θ,reduceCtorEq,aJE,ep,hr,eb,hn0,em]
 exact aV (vs:=[.int .i64 (l[a]%n:Nat)]) (.inr rfl) _ rfl PH.le_refl ⟨by rw[e]; rfl,by rw[e]⟩
def PV.oid:PV→Option Nat
 | .osl q _ _ _=>some q
 | _=>none
abbrev LI:=PV × Nat × List (List PV)
abbrev BX:=Nat × cD
def eJ (B:List BX):List Nat:=B.map (·.1)
def dW (L:List LI):List Nat:=L.filterMap fun x=>x.1.oid
structure aQ (H:PH) (B:List BX) (L:List LI):Prop where
 box:∀ b∈B,H b.1=some b.2
 lst:∀ x∈L,aY H x.2.1 x.1 x.2.2
 nd:(eJ B++dW L).Nodup
section
variable {C:Ctx} {H:PH} {B:List BX} {L:List LI} {K:PV→PH→Prop}
theorem aY.id {s q:Nat} {v:PV} {rows:List (List PV)} (h:aY H s v rows) (hq:v.oid=some q):∃ rs,H q=some (.rows s rs)∧v=.osl q s 0 rows.length∧rows.length≤rs.length∧rs.take rows.length=rows:=by
 rcases h with ⟨_,rfl⟩ | ⟨p,rs,rfl,h1,h2,h3⟩
 ·cases hq
 ·cases hq
  exact⟨rs,h1,rfl,h2,h3⟩
theorem aY.same {s:Nat} {v:PV} {rows:List (List PV)} {H':PH} (h:aY H s v rows) (hk:∀ q,v.oid=some q→H' q=H q):aY H' s v rows:=by
 rcases h with h | ⟨p,rs,rfl,h1,h2,h3⟩
 ·exact .inl h
 ·exact .inr ⟨p,rs,rfl,by rw[hk p rfl]; exact h1,h2,h3⟩
theorem lG {x:LI} {q:Nat} (h:x∈L) (hq:x.1.oid=some q):q∈dW L:=List.mem_filterMap.2 ⟨x,h,hq⟩
theorem tU {b:BX} (h:b∈B):b.1∈eJ B:=bMF.2 ⟨b,h,rfl⟩
theorem aQ.nil:aQ H [] []:=⟨by simp,by simp,by simp[eJ,dW]⟩
theorem aQ.at (h:aQ H B L) (i:Nat) {o:Nat} {x:cD} (hi:B[i]?=some (o,x)):H o=some x:=h.box _ (bNO hi)
theorem aQ.own (h:aQ H B L) (i:Nat) {s:Nat} {v:PV} {rows:List (List PV)} (hi:L[i]?=some (v,s,rows)):aY H s v rows:=h.lst _ (bNO hi)
theorem aQ.ndB (h:aQ H B L):(eJ B).Nodup:=(bNQ.1 h.nd).1
theorem aQ.ndL (h:aQ H B L):(dW L).Nodup:=(bNQ.1 h.nd).2.1
theorem aQ.ndX (h:aQ H B L) {o q:Nat} (ho:o∈eJ B) (hq:q∈dW L):o≠q:=(bNQ.1 h.nd).2.2 o ho q hq
theorem aQ.ne (h:aQ H B L) (i j:Nat) {o p:Nat} {x y:cD} (hi:B[i]?=some (o,x)) (hj:B[j]?=some (p,y)) (hij:i≠j):o≠p:=by
 intro e
 have h1:(eJ B)[i]?=some o:=by unfold eJ; rw[bMH,hi]; rfl
 have h2:(eJ B)[j]?=some p:=by unfold eJ; rw[bMH,hj]; rfl
 obtain⟨li,e1⟩:=bMM.1 h1
 obtain⟨lj,e2⟩:=bMM.1 h2
 have hp:=List.pairwise_iff_getElem.1 h.ndB
 rcases Nat.lt_or_gt_of_ne hij with g | g
 ·exact hp i j li lj g (by rw[e1,e2,e])
 ·exact hp j i lj li g (by rw[e1,e2,e])
theorem aQ.neL (h:aQ H B L) (i j:Nat) {o q:Nat} {x:cD} {y:LI} (hi:B[i]?=some (o,x)) (hj:L[j]?=some y) (hq:y.1.oid=some q):o≠q :=
 h.ndX (tU (bNO hi)) (lG (bNO hj) hq)
theorem aQ.fresh (h:aQ H B L) {o:Nat} (ho:H o=none):o ∉ eJ B∧o ∉ dW L:=by
 refine⟨fun hm=>?_,fun hm=>?_⟩
 ·obtain⟨b,hb,rfl⟩:=bMF.1 hm
  rw[h.box b hb] at ho; cases ho
 ·obtain⟨x,hx,e⟩:=List.mem_filterMap.1 hm
  obtain⟨rs,h1,_⟩:=(h.lst x hx).id e
  rw[h1] at ho; cases ho
theorem aQ.keep (h:aQ H B L) {H':PH} (hk:∀ q,q∈eJ B∨q∈dW L→H' q=H q):aQ H' B L :=
 ⟨fun b hb=>by rw[hk _ (.inl (tU hb))]; exact h.box b hb,fun x hx=>(h.lst x hx).same fun q hq=>hk q (.inr (lG hx hq)),h.nd⟩
theorem bmP {i:Nat} {o:Nat} {x y:cD} (hi:B[i]?=some (o,x)):eJ (B.set i (o,y))=eJ B:=by
 unfold eJ
 rw[List.map_set]
 refine List.ext_getElem? fun j=>?_
 rw[List.getElem?_set]
 split
 ·rename_i e
  subst e
  rw[bMH,hi]
  have:=(bMM.1 hi).1
  simp[this]
 ·rfl
theorem aQ.set (h:aQ H B L) (i:Nat) {o:Nat} {x:cD} (hi:B[i]?=some (o,x)) (y:cD):aQ (H.set o y) (B.set i (o,y)) L:=by
 have hoB:o∈eJ B:=tU (bNO hi)
 refine⟨fun b hb=>?_,fun z hz=>(h.lst z hz).same fun q hq=>?_,by rw[bmP hi]; exact h.nd⟩
 ·obtain⟨j,hj⟩:=List.mem_iff_getElem?.1 hb
  rw[List.getElem?_set] at hj
  split at hj
  ·split at hj
   ·cases hj; simp only[bB,if_true]
   ·cases hj
  ·rename_i hne
   have:b.1≠o:=fun e=>h.ne i j hi (show B[j]?=some (b.1,b.2) from hj) hne e.symm
   rw[bB,if_neg this]
   exact h.box b (bNO hj)
 ·have:q≠o:=fun e=>h.ndX hoB (lG hz hq) e.symm
  rw[bB,if_neg this]
theorem aQ.new (h:aQ H B L) {o:Nat} (ho:H o=none) (y:cD):aQ (H.set o y) (B++[(o,y)]) L:=by
 obtain⟨f1,f2⟩:=h.fresh ho
 refine⟨fun b hb=>?_,fun z hz=>(h.lst z hz).same fun q hq=>?_,?_⟩
 ·rw[bMT,List.mem_singleton] at hb
  rcases hb with hb | rfl
  ·have:b.1≠o:=fun e=>f1 (e ▸ tU hb)
   rw[bB,if_neg this]; exact h.box b hb
  ·simp only[bB,if_true]
 ·have:q≠o:=fun e=>f2 (e ▸ lG hz hq)
  rw[bB,if_neg this]
 ·have:=h.nd
  simp only[eJ,bMW,bMI,bMZ] at *
  rw[bMA,bNQ] at *
  obtain⟨a,b,c⟩:=this
  refine⟨a,?_,fun p hp q hq=>?_⟩
  ·rw[List.singleton_append,List.nodup_cons]; exact⟨f2,b⟩
  ·rw[List.singleton_append,bLO] at hq
   rcases hq with rfl | hq
   ·intro e; subst e; exact f1 hp
   ·exact c p hp q hq
theorem kW (L1 L2:List LI):dW (L1++L2)=dW L1++dW L2:=List.filterMap_append ..
theorem aQ.oH (h:aQ H B L) (s:Nat):aQ H B (L++[(.bIU,s,[])]):=by
 refine⟨h.box,fun z hz=>?_,?_⟩
 ·rw[bMT,List.mem_singleton] at hz
  rcases hz with hz | rfl
  ·exact h.lst z hz
  ·exact .nil
 ·rw[kW,show dW [((.bIU:PV),s,([]:List (List PV)))]=[] from rfl,bMP]; exact h.nd
theorem aQ.byG (h:aQ H B L) {o s:Nat} {rows:List (List PV)} (ho:H o=none):aQ (H.set o (.rows s rows)) B (L++[(.osl o s 0 rows.length,s,rows)]):=by
 obtain⟨f1,f2⟩:=h.fresh ho
 have hk:=h.keep (H':=H.set o (.rows s rows)) fun q hq=>by
  have:q≠o:=by rintro rfl; exact hq.elim f1 f2
  rw[bB,if_neg this]
 refine⟨hk.box,fun z hz=>?_,?_⟩
 ·rw[bMT,List.mem_singleton] at hz
  rcases hz with hz | rfl
  ·exact hk.lst z hz
  ·exact .inr ⟨o,rows,rfl,by simp only[bB,if_true],bLG _,bLZ⟩
 ·rw[kW,show dW [((.osl o s 0 rows.length:PV),s,rows)]=[o] from rfl,← bMA,bNQ]
  refine⟨h.nd,by simp,fun p hp q hq=>?_⟩
  rw[List.mem_singleton] at hq
  subst hq
  rintro rfl
  rcases bMT.1 hp with hp | hp
  ·exact f1 hp
  ·exact f2 hp
theorem aGQ {i:Nat} {v v':PV} {s s':Nat} {rows rows':List (List PV)} (hi:L[i]?=some (v,s,rows)):∃ L1 L2,L=L1++(v,s,rows)::L2∧L.set i (v',s',rows')=L1++(v',s',rows')::L2:=by
 obtain⟨hl,he⟩:=bMM.1 hi
 refine⟨L.take i,L.drop (i+1),?_,?_⟩
 ·rw[← he,← bMU hl,bNP]
 ·rw[List.set_eq_take_append_cons_drop,if_pos hl]
theorem aQ.TI (h:aQ H B L) (i:Nat) {s:Nat} {v:PV} {rows:List (List PV)} (hi:L[i]?=some (v,s,rows)) {s':Nat} {v':PV} {rows':List (List PV)} {H':PH} (ho:aY H' s' v' rows')
  (hid:∀ q,v'.oid=some q→v.oid=some q∨H q=none) (hk:∀ q,q∈eJ B∨q∈dW L→(∀ p,v.oid=some p→q≠p)→H' q=H q):aQ H' B (L.set i (v',s',rows')):=by
 obtain⟨L1,L2,e1,e2⟩:=aGQ (v':=v') (s':=s') (rows':=rows') hi
 rw[e2]
 subst e1
 have hnd:=h.nd
 have eL:dW (L1++(v,s,rows)::L2)=dW L1++(v.oid.toList++dW L2):=by
  rw[kW]
  congr 1
  unfold dW
  rw[List.filterMap_cons]
  cases e:v.oid<;>simp
 have eL':dW (L1++(v',s',rows')::L2)=dW L1++(v'.oid.toList++dW L2):=by
  rw[kW]
  congr 1
  unfold dW
  rw[List.filterMap_cons]
  cases e:v'.oid<;>simp
 rw[eL] at hnd
 have other:∀ q,q∈eJ B∨q∈dW L1∨q∈dW L2→∀ p,v.oid=some p→q≠p:=by
  intro q hq p hp e
  subst e
  rw[hp] at hnd
  simp only[Option.toList_some] at hnd
  rw[bNQ] at hnd
  obtain⟨a,b,c⟩:=hnd
  rw[bNQ] at b
  obtain⟨b1,b2,b3⟩:=b
  rw[List.singleton_append,List.nodup_cons] at b2
  rcases hq with hq | hq | hq
  ·exact c q hq q (by simp) rfl
  ·exact b3 q hq q (by simp) rfl
  ·exact b2.1 hq
 have keepq:∀ q,q∈eJ B∨q∈dW L1∨q∈dW L2→H' q=H q:=by
  intro q hq
  refine hk q ?_ (other q hq)
  rw[eL]
  simp only[bMT]
  rcases hq with hq | hq | hq
  ·exact .inl hq
  ·exact .inr (.inl hq)
  ·exact .inr (.inr (.inr hq))
 refine⟨fun b hb=>by rw[keepq _ (.inl (tU hb))]; exact h.box b hb,fun z hz=>?_,?_⟩
 ·rw[bMT,bLO] at hz
  rcases hz with hz | rfl | hz
  ·exact (h.lst z (by simp[hz])).same fun q hq=>keepq q (.inr (.inl (lG hz hq)))
  ·exact ho
  ·exact (h.lst z (by simp[hz])).same fun q hq=>keepq q (.inr (.inr (lG hz hq)))
 ·rw[eL']
  cases e:v'.oid with
  | none =>
   simp only[Option.toList_none,List.nil_append]
   refine List.Nodup.sublist ?_ hnd
   exact bMX.append (bMX.refl _) (bMX.append (bMX.refl _) (List.sublist_append_right _ _))
  | some q =>
   rcases hid q e with hv | hn
   ·rw[hv] at hnd
    exact hnd
   ·obtain⟨f1,f2⟩:=h.fresh hn
    rw[eL] at f2
    simp only[bMT,not_or] at f2
    have hnd':(eJ B++(dW L1++dW L2)).Nodup:=List.Nodup.sublist (bMX.append (bMX.refl _) (bMX.append (bMX.refl _) (List.sublist_append_right _ _))) hnd
    simp only[Option.toList_some]
    rw[bNQ] at hnd' ⊢
    obtain⟨a,b,c⟩:=hnd'
    rw[bNQ] at b
    obtain⟨b1,b2,b3⟩:=b
    refine⟨a,?_,?_⟩
    ·rw[bNQ]
     refine⟨b1,by rw[List.singleton_append,List.nodup_cons]; exact⟨f2.2.2,b2⟩,fun p hp r hr=>?_⟩
     rw[List.singleton_append,bLO] at hr
     rcases hr with rfl | hr
     ·rintro rfl; exact f2.1 hp
     ·exact b3 p hp r hr
    ·intro p hp r hr
     rw[bMT,List.singleton_append,bLO] at hr
     rcases hr with hr | rfl | hr
     ·exact c p hp r (by simp[hr])
     ·rintro rfl; exact f1 hp
     ·exact c p hp r (by simp[hr])
theorem aQ.append (h:aQ H B L) (i:Nat) {s b:Nat} {v y:PV} {rows src:List (List PV)} (hi:L[i]?=some (v,s,rows)) (hy:dY H s y=some src) (hr:roomFor rows.length src.length b)
  (hk:∀ v' H',aQ H' B (L.set i (v',s,rows++src))→(src≠[]→∃ q,v'=.osl q s 0 (rows++src).length)→K v' H'):nP H s b v y K:=by
 rcases h.own i hi with ⟨rfl,rfl⟩ | ⟨q,rs,rfl,h1,h2,h3⟩
 ·refine⟨src,hy,hr,fun e=>?_,fun e o ho=>?_⟩
  ·subst e
   refine hk _ _ ?_ fun h=>absurd rfl h
   exact h.TI i hi (.inl ⟨rfl,rfl⟩) (fun q hq=>by cases hq) fun q _ _=>rfl
  ·refine hk _ _ (h.TI i hi (.inr ⟨o,src,rfl,by simp only[bB,if_true],bLG _,bLZ⟩) (fun q hq=>by cases hq; exact .inr ho) fun q hq _=>?_) fun _=>⟨o,rfl⟩
   obtain⟨f1,f2⟩:=h.fresh ho
   have:q≠o:=by rintro rfl; exact hq.elim f1 f2
   rw[bB,if_neg this]
 ·have hlen:(rows++src).length=rows.length+src.length:=bLC
  refine⟨src,hy,rfl,rfl,hr,rs,h1,h2,?_,fun o ho=>?_⟩
  ·rw[h3]
   refine hk _ _ (h.TI i hi (.inr ⟨q,rows++src,by rw[hlen],by simp only[bB,if_true],bLG _,bLZ⟩) (fun p hp=>by cases hp; exact .inl rfl) fun p _ hp=>?_) fun _=>⟨q,by rw[hlen]⟩
   rw[bB,if_neg (hp q rfl)]
  ·rw[h3]
   refine hk _ _ (h.TI i hi (.inr ⟨o,rows++src,by rw[hlen],by simp only[bB,if_true],bLG _,bLZ⟩) (fun p hp=>by cases hp; exact .inr ho) fun p hpm hp=>?_) fun _=>⟨o,by rw[hlen]⟩
   obtain⟨f1,f2⟩:=h.fresh ho
   have n1:p≠o:=by rintro rfl; exact hpm.elim f1 f2
   rw[bB,if_neg n1]
theorem aQ.sub (h:aQ H B L) {B':List BX} {L':List LI} (hB:B'.Sublist B) (hL:L'.Sublist L):aQ H B' L' :=
 ⟨fun b hb=>h.box b (hB.subset hb),fun x hx=>h.lst x (hL.subset hx),List.Nodup.sublist (bMX.append (hB.map _) (hL.filterMap _)) h.nd⟩
theorem aQ.bBH (h:aQ H B L) (i:Nat):aQ H (B.eraseIdx i) L:=h.sub (List.eraseIdx_sublist ..) (bMX.refl _)
theorem aQ.bBI (h:aQ H B L) (i:Nat):aQ H B (L.eraseIdx i):=h.sub (bMX.refl _) (List.eraseIdx_sublist ..)
end
section
variable {C:Ctx} {F:PF} {H:PH} {B:List BX} {L:List LI}
theorem aQ.TD (h:aQ H B L) {q:Nat} (hq:q∈eJ B∨q∈dW L):∃ x,H q=some x:=by
 rcases hq with hq | hq
 ·obtain⟨b,hb,rfl⟩:=bMF.1 hq
  exact⟨_,h.box b hb⟩
 ·obtain⟨x,hx,e⟩:=List.mem_filterMap.1 hq
  obtain⟨rs,h1,_⟩:=(h.lst x hx).id e
  exact⟨_,h1⟩
theorem aQ.perm (h:aQ H B L) {B':List BX} {L':List LI} (hB:B.Perm B') (hL:L.Perm L'):aQ H B' L' :=
 ⟨fun b hb=>h.box b (hB.mem_iff.2 hb),fun x hx=>h.lst x (hL.mem_iff.2 hx),(List.Perm.nodup_iff ((hB.map _).append (hL.filterMap _))).1 h.nd⟩
theorem aQ.only (h:aQ H B L) {B1:List BX} {L1:List LI} (hB:B1.Sublist B) (hL:L1.Sublist L):aQ (H.only (eJ B1++dW L1)) B1 L1:=by
 refine (h.sub hB hL).keep fun q hq=>?_
 rw[rJ]
 rw[if_pos (bMT.2 hq)]
theorem byH {a b c d:List Nat} (h1:(a++c).Nodup) (h2:(b++d).Nodup) (h3:∀ q,q∈a∨q∈c→q∈b∨q∈d→False):((a++b)++(c++d)).Nodup:=by
 have e:List.Perm ((a++b)++(c++d)) ((a++c)++(b++d)):=by
  rw[bMA,bMA]
  exact List.Perm.append_left a (by rw[← bMA,← bMA]; exact List.Perm.append_right d List.perm_append_comm)
 rw[e.nodup_iff,bNQ]
 refine⟨h1,h2,fun p hp q hq=>?_⟩
 rintro rfl
 exact h3 p (bMT.1 hp) (bMT.1 hq)
theorem aQ.frame {H':PH} {B1 B2 B':List BX} {L1 L2 L':List LI} (h:aQ H (B1++B2) (L1++L2)) (h':aQ H' B' L') (ha:nF H (H.only (eJ B1++dW L1)) H'):aQ (H.over (H.only (eJ B1++dW L1)) H') (B'++B2) (L'++L2):=by
 have h2:aQ H B2 L2:=h.sub (List.sublist_append_right ..) (List.sublist_append_right ..)
 have dis:∀ q,q∈eJ B2∨q∈dW L2→¬ (q∈eJ B1++dW L1):=by
  intro q hq hm
  have hnd:=h.nd
  rw[show eJ (B1++B2)=eJ B1++eJ B2 from bMW,kW] at hnd
  have e:List.Perm ((eJ B1++eJ B2)++(dW L1++dW L2)) ((eJ B1++dW L1)++(eJ B2++dW L2)):=by
   rw[bMA,bMA]
   exact List.Perm.append_left _ (by rw[← bMA,← bMA]; exact List.Perm.append_right _ List.perm_append_comm)
  rw[e.nodup_iff,bNQ] at hnd
  exact hnd.2.2 q hm q (bMT.2 hq) rfl
 have new:∀ q,q∈eJ B'∨q∈dW L'→(H.over (H.only (eJ B1++dW L1)) H') q=H' q:=by
  intro q hq
  obtain⟨x,hx⟩:=h'.TD hq
  rw[oC,hx]
 have old:∀ q,q∈eJ B2∨q∈dW L2→(H.over (H.only (eJ B1++dW L1)) H') q=H q:=by
  intro q hq
  obtain⟨x,hx⟩:=h2.TD hq
  have h0:(H.only (eJ B1++dW L1)) q=none:=by rw[rJ,if_neg (dis q hq)]
  rw[oC]
  cases e:H' q with
  | none=>simp only[h0]
  | some y =>
   have:=ha q y e h0
   rw[hx] at this; cases this
 have k1:=h'.keep new
 have k2:=h2.keep old
 refine⟨fun b hb=>?_,fun x hx=>?_,?_⟩
 ·rcases bMT.1 hb with hb | hb
  ·exact k1.box b hb
  ·exact k2.box b hb
 ·rcases bMT.1 hx with hx | hx
  ·exact k1.lst x hx
  ·exact k2.lst x hx
 ·rw[show eJ (B'++B2)=eJ B'++eJ B2 from bMW,kW]
  refine byH h'.nd h2.nd fun q hq hq2=>?_
  obtain⟨x,hx⟩:=h'.TD hq
  obtain⟨y,hy⟩:=h2.TD hq2
  have h0:(H.only (eJ B1++dW L1)) q=none:=by rw[rJ,if_neg (dis q hq2)]
  have:=ha q x hx h0
  rw[hy] at this; cases this
theorem EH {name:Nat} {vs:List PV} {args:List aP} {d:Option Nat} {K:PF→PH→Prop} {B1 B2:List BX} {L1 L2:List LI} {Q:PV→List BX→List LI→Prop} (h:aQ H (B1++B2) (L1++L2))
  (hc:∀ H0,aQ H0 B1 L1→aH C name vs H0 (fun r H'=>∃ B' L',Q r B' L'∧aQ H' B' L')) (ha:aP.evs F args=some vs)
  (hk:∀ r B' L' H',Q r B' L'→aQ H' (B'++B2) (L'++L2)→K (F.put d r) H'):gS C name args [] d K F H:=by
 refine mI (hc (H.only (eJ B1++dW L1)) (h.only (List.sublist_append_left ..) (List.sublist_append_left ..))) ha (anR H _) ?_
 rintro r H' ⟨B',L',hq,h'⟩ hap
 exact hk r B' L' _ hq (h.frame h' hap)
theorem aQ.MV {B:List BX} {o:Nat} {x:cD} (h:aQ H (B++[(o,x)]) L):H o=some x:=h.box (o,x) (by simp)
theorem aQ.anY {B:List BX} {o:Nat} {x:cD} (h:aQ H (B++[(o,x)]) L) (y:cD):aQ (H.set o y) (B++[(o,y)]) L:=by
 have:=h.set B.length (o:=o) (x:=x) (by simp) y
 rwa [bOA _ _ (bLG _),Nat.sub_self] at this
theorem aQ.dropLast {B:List BX} {b:BX} (h:aQ H (B++[b]) L):aQ H B L:=h.sub (List.sublist_append_left ..) (bMX.refl _)
theorem aQ.bvR {B:List BX} {o:Nat} {x:cD} (h:aQ H ((o,x)::B) L) (y:cD):aQ (H.set o y) ((o,y)::B) L:=h.set 0 rfl y
theorem aQ.bxP {B:List BX} {o:Nat} {x:cD} (h:aQ H ((o,x)::B) L):H o=some x:=h.at 0 rfl
theorem hC {name o:Nat} {x y:cD} {r:PV} {vs:List PV} {args:List aP} {d:Option Nat} {K:PF→PH→Prop} (h:aH C name vs (PH.nil.set o x) (fun r' H'=>r'=r∧H'=PH.nil.set o y)) (ho:H o=some x) (ha:aP.evs F args=some vs)
  (hk:K (F.put d r) (H.set o y)):gS C name args [] d K F H:=by
 refine mI h ha (PH.aG PH.nil_le ho) ?_
 rintro r' H' ⟨rfl,rfl⟩ -
 rw[PH.sT]
 exact hk
theorem blE {Hs:PH} {S:Spec} {name o:Nat} {x y:cD} {r:PV} {vs:List PV} {R:PH→PV→PH→Prop} {args:List aP} {st:Bool} {d:Option Nat} {K:PF→PH→Prop} (hS:S name vs=some ([o],R)) (ho:H o=some x)
  (h:aH C name vs (PH.nil.set o x) (fun r' H'=>r'=r∧H'=PH.nil.set o y)) (hR1:R (PH.nil.set o x) r (PH.nil.set o y)) (hR2:∀ r' H',R (PH.nil.set o x) r' H'→r'=r∧H'=PH.nil.set o y) (ha:aP.evs F args=some vs)
  (hle:Hs.le (H.set o y)) (hk:K (F.put d r) (H.set o y)):dOp C Hs S st (.call name args) d K F H:=by
 have e:=aLN ho
 refine⟨vs,[o],_,ha,hS,fun q hq=>?_,?_,fun G=>⟨r,_,by rw[e]; exact hR1,fun q z hz hn=>?_⟩,fun r' H' hr _=>?_⟩
 ·simp at hq; subst hq; exact⟨x,ho⟩
 ·rw[e]
  exact h.post fun r' H' hr=>⟨r',.refl _,by rw[hr.1,hr.2]; exact hR1⟩
 ·rw[e] at hn
  rw[bB] at hz hn
  split at hn
  ·cases hn
  ·rename_i hne
   rw[if_neg hne] at hz; cases hz
 ·rw[e] at hr
  obtain⟨rfl,rfl⟩:=hR2 r' H' hr
  rw[e,PH.sT]
  exact⟨hle,hk⟩
theorem bpJ {s:Nat} {q z:Nat} {rs:List (List PV)} {v:PV} {rows:List (List PV)} (h:aY H s v rows) (hv:v.oid≠some q):aY (H.frz q z rs) s v (rows.map fun r=>r.map (PV.dN q z rs)):=by
 rcases h with ⟨rfl,rfl⟩ | ⟨p,rs',rfl,h1,h2,h3⟩
 ·exact .inl ⟨rfl,rfl⟩
 ·have hne:¬ p=q:=fun e=>hv (by rw[e]; rfl)
  refine .inr ⟨p,rs'.map fun r=>r.map (PV.dN q z rs),by rw[bKY],?_,by simpa using h2,?_⟩
  ·rw[SO,if_neg hne,h1]; rfl
  ·rw[bKY,← List.map_take,h3]
theorem aQ.frz (h:aQ H B L) (i:Nat) {q s k:Nat} {rows:List (List PV)} (hi:L[i]?=some (.osl q s 0 k,s,rows)):∃ rs,H q=some (.rows s rs)∧PV.dN q s rs (.osl q s 0 k)=.sl s rows∧PV.frz q s rs (.osl q s 0 k)=.sl s rows∧(∀ j x,j≠i→L[j]?=some x→PV.dN q s rs x.1=x.1) ∧
  aQ (H.frz q s rs) (B.map fun b=>(b.1,b.2.frz q s rs)) ((L.eraseIdx i).map fun x=>(x.1,x.2.1,x.2.2.map fun r=>r.map (PV.dN q s rs))):=by
 obtain⟨rs,h1,h2,h3,h4⟩:=(h.own i hi).id rfl
 injection h2 with _ _ _ hk
 subst hk
 have e:PV.frz q s rs (.osl q s 0 rows.length)=.sl s rows:=by rw[xO h3,h4]
 refine⟨rs,h1,e,e,?_⟩
 refine⟨fun j x hji hj=>?_,?_⟩
 ·have hxq:x.1.oid≠some q:=by
   intro hxq
   obtain⟨hl,he⟩:=bMM.1 hi
   obtain⟨hl2,he2⟩:=bMM.1 hj
   have hmem:x∈L.eraseIdx i:=List.mem_eraseIdx_iff_getElem?.2 ⟨j,hji,hj⟩
   have hnd:=h.ndL
   have hs:L=L.take i++(L[i]::L.drop (i+1)):=by rw[← bMU hl,bNP]
   rw[List.eraseIdx_eq_take_drop_succ] at hmem
   rw[hs,kW] at hnd
   have e3:dW (L[i]::L.drop (i+1))=q::dW (L.drop (i+1)):=by rw[he]; rfl
   rw[e3,bNQ] at hnd
   obtain⟨a,b,c⟩:=hnd
   rcases bMT.1 hmem with hx | hx
   ·exact c q (lG hx hxq) q (by simp) rfl
   ·exact (List.nodup_cons.1 b).1 (lG hx hxq)
  cases hx:x.1<;>try rfl
  rename_i p z off len
  have:¬ p=q:=fun e=>hxq (by rw[hx,e]; rfl)
  simp only[PV.dN,if_neg this]
 obtain⟨L1,L2,e1,e2⟩:=aGQ (v':=.bIU) (s':=s) (rows':=rows) hi
 have hil:i=L1.length∨True:=.inr trivial
 have ers:(L.eraseIdx i).Sublist L:=List.eraseIdx_sublist ..
 have hqn:∀ x∈L.eraseIdx i,x.1.oid≠some q:=by
  intro x hx hxq
  obtain⟨hl,he⟩:=bMM.1 hi
  have hnd:=h.ndL
  have hs:L=L.take i++(L[i]::L.drop (i+1)):=by rw[← bMU hl,bNP]
  rw[List.eraseIdx_eq_take_drop_succ] at hx
  rw[hs,kW] at hnd
  have e3:dW (L[i]::L.drop (i+1))=q::dW (L.drop (i+1)):=by
   rw[he]; rfl
  rw[e3,bNQ] at hnd
  obtain⟨a,b,c⟩:=hnd
  rcases bMT.1 hx with hx | hx
  ·exact c q (lG hx hxq) q (by simp) rfl
  ·exact (List.nodup_cons.1 b).1 (lG hx hxq)
 refine⟨fun b hb=>?_,fun x hx=>?_,?_⟩
 ·obtain⟨b0,hb0,rfl⟩:=bMF.1 hb
  have:¬ b0.1=q:=h.ndX (tU hb0) (lG (bNO hi) rfl)
  simp only
  rw[SO,if_neg this,h.box b0 hb0]; rfl
 ·obtain⟨x0,hx0,rfl⟩:=bMF.1 hx
  exact bpJ (h.lst x0 (ers.subset hx0)) (hqn x0 hx0)
 ·have i1:eJ (B.map fun b=>(b.1,b.2.frz q s rs))=eJ B:=by unfold eJ; rw[List.map_map]; rfl
  have i2:dW ((L.eraseIdx i).map fun x=>(x.1,x.2.1,x.2.2.map fun r=>r.map (PV.dN q s rs)))=dW (L.eraseIdx i):=by unfold dW; rw[List.filterMap_map]; rfl
  rw[i1,i2]
  exact List.Nodup.sublist (bMX.append (bMX.refl _) (ers.filterMap _)) h.nd
def Flat (rows:List (List PV)):Prop:=∀ q s rs,rows.map (fun r=>r.map (PV.dN q s rs))=rows
theorem Flat.nil:Flat []:=fun _ _ _=>rfl
theorem Flat.of {rows:List (List PV)} (h:∀ r∈rows,∀ c∈r,∀ q s rs,PV.dN q s rs c=c):Flat rows:=fun q s rs=>by
 conv=>rhs; rw[← List.map_id rows]
 refine List.map_congr_left fun r hr=>?_
 conv=>rhs; rw[id,← List.map_id r]
 exact List.map_congr_left fun c hc=>h r hr c hc q s rs
theorem Flat.map {α:Type} {f:α→List PV} (l:List α) (h:∀ x,∀ c∈f x,∀ q s rs,PV.dN q s rs c=c):Flat (l.map f):=Flat.of fun r hr=>by
 obtain⟨x,_,rfl⟩:=bMF.1 hr
 exact h x
theorem Flat.append {r1 r2:List (List PV)} (h1:Flat r1) (h2:Flat r2):Flat (r1++r2):=fun q s rs=>by rw[bMW,h1,h2]
theorem aQ.flat {φ:PV→List (List PV)} (h:aQ H B L):aQ H B L:=h
def zR (v:PV) (H:PH) (R:PV→PH→Prop):Prop:=∃ F1 H1 H2,jU (PF.nil.set 0 v) H F1 H1∧H2.le H1∧∃ u,F1 0=some u∧R u H2
theorem zR.done {v:PV} {H2:PH} {R:PV→PH→Prop} (hR:R v H2) (hle:H2.le H):zR v H R:=⟨_,_,H2,.refl _ _,hle,v,by rw[nB,if_pos rfl],hR⟩
theorem zR.step {v:PV} {q s:Nat} {rs:List (List PV)} {R:PV→PH→Prop} (hq:H q=some (.rows s rs)) (h:zR (PV.frz q s rs v) (H.frz q s rs) R):zR v H R:=by
 obtain⟨F1,H1,H2,h1,h2,h3⟩:=h
 have e:(PF.nil.set 0 v).frz q s rs=PF.nil.set 0 (PV.frz q s rs v):=by
  funext i
  rw[sH,nB,nB]
  split<;>rfl
 exact⟨F1,H1,H2,.step q hq (by rw[e]; exact h1),h2,h3⟩
theorem FG {res:List eC} {R:PV→PH→Prop} {vs:List PV} {e:mO} (he:e=.normal∨e=.ret) (h:eC.evs F H res=some vs) (hf:zR (bF vs) H R):aS res R e F H:=by
 have key:∃ vs,eC.evs F H res=some vs∧∃ F1 H1 H2,jU (PF.nil.set 0 (bF vs)) H F1 H1∧H2.le H1∧∃ u,F1 0=some u∧R u H2:=⟨vs,h,hf⟩
 rcases he with rfl | rfl<;>exact key
theorem acU {u:PV} (h:u.oid=none) (q s:Nat) (rs:List (List PV)):PV.dN q s rs u=u:=by
 cases u<;>first | rfl | (simp[PV.oid] at h)
theorem Seen.co {s:Nat} {v:PV} {rows:List (List PV)} (h:Seen s v rows):Co v (.sl s rows):=by
 rcases h with ⟨rfl,rfl⟩ | rfl
 ·exact .nil s
 ·exact .refl _
theorem aQ.giveUp:∀ (L:List LI) {H:PH} {B:List BX},aQ H B L→(∀ x∈L,Flat x.2.2)→(∀ b∈B,∀ q s rs,cD.frz q s rs b.2=b.2) →
  ∃ (φ:PV→PV) (H1:PH),(∀ x∈L,Seen x.2.1 (φ x.1) x.2.2)∧(∀ u,u.oid=none→φ u=u)∧aQ H1 B []∧∀ cs R,zR (.agg (cs.map φ)) H1 R→zR (.agg cs) H R
 | [],H,B,h,_,_=>⟨id,H,by simp,fun _ _=>rfl,h,fun cs R hf=>by rwa [List.map_id] at hf⟩
 | (w,s,rows)::L,H,B,h,hL,hB=>by
  have hflat:∀ q z rs,(L.map fun x=>(x.1,x.2.1,x.2.2.map fun r=>r.map (PV.dN q z rs)))=L:=fun q z rs=>by
   conv=>rhs; rw[← List.map_id L]
   refine List.map_congr_left fun x hx=>?_
   rw[hL x (by simp[hx]) q z rs]; rfl
  rcases h.own 0 rfl with ⟨h1,h2⟩ | ⟨q,rs,h1,_⟩
  ·obtain⟨φ,H1,k1,k2,k3,k4⟩:=aQ.giveUp L (h.bBI 0) (fun x hx=>hL x (by simp[hx])) hB
   refine⟨φ,H1,fun x hx=>?_,k2,k3,k4⟩
   rw[bLO] at hx
   rcases hx with rfl | hx
   ·exact .inl ⟨h1,by simp only; rw[h2]; exact k2 _ rfl⟩
   ·exact k1 x hx
  ·subst h1
   obtain⟨rs,z1,z2,z3,z4,z5⟩:=h.frz 0 rfl
   have z6:aQ (H.frz q s rs) B L:=by
    have eB:(B.map fun b=>(b.1,b.2.frz q s rs))=B:=by
     conv=>rhs; rw[← List.map_id B]
     refine List.map_congr_left fun b hb=>?_
     rw[hB b hb q s rs]; rfl
    rw[eB] at z5
    have:=z5
    simp only[List.eraseIdx_cons_zero] at this
    rwa [hflat q s rs] at this
   obtain⟨φ,H1,k1,k2,k3,k4⟩:=aQ.giveUp L z6 (fun x hx=>hL x (by simp[hx])) hB
   refine⟨fun u=>φ (PV.dN q s rs u),H1,fun x hx=>?_,fun u hu=>?_,k3,fun cs R hf=>?_⟩
   ·rw[bLO] at hx
    rcases hx with rfl | hx
    ·simp only
     rw[z2]
     exact .inr (k2 _ rfl)
    ·obtain⟨j,hj⟩:=List.mem_iff_getElem?.1 hx
     have:=z4 (j+1) x Om (by simpa using hj)
     simp only
     rw[this]
     exact k1 x hx
   ·simp only
    rw[acU hu,k2 u hu]
   ·refine .step z1 ?_
    have e:PV.frz q s rs (.agg cs)=.agg (cs.map (PV.dN q s rs)):=rfl
    rw[e]
    refine k4 _ R ?_
    rw[List.map_map]
    exact hf
theorem OB {K:bY} {α:Type} {Fs:α→PF} {Hs:α→PH} {Pr:α→Prop} {m:α→Nat} {n q s:Nat} {rs:List (List PV)} (a:α) (hq:H q=some (.rows s rs)) (h0:Pr a) (hm:m a<n) (hF:(Fs a).le (F.frz q s rs)) (hH:(Hs a).le (H.frz q s rs)):dV Fs Hs Pr m n K .normal F H :=
 ⟨a,_,_,.step q hq (.refl _ _),h0,hm,hF,hH⟩
end
structure rW (C:Ctx):Prop extends abP C where
 int:∀ n:Int,cZ n→aH C 47 [.int .i64 n] .nil (aF (.agg (mkT n 1).cells))
 itoa:∀ n:Nat,n<100→aH C 195 [.int .i64 n] .nil (aF (.str (bV n)))
 next:∀ (l:List Nat) (v:PV),Tp l v→∀ (o n a:Nat),n≤1000000→a≤l.length→aH C 4 [.ptr o 2 0 0,.int .i64 n] (PH.nil.set o (aW v a)) (abM l v o n a)
section
variable {C:Ctx} {F:PF} {H:PH} {l:List Nat} {v:PV} {o a:Nat}
theorem cK (Lb:rW C) (T:Tp l v) {n:Nat} {args:List aP} {d:Option Nat} {K:PF→PH→Prop} (hn:n≤1000000) (ha:a≤l.length) (bKN:aP.evs F args=some [.ptr o 2 0 0,.int .i64 n]) (ho:H o=some (aW v a))
  (hk:K (F.put d (.int .i64 ((aC l n a).1:Nat))) (H.set o (aW v (aC l n a).2))):gS C 4 args [] d K F H :=
 hC (Lb.next l v T o n a hn ha) ho bKN hk
end
def brG (l:List Nat) (v:PV) (o a:Nat) (r:PV) (H:PH):Prop:=r=.agg (fA l a).1.cells∧H=PH.nil.set o (aW v (fA l a).2)
theorem tN (l:List Nat) {a:Nat} (h:a≤l.length):(fA l a).2≤l.length:=bK l 8 (bK l 6 h)
theorem bnL {C:Ctx} (Lb:rW C) {l:List Nat} {v:PV} (T:Tp l v) (o a:Nat) (ha:a≤l.length):HX.wp C (aS aAI.res (brG l v o a)) (PF.args [.ptr o 2 0 0]) (PH.nil.set o (aW v a)):=by
 simp only[go_sem,δ,HX,aII,aAI]
 refine aN fun p hp=>?_
 have n1:¬ p=o:=(iU.1 hp).1
 have n1':¬ o=p:=fun h=>n1 h.symm
 have h1:=bT l (show 0<6 by decide) a
 have a1:=bK l 6 ha
 simp only[go_sem,reduceCtorEq,aIJ]
 refine cK Lb T (o:=o) (n:=6) (a:=a) (by decide) ha rfl (by simp only[go_sem,n1']) ?_
 have e1:IntKind.i64.wrap (1+((aC l 6 a).1:Int))=((1+(aC l 6 a).1:Nat):Int):=by rw[wrap_i64 Om Om]; omega
 simp only[go_sem,γ,reduceCtorEq,e1]
 have h2:=bT l (show 0<8 by decide) (aC l 6 a).2
 refine cK Lb T (o:=o) (n:=8) (a:=(aC l 6 a).2) (by decide) a1 rfl Sq ?_
 have e2:IntKind.i64.wrap (1+((aC l 8 (aC l 6 a).2).1:Int))=((1+(aC l 8 (aC l 6 a).2).1:Nat):Int):=by rw[wrap_i64 Om Om]; omega
 simp only[go_sem,γ,e2]
 refine aA (Lb.fmk ((1+(aC l 6 a).1:Nat):Int) ((1+(aC l 8 (aC l 6 a).2).1:Nat):Int) (by unfold cZ; omega) (by unfold cZ; omega)) rfl ?_
 have hd:¬ ((1+(aC l 8 (aC l 6 a).2).1:Nat):Int)=0:=by omega
 unfold vN
 rw[if_neg hd]
 simp only[go_sem,δ,γ]
 refine aN fun q hq=>?_
 have n2:¬ q=o:=(iU.1 hq).1
 have n3:¬ q=p:=(iU.1 (iU.1 hq).2).1
 have n3':¬ p=q:=fun h=>n3 h.symm
 have n2':¬ o=q:=fun h=>n2 h.symm
 simp only[go_sem,δ,γ,aIK,n1,n1',n2,n3,n3']
 refine aV (vs:=[.agg (fA l a).1.cells]) (.inr rfl) (PH.nil.set o (aW v (fA l a).2)) ?_ (PH.aG PH.nil_le ?_) ⟨rfl,rfl⟩
 ·simp only[go_sem,δ,γ]
  rfl
 ·simp only[go_sem,n1',n2']
  rfl
structure aBP (C:Ctx):Prop extends rW C where
 frac:∀ (l:List Nat) (v:PV),Tp l v→∀ (o a:Nat),a≤l.length→aH C 1 [.ptr o 2 0 0] (PH.nil.set o (aW v a)) (brG l v o a)
abbrev fS (l:List RF):List (List PV):=l.map RF.cells
theorem wG (l:List RF) (x:RF):fS l++[x.cells]=fS (l++[x]):=by simp[fS]
theorem GH (l:List RF):Flat (fS l):=Flat.map l fun x c hc q s rs=>by
 simp only[RF.cells,eD,bLO,bLW,or_false] at hc
 rcases hc with rfl | rfl | rfl<;>rfl
theorem lZ (l:List RF):(fS l).length=l.length:=by simp[fS]
theorem Tp.frz {l:List Nat} {v:PV} (T:Tp l v) (q s:Nat) (rs:List (List PV)):PV.dN q s rs v=v:=by
 rcases T.seen with ⟨_,rfl⟩ | rfl<;>rfl
theorem FD (l:List Nat) {a:Nat} (h:a≤l.length):∀ k,(kB l a k).2≤l.length
 | 0=>h
 | k+1=>tN l (FD l h k)
theorem aMD (l:List Nat) (a:Nat):∀ k,(kB l a k).1.length=k
 | 0=>rfl
 | k+1=>by simp only[kB,bLC,bLH,aMD l a k]
def bxK (l:List Nat) (v:PV) (o a k:Nat) (r:PV) (H:PH):Prop:=r=frs (kB l a k).1∧H=PH.nil.set o (aW v (kB l a k).2)
def a9G (o:Nat) (m:Nat) (w:PV) (i:Nat):PF:=((((PF.nil.set 0 (.ptr o 2 0 0)).set 1 (.int .i64 m)).set 5 (w)).set 6 (.int .i64 i))
theorem buM {C:Ctx} (Lb:aBP C) {l:List Nat} {v:PV} (T:Tp l v) (o a m:Nat) (hm:m≤1000) (ha:a≤l.length):OI.wp C (aS a9F.res (bxK l v o a (max m 1))) (PF.args [.ptr o 2 0 0,.int .i64 m]) (PH.nil.set o (aW v a)):=by
 have hmx:∀ i:Nat,((i:Int)<(if (m:Int)<1 then 1 else (m:Int)))↔i<max m 1:=by
  intro i
  split<;>omega
 simp only[go_sem,OI,aZB,aZC,aZD,a9F]
 have h0:aQ (PH.nil.set o (aW v a)) [(o,aW v a)] [(.bIU,3,fS [])]:=(aQ.nil.new (H:=PH.nil) rfl (aW v a)).oH 3
 refine wp_loop (α:=Nat × PV × PH) (fun t=>a9G o m t.2.1 t.1) (fun t=>t.2.2) (fun t=>t.1≤max m 1∧aQ t.2.2 [(o,aW v (kB l a t.1).2)] [(t.2.1,3,fS (kB l a t.1).1)]) (fun t=>max m 1-t.1) (0,.bIU,PH.nil.set o (aW v a)) ⟨bLE _,h0⟩ ?_ PH.le_refl ?_
 ·unfold a9G
  exact Lq
 rintro⟨k,w,H0⟩ ⟨hk,hH⟩
 simp only at hk hH ⊢
 simp only[go_sem,γ,reduceCtorEq,aZA,aZE,a9G]
 have hle:=FD l ha k
 have hlen:=aMD l a k
 by_cases hlt:k<max m 1
 ·have hc:=(hmx k).2 hlt
  simp only[go_sem,γ,reduceCtorEq,hc,aZF]
  refine hC (Lb.frac l v T o _ hle) (hH.at 0 rfl) rfl ?_
  have hH2:=hH.set 0 rfl (aW v (fA l (kB l a k).2).2)
  have h13:(1:Nat)*3≤16777216:=by decide
  simp only[go_sem,υ,δ,γ,η,ζ,reduceCtorEq,h13]
  refine hH2.append 0 (src:=[(fA l (kB l a k).2).1.cells]) rfl rfl (by unfold roomFor; rw[lZ,hlen]; simp only[bLH,maxLen]; omega) fun w' H' h' _=>?_
  rw[wG] at h'
  simp only[go_sem,γ,reduceCtorEq,aZG,ws k]
  refine aE (k+1,w',H') ⟨hlt,h'⟩ (by simp only; omega) ?_ PH.le_refl
  exact Lq
 ·have hc:¬ ((k:Int)<(if (m:Int)<1 then 1 else (m:Int))):=fun h=>hlt ((hmx k).1 h)
  have e:k=max m 1:=by omega
  subst e
  simp only[go_sem,γ,reduceCtorEq,hc,aZH]
  have hne:fS (kB l a (max m 1)).1≠[]:=fun h=>by
   have:=congrArg List.length h
   rw[lZ,hlen] at this
   simp at this
  rcases hH.own 0 rfl with ⟨h1,_⟩ | ⟨q,rs,rfl,_⟩
  ·exact absurd h1 hne
  obtain⟨rs,g1,g2,g3,-,g4⟩:=hH.frz 0 rfl
  refine FG (vs:=[.osl q 3 0 (fS (kB l a (max m 1)).1).length]) (.inr rfl) rfl (.step g1 (.done (H2:=PH.nil.set o (aW v (kB l a (max m 1)).2)) ?_ (PH.aG PH.nil_le ?_)))
  ·rw[bF,g3]
   exact⟨rfl,rfl⟩
  ·have:=g4.at 0 rfl
   rw[this]
   simp only[cD.frz,bMI,bMZ,T.frz]
   rfl
theorem bnS {C:Ctx} (Lb:rW C) (s:List UInt8) (n:Nat) (hs:s.length≤100) (hn:n<100):IE.wp C (aS aAJ.res (aF (.str (s++bV n)))) (PF.args [.str s,.int .i64 n]) .nil:=by
 have hl:(bV n).length≤2:=by
  unfold bV
  rw[Lib.decDigits]
  split
  ·simp
  ·rw[Lib.decDigits,dif_pos Om]; simp
 have hsum:¬ (((s.length+(bV n).length:Nat):Int)>9223372036854775807):=by omega
 simp only[go_sem,γ,reduceCtorEq,IE,aJB,aJC,aAJ]
 refine aA (Lb.itoa n hn) rfl ?_
 simp only[go_sem,γ,a5V,hsum]
 refine aM (.inr rfl) rfl ?_
 rfl
structure rX (C:Ctx):Prop extends aBP C where
 rep:∀ (l:List Nat) (v:PV),Tp l v→∀ (o a m:Nat),m≤1000→a≤l.length→aH C 5 [.ptr o 2 0 0,.int .i64 m] (PH.nil.set o (aW v a)) (bxK l v o a (max m 1))
 name:∀ (s:List UInt8) (n:Nat),s.length≤100→n<100→aH C 29 [.str s,.int .i64 n] .nil (aF (.str (s++bV n)))
theorem bkX (l:List Nat) (i j:Nat) {a:Nat} (h:a≤l.length):(iY l i j a).2≤l.length:=by
 unfold iY
 split
 ·exact tN l h
 ·split
  ·exact h
  ·simp only
   split
   ·exact tN l (bK l 3 h)
   ·exact bK l 3 h
theorem anW (l:List Nat) (i:Nat) {a:Nat} (h:a≤l.length):∀ j,(dJ l i a j).2≤l.length
 | 0=>h
 | j+1=>bkX l i j (anW l i h j)
theorem ZT (l:List Nat) (i a:Nat):∀ j,(dJ l i a j).1.length=j
 | 0=>rfl
 | j+1=>by simp only[dJ,bLC,bLH,ZT l i a j]
theorem YD (l:List Nat) (n i:Nat) (s:BH) (h:s.a≤l.length):(dH l n i s).2≤l.length∧(dH l n i s).1≤s.left:=by
 unfold dH
 split
 ·exact⟨bK l _ h,by have:=bT l (Om:0<s.left+1) s.a; omega⟩
 ·exact⟨h,bLG _⟩
theorem aDD (l:List Nat) (n i:Nat) {a:Nat} (h:a≤l.length):(eS l n i a).2≤l.length:=by
 unfold eS
 simp only
 split
 ·exact bK l 3 (tN l h)
 ·exact tN l h
theorem amO (l:List Nat) (n:Nat) {a:Nat} (h:a≤l.length):∀ i,(fO l n a i).a≤l.length∧(fO l n a i).left≤8∧(fO l n a i).start.length=i∧(fO l n a i).exit.length=i∧(fO l n a i).bIY.length=i
 | 0=>⟨h,bLG _,rfl,rfl,rfl⟩
 | i+1=>by
  obtain⟨h1,h2,h3,h4,h5⟩:=amO l n h i
  have hl:=YD l n i (fO l n a i) h1
  refine⟨?_,?_,?_,?_,?_⟩
  ·exact anW l i (aDD l n i hl.1) n
  ·simp only[fO]; omega
  ·simp only[fO,bLC,bLH,h3]
  ·simp only[fO,bLC,bLH,h4]
  ·simp only[fO,bLC,bLH,h5]
abbrev tY (l:List (List RF)):List (List PV):=l.map fun r=>[frs r]
theorem asM (l:List (List RF)):Flat (tY l):=Flat.map l fun x c hc q s rs=>by
 simp only[bLO,bLW,or_false] at hc
 subst hc; rfl
abbrev YC (w1 w2 w3:PV):cD:=.rows 4 [[.str [],w1,w2,w3]]
abbrev aGW:cD:=.rows 4 [[.str [],.bIU,.bIU,.bIU]]
def fD (o o4 o6 n left i:Nat) (w:PV) (j:Nat):PF:=((((((((PF.nil.set 0 (.ptr o 2 0 0)).set 4 (.ptr o4 4 0 0)).set 5 (.int .i64 n)).set 6 (.ptr o6 4 0 0)).set 7 (.int .i64 left)).set 8 (.int .i64 i)).set 13 (w)).set 14 (.int .i64 j))
def cT (o o4 o6 n left i:Nat):PF:=((((((PF.nil.set 0 (.ptr o 2 0 0)).set 4 (.ptr o4 4 0 0)).set 5 (.int .i64 n)).set 6 (.ptr o6 4 0 0)).set 7 (.int .i64 left)).set 8 (.int .i64 i))
theorem YI {l:List RF} (h:l.length≤1000):roomFor (fS l).length 1 56:=by
 unfold roomFor
 rw[lZ]
 simp only[maxLen]; omega
theorem bnO {C:Ctx} (Lb:rX C) {l:List Nat} {v:PV} (T:Tp l v) (o o4 o6 n left i a:Nat) (ha:a≤l.length) (hn:n≤100) (hi:i<n) (B:List BX) (L:List LI) (K:bY) (F:PF) (H:PH)
  (hF:(fD o o4 o6 n left i .bIU 0).le F) (hH:aQ H ((o,aW v a)::B) L)
  (hK:∀ w F' H',(fD o o4 o6 n left i w n).le F'→aQ H' ((o,aW v (dJ l i a n).2)::B) (L++[(w,3,fS (dJ l i a n).1)])→K (.exit 2) F' H') :
  aB.wp C (.loop HZ) K F H:=by
 refine wp_loop (α:=Nat × PV × PH) (fun t=>fD o o4 o6 n left i t.2.1 t.1) (fun t=>t.2.2) (fun t=>t.1≤n∧aQ t.2.2 ((o,aW v (dJ l i a t.1).2)::B) (L++[(t.2.1,3,fS (dJ l i a t.1).1)])) (fun t=>n-t.1) (0,.bIU,H) ⟨bLE _,hH.oH 3⟩ hF PH.le_refl ?_
 rintro⟨j,w,H0⟩ ⟨hj,hH⟩
 simp only at hj hH ⊢
 have hle:=anW l i ha j
 have hlen:=ZT l i a j
 have e1:IntKind.i64.wrap ((i:Int)+1)=((i+1:Nat):Int):=cY Om
 simp only[go_sem,γ,reduceCtorEq,HZ,aIW,fD]
 by_cases hlt:j<n
 ·have bJA:(j:Int)<(n:Nat):=by omega
  simp only[go_sem,bJA,aIX]
  refine aA (Lb.int 0 (by unfold cZ; omega)) rfl ?_
  simp only[go_sem,δ]
  refine aN fun p hp=>?_
  have hH1:=hH.new hp (.rows 3 [kE.cells])
  simp only[go_sem,δ,γ,reduceCtorEq,aIY,e1]
  have fin:∀ (F':PF) (H':PH),(fD o o4 o6 n left i w j).le F'→F' 15=some (.ptr p 3 0 0)→aQ H' ((o,aW v (iY l i j (dJ l i a j).2).2)::B++[(p,.rows 3 [(iY l i j (dJ l i a j).2).1.cells])]) (L++[(w,3,fS (dJ l i a j).1)]) →
    aB.wp C (.region YR) (dP 3 (jC C (aB.wp C (.region YS)) (dV (fun (t:Nat × PV × PH)=>fD o o4 o6 n left i t.2.1 t.1) (fun t=>t.2.2) (fun t=>t.1≤n∧aQ t.2.2 ((o,aW v (dJ l i a t.1).2)::B) (L++[(t.2.1,3,fS (dJ l i a t.1).1)])) (fun t=>n-t.1) (n-j) K))) F' H':=by
   intro F' H' hF' f15 hH'
   have f0:F' 0=some (.ptr o 2 0 0):=hF' 0 _ (by unfold fD; simp only[go_sem,reduceCtorEq])
   have f4:F' 4=some (.ptr o4 4 0 0):=hF' 4 _ (by unfold fD; simp only[go_sem,γ,reduceCtorEq])
   have f5:F' 5=some (.int .i64 n):=hF' 5 _ (by unfold fD; simp only[go_sem,γ,reduceCtorEq])
   have f6:F' 6=some (.ptr o6 4 0 0):=hF' 6 _ (by unfold fD; simp only[go_sem,γ,reduceCtorEq])
   have f7:F' 7=some (.int .i64 left):=hF' 7 _ (by unfold fD; simp only[go_sem,γ,reduceCtorEq])
   have f8:F' 8=some (.int .i64 i):=hF' 8 _ (by unfold fD; simp only[go_sem,γ,reduceCtorEq])
   have f13:F' 13=some w:=hF' 13 _ (by unfold fD; simp only[go_sem,γ,reduceCtorEq])
   have f14:F' 14=some (.int .i64 j):=hF' 14 _ (by unfold fD; simp only[go_sem,γ,reduceCtorEq])
   have hbp:H' p=some (.rows 3 [(iY l i j (dJ l i a j).2).1.cells]):=hH'.box (p,.rows 3 [(iY l i j (dJ l i a j).2).1.cells]) (by simp)
   have h13:(1:Nat)*3≤16777216:=by decide
   simp only[go_sem,υ,δ,γ,η,ζ,YR,f13,f15,hbp,h13]
   refine hH'.append (v:=w) (s:=3) (rows:=fS (dJ l i a j).1) L.length (src:=[(iY l i j (dJ l i a j).2).1.cells]) (by simp) rfl (YI Om) fun w' H2 h2 _=>?_
   rw[wG,bOA _ _ (bLG _),Nat.sub_self] at h2
   simp only[go_sem,γ,YS,f14,ws j]
   refine aE (α:=Nat × PV × PH) (j+1,w',H2) ⟨hlt,h2.sub (List.sublist_append_left ..) (bMX.refl _)⟩ (by simp only; omega) ?_ PH.le_refl
   unfold fD
   exact Lq
  simp only[aB.wp,go_sem] at fin
  have hstore:∀ x:RF,PH.set (PH.set H0 p (.rows 3 [kE.cells])) p (.rows 3 [x.cells])=PH.set H0 p (.rows 3 [x.cells]):=fun x=>PH.set_set p _ _
  have draw:∀ (F':PF) (H1:PH) (a1:Nat),a1≤l.length→(fD o o4 o6 n left i w j).le F'→F' 15=some (.ptr p 3 0 0)→aQ H1 ((o,aW v a1)::B++[(p,.rows 3 [kE.cells])]) (L++[(w,3,fS (dJ l i a j).1)])→iY l i j (dJ l i a j).2=fA l a1→∀ K',(∀ F2 H2,(fD o o4 o6 n left i w j).le F2→F2 15=some (.ptr p 3 0 0)→aQ H2 ((o,aW v (iY l i j (dJ l i a j).2).2)::B++[(p,.rows 3 [(iY l i j (dJ l i a j).2).1.cells])]) (L++[(w,3,fS (dJ l i a j).1)])→K' F2 H2) →
    wpOps C YQ K' F' H1:=by
   intro F' H1 a1 ha1 hF' f15 hH1 he K' hK'
   have f0:F' 0=some (.ptr o 2 0 0):=hF' 0 _ (by unfold fD; simp only[go_sem,reduceCtorEq])
   simp only[go_sem,YQ,f0]
   refine hC (Lb.frac l v T o a1 ha1) (hH1.at 0 rfl) rfl ?_
   have hH2:aQ (H1.set o (aW v (fA l a1).2)) ((o,aW v (fA l a1).2)::B++[(p,.rows 3 [kE.cells])]) (L++[(w,3,fS (dJ l i a j).1)]):=hH1.set 0 rfl _
   have hp2:=hH2.MV
   simp only[go_sem,δ,γ,f15,hp2]
   refine hK' _ _ ?_ (by simp only[go_sem,γ,f15]) ?_
   ·have g:=fun (q:Nat) u h=>hF' q u h
    unfold fD at g ⊢
    refine PF.aG (PF.aG (PF.aG (PF.aG (PF.aG (PF.aG (PF.aG (PF.aG PF.nil_le ?_) ?_) ?_) ?_) ?_) ?_) ?_) ?_
    ·simp only[go_sem,reduceCtorEq,f0]
    ·simp only[go_sem,ξ,ρ,σ,μ,κ,ι,ο,ν,υ,δ,τ,γ,η,θ,ζ,ε,reduceCtorEq,reduceIte,g 4 _ rfl]
    ·simp only[go_sem,ξ,ρ,σ,μ,κ,ι,ο,ν,υ,δ,τ,γ,η,θ,ζ,ε,reduceCtorEq,reduceIte,g 5 _ rfl]
    ·simp only[go_sem,ξ,ρ,σ,μ,κ,ι,ο,ν,υ,δ,τ,γ,η,θ,ζ,ε,reduceCtorEq,reduceIte,g 6 _ rfl]
    ·simp only[go_sem,ξ,ρ,σ,μ,κ,ι,ο,ν,υ,δ,τ,γ,η,θ,ζ,ε,reduceCtorEq,reduceIte,g 7 _ rfl]
    ·simp only[go_sem,ξ,ρ,σ,μ,κ,ι,ο,ν,υ,δ,τ,γ,η,θ,ζ,ε,reduceCtorEq,reduceIte,g 8 _ rfl]
    ·simp only[go_sem,ξ,ρ,σ,μ,κ,ι,ο,ν,υ,δ,τ,γ,η,θ,ζ,ε,reduceCtorEq,reduceIte,g 13 _ rfl]
    ·simp only[go_sem,ξ,ρ,σ,μ,κ,ι,ο,ν,υ,δ,τ,γ,η,θ,ζ,ε,reduceCtorEq,reduceIte,g 14 _ rfl]
   ·rw[he]
    exact hH2.anY (.rows 3 [(fA l a1).1.cells])
  by_cases c1:j=i+1
  ·have he:iY l i j (dJ l i a j).2=fA l (dJ l i a j).2:=by unfold iY; rw[if_pos c1]
   simp only[go_sem,γ,reduceCtorEq,bN (Om:(j:Int)=((i+1:Nat):Int))]
   refine draw _ _ _ hle (by unfold fD; exact Lq) rfl hH1 he _ ?_
   intro F2 H2 k1 k2 k3
   exact fin F2 H2 k1 k2 k3
  ·simp only[go_sem,γ,reduceCtorEq,bC (Om:¬ (j:Int)=((i+1:Nat):Int))]
   by_cases c2:j=i
   ·have he:iY l i j (dJ l i a j).2=(kE,(dJ l i a j).2):=by unfold iY; rw[if_neg c1,if_pos c2]
    simp only[go_sem,γ,reduceCtorEq,cA (Om:(j:Int)=(i:Int))]
    exact fin _ _ (by unfold fD; exact Lq) rfl (by rw[he]; exact hH1)
   ·simp only[go_sem,γ,reduceCtorEq,cV (Om:¬ (j:Int)=(i:Int))]
    refine cK Lb.torW T (o:=o) (n:=3) (a:=(dJ l i a j).2) (by decide) hle rfl (hH1.at 0 rfl) ?_
    have hH2:aQ _ ((o,aW v (aC l 3 (dJ l i a j).2).2)::B++[(p,.rows 3 [kE.cells])]) (L++[(w,3,fS (dJ l i a j).1)]):=hH1.set 0 rfl _
    by_cases c3:(aC l 3 (dJ l i a j).2).1=0
    ·have he:iY l i j (dJ l i a j).2=fA l (aC l 3 (dJ l i a j).2).2:=by unfold iY; rw[if_neg c1,if_neg c2]; simp only[c3,if_true]
     simp only[go_sem,γ,reduceCtorEq,bN (show (((aC l 3 (dJ l i a j).2).1:Nat):Int)=0 by omega)]
     refine draw _ _ _ (bK l 3 hle) (by unfold fD; exact Lq) rfl hH2 he _ ?_
     intro F2 H2 k1 k2 k3
     exact fin F2 H2 k1 k2 k3
    ·have he:iY l i j (dJ l i a j).2=(kE,(aC l 3 (dJ l i a j).2).2):=by unfold iY; rw[if_neg c1,if_neg c2]; simp only[c3,if_false]
     simp only[go_sem,γ,reduceCtorEq,bC (show ¬ (((aC l 3 (dJ l i a j).2).1:Nat):Int)=0 by omega)]
     exact fin _ _ (by unfold fD; exact Lq) rfl (by rw[he]; exact hH2)
 ·have bJA:¬ (j:Int)<(n:Nat):=by omega
  have:j=n:=by omega
  subst this
  simp only[go_sem,bJA]
  exact hK w _ _ (by unfold fD; exact Lq) hH
abbrev qL (o o4 o6:Nat) (v w1 w2 w3:PV) (a:Nat):List BX:=[(o,aW v a),(o4,aGW),(o6,YC w1 w2 w3)]
abbrev uH (s:BH) (w1 w2 w3:PV):List LI:=[(w1,3,fS s.start),(w2,1,tY s.bIY),(w3,3,fS s.exit)]
theorem bfP {C:Ctx} (Lb:rX C) {l:List Nat} {v:PV} (T:Tp l v) (o o4 o6 n i:Nat) (s:BH) (hs:s.a≤l.length) (hl:s.left≤8) (hn:n≤100) (hi:i<n) (B:List BX) (L:List LI) (rest:aB) (K:bY) (F:PF) (H:PH)
  (hF:(cT o o4 o6 n s.left i).le F) (hH:aQ H ((o,aW v s.a)::B) L)
  (hK:∀ F' H',(cT o o4 o6 n (s.left-(dH l n i s).1) i).le F'→F' 9=some (.int .i64 ((dH l n i s).1:Nat))→aQ H' ((o,aW v (dH l n i s).2)::B) L→aB.wp C rest K F' H') :
  aB.wp C (.seq (.region amT) (.seq (.seq (.region amU) (.cond (.tmp 29) (.region amV) .skip)) (.seq (.region SU) rest))) K F H:=by
 have f0:F 0=some (.ptr o 2 0 0):=hF 0 _ (by unfold cT; simp only[go_sem,reduceCtorEq])
 have f4:F 4=some (.ptr o4 4 0 0):=hF 4 _ (by unfold cT; simp only[go_sem,γ,reduceCtorEq])
 have f5:F 5=some (.int .i64 n):=hF 5 _ (by unfold cT; simp only[go_sem,γ,reduceCtorEq])
 have f6:F 6=some (.ptr o6 4 0 0):=hF 6 _ (by unfold cT; simp only[go_sem,γ,reduceCtorEq])
 have f7:F 7=some (.int .i64 s.left):=hF 7 _ (by unfold cT; simp only[go_sem,γ,reduceCtorEq])
 have f8:F 8=some (.int .i64 i):=hF 8 _ (by unfold cT; simp only[go_sem,γ,reduceCtorEq])
 have e1:IntKind.i64.wrap ((i:Int)+1)=((i+1:Nat):Int):=cY Om
 have hk:=(YD l n i s hs).2
 have e9:IntKind.i64.wrap ((s.left:Int)-((dH l n i s).1:Int))=((s.left-(dH l n i s).1:Nat):Int):=by rw[wrap_i64 Om Om]; omega
 simp only[go_sem,γ,amT,f7,amU,f8,f5,e1]
 by_cases c:i+1<n
 ·have c':((i+1:Nat):Int)<(n:Nat):=by omega
  have he:dH l n i s=aC l (s.left+1) s.a:=by unfold dH; rw[if_pos c]
  have el:IntKind.i64.wrap ((s.left:Int)+1)=((s.left+1:Nat):Int):=cY Om
  rw[he] at hK e9
  simp only[go_sem,γ,reduceCtorEq,c',amV,f0,f7,el]
  refine cK Lb.torW T (o:=o) (n:=s.left+1) (a:=s.a) Om hs rfl hH.bxP ?_
  have hH2:=hH.bvR (aW v (aC l (s.left+1) s.a).2)
  simp only[go_sem,γ,SU,f7,e9]
  refine hK _ _ ?_ rfl hH2
  unfold cT
  exact Lq
 ·have c':¬ ((i+1:Nat):Int)<(n:Nat):=by omega
  have he:dH l n i s=(s.left,s.a):=by unfold dH; rw[if_neg c]
  rw[he] at hK e9
  simp only at hK e9
  simp only[go_sem,γ,c',SU,f7,e9]
  refine hK _ _ ?_ rfl hH
  unfold cT
  exact Lq
theorem a9B {C:Ctx} (Lb:rX C) {l:List Nat} {v:PV} (o o4 o6 n i left k a:Nat) (hk:k≤8) (hi:i<n) (hn:n≤100) (s:BH) (hs:s.start.length=i) (w1 w2 w3:PV) (B:List BX) (rest:aB) (K:bY) (F:PF) (H:PH)
  (hF:(cT o o4 o6 n left i).le F) (f9:F 9=some (.int .i64 k)) (hH:aQ H (qL o o4 o6 v w1 w2 w3 a++B) (uH s w1 w2 w3))
  (hK:∀ w1' F' H' B',(cT o o4 o6 n left i).le F'→aQ H' (qL o o4 o6 v w1' w2 w3 a++B') (uH { s with start:=s.start++[mkT (k:Nat) 8] } w1' w2 w3)→aB.wp C rest K F' H') :
  aB.wp C (.seq (.region YJ) (.seq (.region YK) rest)) K F H:=by
 have f0:F 0=some (.ptr o 2 0 0):=hF 0 _ (by unfold cT; simp only[go_sem,reduceCtorEq])
 have f4:F 4=some (.ptr o4 4 0 0):=hF 4 _ (by unfold cT; simp only[go_sem,γ,reduceCtorEq])
 have f5:F 5=some (.int .i64 n):=hF 5 _ (by unfold cT; simp only[go_sem,γ,reduceCtorEq])
 have f6:F 6=some (.ptr o6 4 0 0):=hF 6 _ (by unfold cT; simp only[go_sem,γ,reduceCtorEq])
 have f7:F 7=some (.int .i64 left):=hF 7 _ (by unfold cT; simp only[go_sem,γ,reduceCtorEq])
 have f8:F 8=some (.int .i64 i):=hF 8 _ (by unfold cT; simp only[go_sem,γ,reduceCtorEq])
 simp only[go_sem,YJ,f9]
 refine aA (Lb.fmk (k:Int) 8 (by unfold cZ; omega) (by unfold cZ; omega)) rfl ?_
 unfold vN
 rw[if_neg (by decide)]
 simp only[go_sem,δ,γ]
 refine aN fun p hp=>?_
 have hH1:=hH.new hp (.rows 3 [(mkT (k:Nat) 8).cells])
 have g6:=hH1.at 2 rfl
 have gp:=hH1.MV
 have h13:(1:Nat)*3≤16777216:=by decide
 have hst:∀ y,PH.set (PH.set H p (.rows 3 [[PV.bool false,PV.bIU,PV.bIU]])) p y=PH.set H p y:=fun y=>PH.set_set p _ _
 simp only[go_sem,υ,δ,γ,η,θ,ζ,YK,f6,g6,gp,h13]
 refine hH1.append 0 (src:=[(mkT (k:Nat) 8).cells]) rfl rfl (YI Om) fun w1' H2 h2 hw=>?_
 rw[wG] at h2 hw; rw[lZ] at hw
 obtain⟨q,rfl⟩:=hw (by simp)
 have g6':=h2.at 2 rfl
 simp only[go_sem,δ,θ,g6',bLO,bLW,or_false,forall_eq]
 have h3:=h2.set 2 rfl (YC (.osl q 3 0 (s.start++[mkT (k:Nat) 8]).length) w2 w3)
 refine hK _ _ _ (B++[(p,.rows 3 [(mkT (k:Nat) 8).cells])]) ?_ h3
 unfold cT
 exact Lq
theorem bfO {C:Ctx} (Lb:rX C) {l:List Nat} {v:PV} (T:Tp l v) (o o4 o6 n i left a:Nat) (ha:a≤l.length) (hi:i<n) (hn:n≤100) (s:BH) (hs:s.exit.length=i) (w1 w2 w3:PV) (B:List BX) (rest:aB) (K:bY) (F:PF) (H:PH)
  (hF:(cT o o4 o6 n left i).le F) (hH:aQ H (qL o o4 o6 v w1 w2 w3 a++B) (uH s w1 w2 w3))
  (hK:∀ w3' F' H' B',(cT o o4 o6 n left i).le F'→aQ H' (qL o o4 o6 v w1 w2 w3' (eS l n i a).2++B') (uH { s with exit:=s.exit++[(eS l n i a).1] } w1 w2 w3')→aB.wp C rest K F' H') :
  aB.wp C (.seq (.region YL) (.seq (.seq (.region YM) (.cond (.tmp 58) (.region YN) .skip)) (.seq (.region IA) rest))) K F H:=by
 have f0:F 0=some (.ptr o 2 0 0):=hF 0 _ (by unfold cT; simp only[go_sem,reduceCtorEq])
 have f4:F 4=some (.ptr o4 4 0 0):=hF 4 _ (by unfold cT; simp only[go_sem,γ,reduceCtorEq])
 have f5:F 5=some (.int .i64 n):=hF 5 _ (by unfold cT; simp only[go_sem,γ,reduceCtorEq])
 have f6:F 6=some (.ptr o6 4 0 0):=hF 6 _ (by unfold cT; simp only[go_sem,γ,reduceCtorEq])
 have f7:F 7=some (.int .i64 left):=hF 7 _ (by unfold cT; simp only[go_sem,γ,reduceCtorEq])
 have f8:F 8=some (.int .i64 i):=hF 8 _ (by unfold cT; simp only[go_sem,γ,reduceCtorEq])
 have e1:IntKind.i64.wrap ((i:Int)+1)=((i+1:Nat):Int):=cY Om
 simp only[go_sem,YL,f0]
 refine hC (Lb.frac l v T o a ha) (hH.at 0 rfl) rfl ?_
 have hH1:=hH.set 0 rfl (aW v (fA l a).2)
 simp only[go_sem,δ]
 refine aN fun p hp=>?_
 have hH2:=hH1.new hp (.rows 3 [(fA l a).1.cells])
 simp only[go_sem,δ,γ,YM,f8,f5,e1]
 have fin:∀ (F':PF) (H':PH),(cT o o4 o6 n left i).le F'→F' 12=some (.ptr p 3 0 0)→aQ H' (qL o o4 o6 v w1 w2 w3 (eS l n i a).2++B++[(p,.rows 3 [(eS l n i a).1.cells])]) (uH s w1 w2 w3)→wpOps C IA (aB.wp C rest K) F' H':=by
  intro F' H' hF' f12 hH'
  have q0:F' 0=some (.ptr o 2 0 0):=hF' 0 _ (by unfold cT; simp only[go_sem,reduceCtorEq])
  have q4:F' 4=some (.ptr o4 4 0 0):=hF' 4 _ (by unfold cT; simp only[go_sem,γ,reduceCtorEq])
  have q5:F' 5=some (.int .i64 n):=hF' 5 _ (by unfold cT; simp only[go_sem,γ,reduceCtorEq])
  have q6:F' 6=some (.ptr o6 4 0 0):=hF' 6 _ (by unfold cT; simp only[go_sem,γ,reduceCtorEq])
  have q7:F' 7=some (.int .i64 left):=hF' 7 _ (by unfold cT; simp only[go_sem,γ,reduceCtorEq])
  have q8:F' 8=some (.int .i64 i):=hF' 8 _ (by unfold cT; simp only[go_sem,γ,reduceCtorEq])
  have g6:=hH'.at 2 rfl
  have gp:=hH'.MV
  have h13:(1:Nat)*3≤16777216:=by decide
  simp only[go_sem,υ,δ,γ,η,ζ,IA,q6,g6,f12,gp,h13]
  refine hH'.append 2 (src:=[(eS l n i a).1.cells]) rfl rfl (YI Om) fun w3' H2 h2 hw=>?_
  rw[wG] at h2 hw; rw[lZ] at hw
  obtain⟨q,rfl⟩:=hw (by simp)
  have g6':=h2.at 2 rfl
  simp only[go_sem,δ,g6',bLO,bLW,or_false,forall_eq]
  have h3:=h2.set 2 rfl (YC w1 w2 (.osl q 3 0 (s.exit++[(eS l n i a).1]).length))
  refine hK _ _ _ (B++[(p,.rows 3 [(eS l n i a).1.cells])]) ?_ h3
  unfold cT
  exact Lq
 by_cases c:i+1<n
 ·have c':((i+1:Nat):Int)<(n:Nat):=by omega
  have hle:=tN l ha
  simp only[go_sem,γ,reduceCtorEq,c',f0]
  refine cK Lb.torW T (o:=o) (n:=3) (a:=(fA l a).2) (by decide) hle rfl (hH2.at 0 rfl) ?_
  have hH3:=hH2.set 0 rfl (aW v (aC l 3 (fA l a).2).2)
  by_cases c3:(aC l 3 (fA l a).2).1=0
  ·have he:eS l n i a=(kE,(aC l 3 (fA l a).2).2):=by unfold eS; simp only[if_pos c,c3,if_true]
   have gp:=aQ.MV (B:=qL o o4 o6 v w1 w2 w3 (aC l 3 (fA l a).2).2++B) hH3
   simp only[go_sem,γ,bN (show (((aC l 3 (fA l a).2).1:Nat):Int)=0 by omega),YN]
   refine aA (Lb.int 0 (by unfold cZ; omega)) rfl ?_
   simp only[go_sem,δ,γ,gp]
   refine fin _ _ ?_ rfl ?_
   ·unfold cT
    exact Lq
   ·rw[he]
    exact aQ.anY (B:=qL o o4 o6 v w1 w2 w3 (aC l 3 (fA l a).2).2++B) hH3 (.rows 3 [kE.cells])
  ·have he:eS l n i a=((fA l a).1,(aC l 3 (fA l a).2).2):=by unfold eS; simp only[if_pos c,c3,if_false]
   simp only[go_sem,γ,bC (show ¬ (((aC l 3 (fA l a).2).1:Nat):Int)=0 by omega)]
   refine fin _ _ ?_ rfl ?_
   ·unfold cT
    exact Lq
   ·rw[he]
    exact hH3
 ·have c':¬ ((i+1:Nat):Int)<(n:Nat):=by omega
  have he:eS l n i a=fA l a:=by unfold eS; simp only[if_neg c]
  simp only[go_sem,γ,reduceCtorEq,c']
  refine fin _ _ ?_ rfl ?_
  ·unfold cT
   exact Lq
  ·rw[he]
   exact hH2
def bkT (l:List Nat) (v:PV) (o dX a:Nat) (r:PV) (H:PH):Prop:=r=.agg (qA l dX a).1.cells∧H=PH.nil.set o (aW v (qA l dX a).2)
theorem bhD {l:List (List RF)} (h:l.length≤1000):roomFor (tY l).length 1 24:=by
 unfold roomFor
 simp only[bKY,maxLen]; omega
theorem bhE (l:List (List RF)) (x:List RF):tY l++[[frs x]]=tY (l++[x]):=by simp[tY]
theorem a9A {C:Ctx} (Lb:rX C) {l:List Nat} {v:PV} (T:Tp l v) (o o4 o6 n left i a:Nat) (ha:a≤l.length) (hn:n≤100) (hi:i<n) (s:BH) (hs:s.bIY.length=i) (w1 w2 w3:PV) (B:List BX) (K:bY) (F:PF) (H:PH)
  (hF:(cT o o4 o6 n left i).le F) (hH:aQ H (qL o o4 o6 v w1 w2 w3 a++B) (uH s w1 w2 w3))
  (hK:∀ w2' w13 F' H' B',(cT o o4 o6 n left i).le F'→(∃ q,w13=.osl q 3 0 n)→aQ H' (qL o o4 o6 v w1 w2' w3 (dJ l i a n).2++B') [(w1,3,fS s.start),(w2',1,tY s.bIY++[[w13]]),(w3,3,fS s.exit),(w13,3,fS (dJ l i a n).1)]→K .normal F' H') :
  aB.wp C (.seq (.region YO) (.seq (.seq (.region YP) (.block 2 (.loop HZ))) (.region YT))) K F H:=by
 have f0:F 0=some (.ptr o 2 0 0):=hF 0 _ (by unfold cT; simp only[go_sem,reduceCtorEq])
 have f4:F 4=some (.ptr o4 4 0 0):=hF 4 _ (by unfold cT; simp only[go_sem,γ,reduceCtorEq])
 have f5:F 5=some (.int .i64 n):=hF 5 _ (by unfold cT; simp only[go_sem,γ,reduceCtorEq])
 have f6:F 6=some (.ptr o6 4 0 0):=hF 6 _ (by unfold cT; simp only[go_sem,γ,reduceCtorEq])
 have f7:F 7=some (.int .i64 left):=hF 7 _ (by unfold cT; simp only[go_sem,γ,reduceCtorEq])
 have f8:F 8=some (.int .i64 i):=hF 8 _ (by unfold cT; simp only[go_sem,γ,reduceCtorEq])
 simp only[go_sem,YO,YP]
 refine bnO (C:=C) Lb T o o4 o6 n left i a ha hn hi ([(o4,aGW),(o6,YC w1 w2 w3)]++B) (uH s w1 w2 w3) _ _ H ?_ hH ?_
 ·unfold fD
  (repeat' (first|exact PF.nil_le|refine PF.aG ?_ ?_))<;>first|(simp only[go_sem,γ,reduceCtorEq,f0,f4,f5,f6,f7,f8]<;>rfl)|rfl
 intro w F1 H1 hF1 hH1
 have hlen:=ZT l i a n
 have hw:∃ q,w=.osl q 3 0 n:=by
  rcases hH1.own (v:=w) 3 rfl with ⟨h1,_⟩ | ⟨q,rs,h1,_⟩
  ·have:=congrArg List.length h1
   rw[lZ,hlen] at this
   simp at this; omega
  ·rw[lZ,hlen] at h1
   exact⟨q,h1⟩
 obtain⟨q,rfl⟩:=hw
 have g0:F1 0=some (.ptr o 2 0 0):=hF1 0 _ (by unfold fD; simp only[go_sem,reduceCtorEq])
 have g4:F1 4=some (.ptr o4 4 0 0):=hF1 4 _ (by unfold fD; simp only[go_sem,γ,reduceCtorEq])
 have g5:F1 5=some (.int .i64 n):=hF1 5 _ (by unfold fD; simp only[go_sem,γ,reduceCtorEq])
 have g6:F1 6=some (.ptr o6 4 0 0):=hF1 6 _ (by unfold fD; simp only[go_sem,γ,reduceCtorEq])
 have g7:F1 7=some (.int .i64 left):=hF1 7 _ (by unfold fD; simp only[go_sem,γ,reduceCtorEq])
 have g8:F1 8=some (.int .i64 i):=hF1 8 _ (by unfold fD; simp only[go_sem,γ,reduceCtorEq])
 have g13:F1 13=some (.osl q 3 0 n):=hF1 13 _ (by unfold fD; simp only[go_sem,γ,reduceCtorEq])
 have b6:=hH1.at 2 rfl
 have h11:(1:Nat)*1≤16777216:=by decide
 simp only[go_sem,υ,δ,γ,η,θ,ζ,YT,g6,b6,g13,h11,bLO,bLW,or_false,forall_eq]
 refine hH1.append 1 (src:=[[.osl q 3 0 n]]) rfl Sq (bhD Om) fun w2' H2 h2 hw2=>?_
 obtain⟨q2,rfl⟩:=hw2 (by simp)
 have b6':=h2.at 2 rfl
 simp only[go_sem,δ,θ,b6',bLO,bLW,or_false,forall_eq]
 have h3:=h2.set 2 rfl (YC w1 (.osl q2 1 0 (tY s.bIY++[[PV.osl q 3 0 n]]).length) w3)
 have hl2:(tY s.bIY++[[(PV.osl q 3 0 n:PV)]]).length=s.bIY.length+1:=by simp
 rw[hl2] at h3 ⊢
 refine hK (.osl q2 1 0 (s.bIY.length+1)) (.osl q 3 0 n) _ _ B ?_ ⟨q,rfl⟩ h3
 unfold cT
 (repeat' (first|exact PF.nil_le|refine PF.aG ?_ ?_))<;>first|(simp only[go_sem,γ,reduceCtorEq,g0,g4,g5,g6,g7,g8]<;>rfl)|rfl
theorem buG {C:Ctx} (Lb:rX C) {l:List Nat} {v:PV} (T:Tp l v) (o dX a:Nat) (hm:0<dX) (hm2:dX≤50) (ha:a≤l.length):OG.wp C (aS a8Z.res (bkT l v o dX a)) (PF.args [.ptr o 2 0 0,.int .i64 dX]) (PH.nil.set o (aW v a)):=by
 have h0:aQ (PH.nil.set o (aW v a)) [(o,aW v a)] []:=aQ.nil.new (H:=PH.nil) rfl (aW v a)
 simp only[go_sem,δ,OG,aYR,a8Z]
 refine aN fun o4 ho4=>?_
 have h1:=h0.new ho4 aGW
 simp only[go_sem,γ,reduceCtorEq,aYS]
 refine cK Lb.torW T (o:=o) (n:=dX) (a:=a) Om ha Sq (h1.at 0 rfl) ?_
 have h2:=h1.set 0 rfl (aW v (aC l dX a).2)
 have hN:=bT l hm a
 have hNa:=bK l dX ha
 have e1:IntKind.i64.wrap (1+((aC l dX a).1:Int))=((1+(aC l dX a).1:Nat):Int):=by rw[wrap_i64 Om Om]; omega
 have hRT:∀ s:BH,s=fO l (1+(aC l dX a).1) (aC l dX a).2 (1+(aC l dX a).1)→qA l dX a=(⟨[],s.start,s.bIY,s.exit⟩,s.a):=fun s hs=>by rw[hs]; rfl
 have hLR:∀ r H,bkT l v o dX a r H↔r=.agg (qA l dX a).1.cells∧H=PH.nil.set o (aW v (qA l dX a).2):=fun _ _=>Iff.rfl
 generalize hn:1+(aC l dX a).1=n at *
 generalize hb:(aC l dX a).2=b at *
 have hn0:0<n:=by omega
 have hn100:n≤100:=by omega
 simp only[go_sem,δ,γ,e1,aYT]
 refine aN fun o6 ho6=>?_
 have h3:=((h2.new ho6 aGW).oH 3).oH 1
 have h4:=h3.oH 3
 simp only[go_sem,aYU,aYV]
 refine wp_loop (α:=Nat × PV × PV × PV × PH) (fun t=>cT o o4 o6 n (fO l n b t.1).left t.1) (fun t=>t.2.2.2.2)
  (fun t=>t.1≤n∧aQ t.2.2.2.2 (qL o o4 o6 v t.2.1 t.2.2.1 t.2.2.2.1 (fO l n b t.1).a) (uH (fO l n b t.1) t.2.1 t.2.2.1 t.2.2.2.1)) (fun t=>n-t.1) (0,.bIU,.bIU,.bIU,_) ⟨bLE _,h4⟩ ?_ PH.le_refl ?_
 ·unfold cT
  (repeat' (first|exact PF.nil_le|refine PF.aG ?_ ?_))<;>first|(simp only[go_sem,γ,reduceCtorEq,fO]<;>rfl)|rfl
 rintro⟨i,w1,w2,w3,H0⟩ ⟨hi,hH⟩
 simp only at hi hH ⊢
 obtain⟨k1,k2,k3,k4,k5⟩:=amO l n hNa i
 simp only[go_sem,γ,reduceCtorEq,aIV,aYW,cT]
 by_cases hlt:i<n
 ·have bJA:(i:Int)<(n:Nat):=by omega
  have bJB:fO l n b (i+1)=⟨(fO l n b i).start++[mkT ((dH l n i (fO l n b i)).1:Nat) 8],(fO l n b i).exit++[(eS l n i (dH l n i (fO l n b i)).2).1],(fO l n b i).bIY++[(dJ l i (eS l n i (dH l n i (fO l n b i)).2).2 n).1],(fO l n b i).left-(dH l n i (fO l n b i)).1,(dJ l i (eS l n i (dH l n i (fO l n b i)).2).2 n).2⟩:=rfl
  have kl:=YD l n i (fO l n b i) k1
  have ke:=aDD l n i kl.1
  generalize hs:fO l n b i=s at *
  simp only[go_sem,bJA]
  refine bfP (C:=C) Lb T o o4 o6 n i s k1 k2 hn100 hlt [(o4,aGW),(o6,YC w1 w2 w3)] (uH s w1 w2 w3) _ _ _ H0 (by unfold cT; exact Lq) hH ?_
  intro F1 H1 hF1 f9 hH1
  refine a9B (C:=C) (l:=l) Lb o o4 o6 n i _ (dH l n i s).1 (dH l n i s).2 Om hlt hn100 s k3 w1 w2 w3 [] _ _ F1 H1 hF1 f9 hH1 ?_
  intro w1' F2 H2 B2 hF2 hH2
  refine bfO (C:=C) Lb T o o4 o6 n i _ (dH l n i s).2 kl.1 hlt hn100 { s with start:=s.start++[mkT ((dH l n i s).1:Nat) 8] } k4 w1' w2 w3 B2 _ _ F2 H2 hF2 hH2 ?_
  intro w3' F3 H3 B3 hF3 hH3
  refine a9A (C:=C) Lb T o o4 o6 n _ i (eS l n i (dH l n i s).2).2 ke hn100 hlt { s with start:=s.start++[mkT ((dH l n i s).1:Nat) 8],exit:=s.exit++[(eS l n i (dH l n i s).2).1] } k5 w1' w2 w3' B3 _ F3 H3 hF3 hH3 ?_
  rintro w2' w13 F4 H4 B4 hF4 ⟨q,rfl⟩ hH4
  have g0:F4 0=some (.ptr o 2 0 0):=hF4 0 _ (by unfold cT; simp only[go_sem,reduceCtorEq])
  have g4:F4 4=some (.ptr o4 4 0 0):=hF4 4 _ (by unfold cT; simp only[go_sem,γ,reduceCtorEq])
  have g5:F4 5=some (.int .i64 n):=hF4 5 _ (by unfold cT; simp only[go_sem,γ,reduceCtorEq])
  have g6:F4 6=some (.ptr o6 4 0 0):=hF4 6 _ (by unfold cT; simp only[go_sem,γ,reduceCtorEq])
  have g7:F4 7=some (.int .i64 (s.left-(dH l n i s).1:Nat)):=hF4 7 _ (by unfold cT; simp only[go_sem,γ,reduceCtorEq])
  have g8:F4 8=some (.int .i64 i):=hF4 8 _ (by unfold cT; simp only[go_sem,γ,reduceCtorEq])
  obtain⟨rs,z1,z2,z3,z4,z5⟩:=hH4.frz 3 rfl
  have y1:=z4 0 _ (by decide) rfl
  have y2:=z4 1 _ (by decide) rfl
  have y3:=z4 2 _ (by decide) rfl
  simp only at y1 y2 y3
  have y4:=T.frz q 3 rs
  simp only[go_sem,γ,aIZ,g8,ws i]
  refine OB (i+1,w1',w2',w3',H4.frz q 3 rs) z1 ⟨hlt,?_⟩ (by simp only; omega) ?_ PH.le_refl
  ·rw[bJB]
   have eB:(qL o o4 o6 v w1' w2' w3' (dJ l i (eS l n i (dH l n i s).2).2 n).2).map (fun b=>(b.1,b.2.frz q 3 rs))=qL o o4 o6 v w1' w2' w3' (dJ l i (eS l n i (dH l n i s).2).2 n).2:=by
    simp only[bMI,bMZ,cD.frz,y1,y2,y3,y4]
    rfl
   have eL:([(w1',3,fS (s.start++[mkT ((dH l n i s).1:Nat) 8])),(w2',1,tY s.bIY++[[.osl q 3 0 n]]),(w3',3,fS (s.exit++[(eS l n i (dH l n i s).2).1]))]:List LI).map (fun x=>(x.1,x.2.1,x.2.2.map fun r=>r.map (PV.dN q 3 rs))) =
     uH ⟨s.start++[mkT ((dH l n i s).1:Nat) 8],s.exit++[(eS l n i (dH l n i s).2).1],s.bIY++[(dJ l i (eS l n i (dH l n i s).2).2 n).1],s.left-(dH l n i s).1,(dJ l i (eS l n i (dH l n i s).2).2 n).2⟩ w1' w2' w3':=by
    have e2:(tY s.bIY++[[PV.osl q 3 0 n]]).map (fun r=>r.map (PV.dN q 3 rs))=tY (s.bIY++[(dJ l i (eS l n i (dH l n i s).2).2 n).1]):=by
     rw[bMW,asM,bMI,bMZ,bMI,bMZ,z2,bhE]
    show ([(w1',3,(fS (s.start++[mkT ((dH l n i s).1:Nat) 8])).map (fun r=>r.map (PV.dN q 3 rs))),(w2',1,(tY s.bIY++[[PV.osl q 3 0 n]]).map (fun r=>r.map (PV.dN q 3 rs))),(w3',3,(fS (s.exit++[(eS l n i (dH l n i s).2).1])).map (fun r=>r.map (PV.dN q 3 rs)))]:List LI)=_
    rw[GH,e2,GH]
   rw[← eB,← eL]
   exact z5.sub (by rw[bMW]; exact List.sublist_append_left ..) (bMX.refl _)
  ·rw[bJB]
   (repeat' (first|exact PF.nil_le|refine PF.aG ?_ ?_))<;>first|(simp only[go_sem,γ,reduceCtorEq,g0,g4,g5,g6,g7,g8]<;>rfl)|rfl
 ·have bJA:¬ (i:Int)<(n:Nat):=by omega
  have:i=n:=by omega
  subst this
  simp only[go_sem,γ,reduceCtorEq,bJA,aJA]
  have b4:=hH.at 1 rfl
  have b6:=hH.at 2 rfl
  have osl:∀ {w:PV} {z:Nat} {rows:List (List PV)},rows.length=i→aY H0 z w rows→∃ q,w=.osl q z 0 i:=by
   intro w z rows hr hO
   rcases hO with ⟨h1,_⟩ | ⟨q,rs,h1,_⟩
   ·rw[h1] at hr; simp at hr; omega
   ·exact⟨q,by rw[h1,hr]⟩
  obtain⟨q1,rfl⟩:=osl (by rw[lZ,k3]) (hH.own 0 rfl)
  obtain⟨q2,rfl⟩:=osl (by rw[bKY,k5]) (hH.own 1 rfl)
  obtain⟨q3,rfl⟩:=osl (by rw[lZ,k4]) (hH.own 2 rfl)
  have hR:=hRT (fO l i b i) rfl
  simp only[go_sem,δ,γ,reduceCtorEq,b6,b4,bLO,bLW,or_false,forall_eq,forall_eq_or_imp]
  have x1:=hH.set 1 rfl (YC (.osl q1 3 0 i) (.osl q2 1 0 i) (.osl q3 3 0 i))
  obtain⟨r1,s1,s2,s3,s4,s5⟩:=x1.frz 0 rfl
  have u2:=s4 1 _ (by decide) rfl
  have u3:=s4 2 _ (by decide) rfl
  simp only at u2 u3
  have u4:=T.frz q1 3 r1
  obtain⟨r2,t1,t2,t3,t4,t5⟩:=s5.frz 0 rfl
  have m3:=t4 1 _ (by decide) rfl
  simp only at m3
  have m4:=T.frz q2 1 r2
  obtain⟨r3,n1,n2,n3,n4,n5⟩:=t5.frz 0 rfl
  have n4:=T.frz q3 3 r3
  refine FG (vs:=[.agg [.str [],.osl q1 3 0 i,.osl q2 1 0 i,.osl q3 3 0 i]]) (.inr rfl) ?_ (.step s1 (.step t1 (.step n1 (.done (H2:=PH.nil.set o (aW v (fO l i b i).a)) ?_ (PH.aG PH.nil_le ?_)))))
  ·simp only[go_sem,δ,γ,reduceCtorEq]
  ·rw[hLR,hR]
   refine⟨?_,rfl⟩
   simp only[bF,PV.frz,PV.sG,bMI,bMZ,s2,u2,u3,t2,m3,n2]
   simp only[PV.dN,GH _ _ _ _,asM _ _ _ _]
  ·have:=n5.at 0 rfl
   rw[this]
   simp only[cD.frz,bMI,bMZ,u4,m4,n4]
   rfl
structure mT (C:Ctx):Prop extends rX C where
 law:∀ (l:List Nat) (v:PV),Tp l v→∀ (o dX a:Nat),0<dX→dX≤50→a≤l.length→aH C 2 [.ptr o 2 0 0,.int .i64 dX] (PH.nil.set o (aW v a)) (bkT l v o dX a)
structure GOk (l:List Nat) (bIS:Nat) (s:GS):Prop where
 bJF:s.bJF.length≤35
 bJT:s.bJT.length≤bIS
 a:s.a≤l.length
theorem XL {l:List Nat} {mc bIS dom:Nat} {s:GS} (h:GOk l bIS s):∀ i,GOk l bIS (jO l mc bIS dom s i)∧(jO l mc bIS dom s i).bJF=s.bJF
 | 0=>⟨h,rfl⟩
 | i+1=>by
  obtain⟨⟨h1,h2,h3⟩,h4⟩:=XL (mc:=mc) (dom:=dom) h i
  simp only[jO]
  split
  ·exact⟨⟨h1,by simp only[bLC,bLH]; omega,bK l mc h3⟩,h4⟩
  ·exact⟨⟨h1,h2,h3⟩,h4⟩
theorem aVW {l:List Nat} {level dom bIS:Nat} {s:GS} (h:GOk l bIS s) (hf:pL bIS s=false):GOk l bIS (mW l level dom s)∧∃ x:cI,(mW l level dom s).bJF=s.bJF++[x]∧x.level=(level:Int)∧x.parent=(dom:Int):=by
 obtain⟨h1,h2,h3⟩:=h
 unfold pL at hf
 rw[Bool.or_eq_false_iff] at hf
 have hd:=of_decide_eq_false hf.2
 refine⟨⟨?_,h2,?_⟩,_,rfl,rfl,rfl⟩
 ·simp only[mW,bLC,bLH]; omega
 ·have a1:=bK l 3 (bK l 16 h3)
  simp only[mW]
  split
  ·exact bK l 6 a1
  ·exact a1
theorem XM {l:List Nat} {level bIS dom:Nat} {rec:Nat→GS→GS} (hrec:∀ d t,GOk l bIS t→GOk l bIS (rec d t)∧∃ u,(rec d t).bJF=t.bJF++u) {s:GS} (h:GOk l bIS s) :
  ∀ i,GOk l bIS (fW l level bIS dom rec s i)∧∃ u,(fW l level bIS dom rec s i).bJF=s.bJF++u
 | 0=>⟨h,[],by simp[fW]⟩
 | i+1=>by
  obtain⟨h1,u,h2⟩:=XM hrec h i
  simp only[fW]
  split
  ·exact⟨h1,u,h2⟩
  ·rename_i hf
   obtain⟨g1,x,g2,-⟩:=aVW (level:=level) (dom:=dom) h1 (by simpa using hf)
   obtain⟨k1,u',k2⟩:=hrec ((mW l level dom (fW l level bIS dom rec s i)).bJF.length-1) _ g1
   exact⟨k1,u++[x]++u',by rw[k2,g2,h2]; simp⟩
theorem GR {l:List Nat} {mc bIS:Nat}:∀ (k dom:Nat) {s:GS},GOk l bIS s→GOk l bIS (eM l mc bIS k dom s)∧∃ u,(eM l mc bIS k dom s).bJF=s.bJF++u
 | 0,dom,s,h=>by
  have h0:GOk l bIS { s with a:=(aC l 2 s.a).2 }:=⟨h.bJF,h.bJT,bK l 2 h.a⟩
  obtain⟨h1,h2⟩:=XL (mc:=mc) (dom:=dom) h0 (1+(aC l 2 s.a).1)
  exact⟨h1,[],by simp only[eM]; rw[h2]; simp⟩
 | k+1,dom,s,h=>by
  have h0:GOk l bIS { s with a:=(aC l 2 s.a).2 }:=⟨h.bJF,h.bJT,bK l 2 h.a⟩
  exact XM (level:=4-k) (dom:=dom) (fun d t ht=>GR k d ht) h0 (if 4-k=2 then 1 else 1+(aC l 2 s.a).1)
theorem a7A {l : List Nat} {level bIS dom : Nat} {rec : Nat → GS → GS} {s : GS} {i : Nat} (h : pL bIS (fW l level bIS dom rec s i) = true) : ∀ n, i ≤ n → fW l level bIS dom rec s n = fW l level bIS dom rec s i := by
  intro n hn
  induction n with
  | zero => have : i = 0 := by omega
            subst this; rfl
  | succ n ih =>
    rcases bLS n i with h' | h'
    · have : i = n + 1 := by omega
      subst this; rfl
    · have e := ih h'
      simp only [fW]
      rw [e, if_pos h]
def mkS (l:List Nat) (v:PV):Spec:=fun name vs=>match name,vs with
 | 29,[.str s,.int _ i]=>some ([],fun _=>aF (.str (s++bV i.toNat)))
 | 47,[.int _ n]=>some ([],fun _=>aF (.agg (mkT n 1).cells))
 | 4,[.ptr o _ _ _,.int _ n]=>some ([o],fun H0 r H'=>∀ a,H0 o=some (aW v a)→abM l v o n.toNat a r H')
 | _,_=>none
section
variable {C:Ctx} {F:PF} {H Hs:PH} {l:List Nat} {v:PV} {o a:Nat}
theorem qQ (Lb:rW C) (T:Tp l v) {n:Nat} {st:Bool} {args:List aP} {d:Option Nat} {K:PF→PH→Prop} (hn:n≤1000000) (ha:a≤l.length) (bKN:aP.evs F args=some [.ptr o 2 0 0,.int .i64 n]) (ho:H o=some (aW v a))
  (hle:Hs.le (H.set o (aW v (aC l n a).2))) (hk:K (F.put d (.int .i64 ((aC l n a).1:Nat))) (H.set o (aW v (aC l n a).2))):dOp C Hs (mkS l v) st (.call 4 args) d K F H:=by
 refine blE (x:=aW v a) (y:=aW v (aC l n a).2) (r:=.int .i64 ((aC l n a).1:Nat)) (R:=fun H0 r H'=>∀ a,H0 o=some (aW v a)→abM l v o n a r H') rfl ho (Lb.next l v T o n a hn ha) ?_ ?_ bKN hle hk
 ·intro b hb
  rw[iV] at hb
  injection hb with hb
  injection hb with _ hb
  injection hb with hb _
  injection hb with _ hb
  injection hb with hb _
  injection hb with _ hb
  have:a=b:=by omega
  subst this
  exact⟨rfl,rfl⟩
 ·intro r' H' hr
  exact hr a (by rw[iV])
theorem FU (Lb:rX C) {s:List UInt8} {n:Nat} {st:Bool} {args:List aP} {d:Option Nat} {K:PF→PH→Prop} (hs:s.length≤100) (hn:n<100) (bKN:aP.evs F args=some [.str s,.int .i64 n]) (hle:Hs.le H) (hk:K (F.put d (.str (s++bV n))) H) :
  dOp C Hs (mkS l v) st (.call 29 args) d K F H :=
 bE (v:=.str (s++bV n)) rfl (Lb.name s n hs hn) bKN hle hk
theorem brZ (Lb:rW C) {n:Int} {st:Bool} {args:List aP} {d:Option Nat} {K:PF→PH→Prop} (hn:cZ n) (bKN:aP.evs F args=some [.int .i64 n]) (hle:Hs.le H) (hk:K (F.put d (.agg (mkT n 1).cells)) H) :
  dOp C Hs (mkS l v) st (.call 47 args) d K F H :=
 bE (v:=.agg (mkT n 1).cells) rfl (Lb.int n hn) bKN hle hk
end
theorem aY.vW {H:PH} {s:Nat} {v:PV} {rows:List (List PV)} (h:aY H s v rows):PV.vW v=some (.int .i64 (rows.length:Nat)):=by
 rcases h with ⟨rfl,rfl⟩ | ⟨q,rs,rfl,_⟩<;>rfl
abbrev jY (l:List cI):List (List PV):=l.map cI.cells
abbrev lY (l:List dB):List (List PV):=l.map dB.cells
abbrev flB (ext wl wm wd wr wp wv:PV):cD:=.rows 7 [[ext,wl,wm,wd,wr,wp,wv]]
structure GE where
 o:Nat
 fo:Nat
 qm:Nat
 ext:PV
 wl:PV
 wp:PV
 wv:PV
abbrev GE.boxes (G:GE) (v:PV) (mc:Nat) (wd wr:PV) (a:Nat):List BX:=[(G.o,aW v a),(G.fo,flB G.ext G.wl (.osl G.qm 4 0 mc) wd wr G.wp G.wv)]
abbrev lJ (s:GS) (wd wr:PV):List LI:=[(wd,7,jY s.bJF),(wr,3,lY s.bJT)]
def eT (G:GE) (dom bIS level n i:Nat):PF:=(((((((PF.nil.set 0 (.ptr G.o 2 0 0)).set 1 (.ptr G.fo 7 0 0)).set 2 (.int .i64 dom)).set 3 (.int .i64 bIS)).set 8 (.int .i64 level)).set 9 (.int .i64 n)).set 10 (.int .i64 i))
theorem aY.one {H:PH} {s:Nat} {v:PV} {rows:List (List PV)} (h:aY H s v rows) (hn:0<rows.length):∃ q,v=.osl q s 0 rows.length:=by
 rcases h with ⟨rfl,_⟩ | ⟨q,rs,rfl,_⟩
 ·simp at hn
 ·exact⟨q,rfl⟩
theorem aIL {C:Ctx} (Lb:mT C) {l:List Nat} {v:PV} (T:Tp l v) (G:GE) (mc bIS dom n:Nat) (hmc:0<mc) (hmc2:mc≤1000) (hdr:bIS≤60) (hn:n≤10) (s:GS) (hs:GOk l bIS s) (wd wr:PV) (K:bY) (F:PF) (H:PH)
  (hF:(eT G dom bIS 5 n 0).le F) (hH:aQ H (G.boxes v mc wd wr s.a) (lJ s wd wr))
  (hK:∀ wd' wr' F' H',aQ H' (G.boxes v mc wd' wr' (jO l mc bIS dom s n).a) (lJ (jO l mc bIS dom s n) wd' wr')→K (.exit 0) F' H') :
  aB.wp C (.loop vF) K F H:=by
 refine wp_loop (α:=Nat × PV × PV × PH) (fun t=>eT G dom bIS 5 n t.1) (fun t=>t.2.2.2) (fun t=>t.1≤n∧aQ t.2.2.2 (G.boxes v mc t.2.1 t.2.2.1 (jO l mc bIS dom s t.1).a) (lJ (jO l mc bIS dom s t.1) t.2.1 t.2.2.1)) (fun t=>n-t.1) (0,wd,wr,H) ⟨bLE _,hH⟩ hF PH.le_refl ?_
 rintro⟨i,wd,wr,H0⟩ ⟨hi,hH⟩
 simp only at hi hH ⊢
 obtain⟨gs,-⟩:=XL (mc:=mc) (dom:=dom) hs i
 have bJB:jO l mc bIS dom s (i+1)=(if (jO l mc bIS dom s i).bJT.length<bIS then { jO l mc bIS dom s i with bJT:=(jO l mc bIS dom s i).bJT++[⟨[100]++bV (jO l mc bIS dom s i).bJT.length,((aC l mc (jO l mc bIS dom s i).a).1:Nat),(dom:Nat)⟩],a:=(aC l mc (jO l mc bIS dom s i).a).2 } else jO l mc bIS dom s i):=rfl
 simp only[go_sem,γ,reduceCtorEq,vF,YG,eT]
 by_cases hlt:i<n
 ·have bJA:(i:Int)<(n:Nat):=by omega
  generalize hg:jO l mc bIS dom s i=g at *
  have b1:=hH.at 1 rfl
  have lr:=(hH.own 1 rfl).vW
  rw[bKY] at lr
  have ei:=ws i
  simp only[go_sem,δ,γ,θ,reduceCtorEq,bJA,YH,show (((5:Nat):Int)==5)=true from rfl,aIR,b1,lr]
  by_cases hc:g.bJT.length<bIS
  ·have hc':(g.bJT.length:Int)<(bIS:Nat):=by omega
   rw[if_pos hc] at bJB
   simp only[go_sem,hc']
   have hHs:(PH.nil.set G.fo (flB G.ext G.wl (.osl G.qm 4 0 mc) wd wr G.wp G.wv)).le H0:=PH.aG PH.nil_le b1
   refine bM (PH.nil.set G.fo (flB G.ext G.wl (.osl G.qm 4 0 mc) wd wr G.wp G.wv)) (mkS l v) hHs ?_
   simp only[go_sem,δ,γ,θ,reduceCtorEq,aIS,b1,lr]
   refine FU Lb.torX (s:=[100]) (n:=g.bJT.length) (by decide) (by have:=gs.bJT; omega) rfl hHs ?_
   simp only[go_sem,δ,γ,θ,reduceCtorEq]
   have ho:=hH.at 0 rfl
   have h1:=hH.set 0 rfl (aW v (aC l mc g.a).2)
   have b1':=h1.at 1 rfl
   refine qQ Lb.torW T (o:=G.o) (n:=mc) (a:=g.a) Om gs.a rfl ho (PH.aG PH.nil_le b1') ?_
   have h132:(1:Nat)*3≤16777216:=by decide
   simp only[go_sem,υ,δ,γ,η,θ,ζ,reduceCtorEq,h132,bLO,bLW,or_false,forall_eq,forall_eq_or_imp]
   refine h1.append 1 (src:=[(⟨[100]++bV g.bJT.length,((aC l mc g.a).1:Nat),(dom:Nat)⟩:dB).cells]) rfl rfl (by unfold roomFor; rw[bKY]; have:=gs.bJT; simp only[bLH,maxLen]; omega) fun wr' H2 h2 hw=>?_
   obtain⟨q,rfl⟩:=hw (by simp)
   have b2:=h2.at 1 rfl
   refine⟨PH.aG PH.nil_le b2,?_⟩
   refine bM .nil dK PH.nil_le ?_
   simp only[go_sem,δ,γ,θ,reduceCtorEq,aIT,b2,bLO,bLW,or_false,forall_eq]
   have h3:=h2.set 1 rfl (flB G.ext G.wl (.osl G.qm 4 0 mc) wd (.osl q 3 0 (lY g.bJT++[(⟨[100]++bV g.bJT.length,((aC l mc g.a).1:Nat),(dom:Nat)⟩:dB).cells]).length) G.wp G.wv)
   refine⟨PH.nil_le,?_⟩
   simp only[go_sem,γ,reduceCtorEq,vG,ei]
   refine aE (i+1,wd,.osl q 3 0 (lY g.bJT++[(⟨[100]++bV g.bJT.length,((aC l mc g.a).1:Nat),(dom:Nat)⟩:dB).cells]).length,_) ⟨hlt,?_⟩ (by simp only; omega) ?_ PH.le_refl
   ·rw[bJB]
    have e:lY (g.bJT++[(⟨[100]++bV g.bJT.length,((aC l mc g.a).1:Nat),(dom:Nat)⟩:dB)])=lY g.bJT++[(⟨[100]++bV g.bJT.length,((aC l mc g.a).1:Nat),(dom:Nat)⟩:dB).cells]:=by simp[lY]
    unfold lJ
    simp only
    rw[e]
    exact h3
   ·exact Lq
  ·have hc':¬ (g.bJT.length:Int)<(bIS:Nat):=by omega
   rw[if_neg hc] at bJB
   simp only[go_sem,γ,reduceCtorEq,hc',vG,ei]
   refine aE (i+1,wd,wr,H0) ⟨hlt,by rw[bJB]; exact hH⟩ (by simp only; omega) ?_ PH.le_refl
   exact Lq
 ·have bJA:¬ (i:Int)<(n:Nat):=by omega
  have:i=n:=by omega
  subst this
  simp only[go_sem,bJA]
  exact hK wd wr _ _ hH
def a5J (G:GE) (v:PV) (mc:Nat) (s':GS) (r:PV) (B':List BX) (L':List LI):Prop:=r=.tup []∧∃ wd wr,B'=G.boxes v mc wd wr s'.a∧L'=lJ s' wd wr
def abL (C:Ctx) (l:List Nat) (v:PV) (mc bIS k:Nat):Prop :=
 ∀ (G:GE) (wd wr:PV) (s:GS) (dom:Nat) (x:cI),GOk l bIS s→s.bJF[dom]?=some x→x.level=4-(k:Int)→∀ H0,aQ H0 (G.boxes v mc wd wr s.a) (lJ s wd wr) →
  aH C 7 [.ptr G.o 2 0 0,.ptr G.fo 7 0 0,.int .i64 dom,.int .i64 bIS] H0 (fun r H'=>∃ B' L',a5J G v mc (eM l mc bIS k dom s) r B' L'∧aQ H' B' L')
theorem beF {lv:Nat} (h:lv≤4):([45,115,114,107,109]:List UInt8)[lv]?=some (kY lv):=by
 match lv,h with
 | 0,_=>rfl
 | 1,_=>rfl
 | 2,_=>rfl
 | 3,_=>rfl
 | 4,_=>rfl
theorem UI {C:Ctx} {l:List Nat} {v:PV} (G:GE) (mc bIS dom lv n i k p:Nat) (hlv:lv=4-k) (hk:k<4) (hrec:abL C l v mc bIS k) (g:GS) (x:cI) (a:Nat) (hg:GOk l bIS { g with bJF:=g.bJF++[x],a:=a }) (hx:x.level=(lv:Nat)) (wd wr:PV) (hdr:bIS≤60) (K:bY) (F:PF) (H:PH)
  (hF:(eT G dom bIS lv n i).le F) (f11:F 11=some (.ptr p 7 0 0)) (hH:aQ H (G.boxes v mc wd wr a++[(p,.rows 7 [x.cells])]) (lJ g wd wr))
  (hK:∀ wd' wr' F' H',(eT G dom bIS lv n i).le F'→aQ H' (G.boxes v mc wd' wr' (eM l mc bIS k g.bJF.length { g with bJF:=g.bJF++[x],a:=a }).a) (lJ (eM l mc bIS k g.bJF.length { g with bJF:=g.bJF++[x],a:=a }) wd' wr')→K .normal F' H') :
  aB.wp C (.draw OE) (jC C (aB.wp C (.region OF)) K) F H:=by
 have f0:F 0=some (.ptr G.o 2 0 0):=hF 0 _ (by unfold eT; simp only[go_sem,reduceCtorEq])
 have f1:F 1=some (.ptr G.fo 7 0 0):=hF 1 _ (by unfold eT; simp only[go_sem,γ,reduceCtorEq])
 have f2:F 2=some (.int .i64 dom):=hF 2 _ (by unfold eT; simp only[go_sem,γ,reduceCtorEq])
 have f3:F 3=some (.int .i64 bIS):=hF 3 _ (by unfold eT; simp only[go_sem,γ,reduceCtorEq])
 have f8:F 8=some (.int .i64 lv):=hF 8 _ (by unfold eT; simp only[go_sem,γ,reduceCtorEq])
 have f9:F 9=some (.int .i64 n):=hF 9 _ (by unfold eT; simp only[go_sem,γ,reduceCtorEq])
 have f10:F 10=some (.int .i64 i):=hF 10 _ (by unfold eT; simp only[go_sem,γ,reduceCtorEq])
 have hdl:=hg.bJF
 simp only[bLC,bLH] at hdl
 have b1:=hH.at 1 rfl
 have b2:=hH.at 2 rfl
 have h17:(1:Nat)*7≤16777216:=by decide
 refine bM .nil dK PH.nil_le ?_
 simp only[go_sem,υ,δ,γ,η,θ,ζ,reduceCtorEq,OE,f1,f11,b1,b2,h17,bLO,bLW,or_false,forall_eq,forall_eq_or_imp]
 refine hH.append 0 (src:=[x.cells]) rfl rfl (by unfold roomFor; rw[bKY]; simp only[bLH,maxLen]; omega) fun wd' H2 h2 hw=>?_
 obtain⟨q,rfl⟩:=hw (by simp)
 have hl:(jY g.bJF++[x.cells]).length=g.bJF.length+1:=by simp
 rw[hl] at h2 ⊢
 have c1:=h2.at 1 rfl
 refine⟨PH.nil_le,?_⟩
 simp only[go_sem,δ,θ,c1,bLO,bLW,or_false,forall_eq]
 have h3:=h2.set 1 rfl (flB G.ext G.wl (.osl G.qm 4 0 mc) (.osl q 7 0 (g.bJF.length+1)) wr G.wp G.wv)
 have c2:=h3.at 1 rfl
 refine⟨PH.nil_le,?_⟩
 have e:jY (g.bJF++[x])=jY g.bJF++[x.cells]:=by simp[jY]
 have ew:IntKind.i64.wrap (((g.bJF.length+1:Nat):Int)-1)=((g.bJF.length:Nat):Int):=by rw[wrap_i64 Om Om]; omega
 simp only[go_sem,δ,γ,θ,reduceCtorEq,OF,f0,f1,f3,ew]
 have h4:aQ (H2.set G.fo (flB G.ext G.wl (.osl G.qm 4 0 mc) (.osl q 7 0 (g.bJF.length+1)) wr G.wp G.wv)) (G.boxes v mc (.osl q 7 0 (g.bJF.length+1)) wr a++[(p,.rows 7 [x.cells])]) (lJ { g with bJF:=g.bJF++[x],a:=a } (.osl q 7 0 (g.bJF.length+1)) wr++[]):=by
  unfold lJ
  simp only
  rw[e]
  exact h3
 refine EH h4 (fun H0 hH0=>hrec G _ wr { g with bJF:=g.bJF++[x],a:=a } g.bJF.length x hg (by simp) (by rw[hx]; omega) H0 hH0) rfl ?_
 rintro r B' L' H' ⟨rfl,wd2,wr2,rfl,rfl⟩ hH'
 refine hK wd2 wr2 _ _ ?_ (hH'.sub (List.sublist_append_left ..) (by rw[bMP]; exact bMX.refl _))
 unfold eT
 exact Lq
theorem MK {C:Ctx} (Lb:mT C) {l:List Nat} {v:PV} (T:Tp l v) (G:GE) (mc bIS dom n k:Nat) (hk:k<4) (hdr:bIS≤60) (hn:n≤10) (hrec:abL C l v mc bIS k) (s:GS) (hs:GOk l bIS s) (hd0:0<s.bJF.length) (wd wr:PV) (K:bY) (F:PF) (H:PH)
  (hF:(eT G dom bIS (4-k) n 0).le F) (hH:aQ H (G.boxes v mc wd wr s.a) (lJ s wd wr))
  (hK:∀ e wd' wr' F' H',(e=.exit 0∨e=.ret)→aQ H' (G.boxes v mc wd' wr' (fW l (4-k) bIS dom (eM l mc bIS k) s n).a) (lJ (fW l (4-k) bIS dom (eM l mc bIS k) s n) wd' wr')→K e F' H') :
  aB.wp C (.loop vF) K F H:=by
 obtain⟨lv,hlv⟩:∃ lv,lv=4-k:=⟨_,rfl⟩
 rw[← hlv] at hF hK
 refine wp_loop (α:=Nat × PV × PV × PH) (fun t=>eT G dom bIS lv n t.1) (fun t=>t.2.2.2) (fun t=>t.1≤n∧aQ t.2.2.2 (G.boxes v mc t.2.1 t.2.2.1 (fW l lv bIS dom (eM l mc bIS k) s t.1).a) (lJ (fW l lv bIS dom (eM l mc bIS k) s t.1) t.2.1 t.2.2.1)) (fun t=>n-t.1) (0,wd,wr,H) ⟨bLE _,hH⟩ hF PH.le_refl ?_
 rintro⟨i,wd,wr,H0⟩ ⟨hi,hH⟩
 simp only at hi hH ⊢
 obtain⟨gs,u,gu⟩:=XM (level:=lv) (dom:=dom) (fun d t ht=>GR (mc:=mc) k d ht) hs i
 have hfull:=fun h=>a7A (l:=l) (level:=lv) (bIS:=bIS) (dom:=dom) (rec:=eM l mc bIS k) (s:=s) (i:=i) h n hi
 have bJB:fW l lv bIS dom (eM l mc bIS k) s (i+1)=(if pL bIS (fW l lv bIS dom (eM l mc bIS k) s i) then fW l lv bIS dom (eM l mc bIS k) s i else eM l mc bIS k ((mW l lv dom (fW l lv bIS dom (eM l mc bIS k) s i)).bJF.length-1) (mW l lv dom (fW l lv bIS dom (eM l mc bIS k) s i))):=rfl
 simp only[go_sem,γ,reduceCtorEq,vF,YG,eT]
 by_cases hlt:i<n
 ·have bJA:(i:Int)<(n:Nat):=by omega
  generalize hg:fW l lv bIS dom (eM l mc bIS k) s i=g at *
  have gd0:0<g.bJF.length:=by rw[gu,bLC]; omega
  have b1:=hH.at 1 rfl
  have lr:=(hH.own 1 rfl).vW
  have ld:=(hH.own 0 rfl).vW
  rw[bKY] at lr ld
  have ei:=ws i
  simp only[go_sem,δ,γ,θ,reduceCtorEq,bJA,YH,bC (Om:((lv:Nat):Int)≠5),arE,b1,lr]
  by_cases c1:bIS≤g.bJT.length
  ·have hf:pL bIS g=true:=by unfold pL; simp[c1]
   simp only[go_sem,γ,reduceCtorEq,show (g.bJT.length:Int)≥(bIS:Nat) by omega]
   exact hK _ wd wr _ _ (.inr rfl) (by rw[hfull hf]; exact hH)
  simp only[go_sem,δ,γ,θ,reduceCtorEq,show ¬ (g.bJT.length:Int)≥(bIS:Nat) by omega,b1,ld]
  by_cases c2:35≤g.bJF.length
  ·have hf:pL bIS g=true:=by unfold pL; simp[c2]
   simp only[go_sem,show (g.bJF.length:Int)≥35 by omega]
   exact hK _ wd wr _ _ (.inr rfl) (by rw[hfull hf]; exact hH)
  have hf:pL bIS g=false:=by unfold pL; simp[c1,c2]
  rw[if_neg (by rw[hf]; decide)] at bJB
  simp only[go_sem,show ¬ (g.bJF.length:Int)≥35 by omega]
  have ls:=beF (Om:lv≤4)
  refine bM .nil (mkS l v) PH.nil_le ?_
  have hbr:oW [[PV.int IntKind.u8 (((kY lv).toNat:Nat):Int)]]=some [kY lv]:=by
   simp[oW]
  obtain⟨gg,x0,gx0,-⟩:=aVW (level:=lv) (dom:=dom) gs hf
  have hdl:(mW l lv dom g).bJF.length-1=g.bJF.length:=by rw[gx0]; simp
  rw[hdl] at bJB
  have h1:=hH.set 0 rfl (aW v (aC l 16 g.a).2)
  have a1:=bK l 16 gs.a
  have n1:=bT l (show 0<16 by decide) g.a
  have e1:IntKind.i64.wrap (1+((aC l 16 g.a).1:Int))=((1+(aC l 16 g.a).1:Nat):Int):=by rw[wrap_i64 Om Om]; omega
  simp only[go_sem,υ,δ,γ,η,θ,ζ,reduceCtorEq,arF,ls,hbr,b1,ld]
  refine FU Lb.torX (s:=[kY lv]) (n:=g.bJF.length) (by simp) (by have:=gs.bJF; omega) rfl PH.nil_le ?_
  simp only[go_sem,γ,reduceCtorEq]
  refine qQ Lb.torW T (o:=G.o) (n:=16) (a:=g.a) Om gs.a rfl (hH.at 0 rfl) PH.nil_le ?_
  simp only[go_sem,γ,reduceCtorEq,e1]
  refine brZ Lb.torW (n:=0) (by unfold cZ; omega) rfl PH.nil_le ?_
  simp only[go_sem,δ,γ,θ,reduceCtorEq,bLO,bLW,or_false,forall_eq,forall_eq_or_imp]
  refine aN fun p hp=>?_
  have h2:=h1.new hp (.rows 7 [(⟨[kY lv]++bV g.bJF.length,(lv:Nat),(dom:Nat),(1+(aC l 16 g.a).1:Nat),kE⟩:cI).cells])
  simp only[go_sem,δ,γ,reduceCtorEq,bLO,bLW,or_false,forall_eq,forall_eq_or_imp]
  refine⟨PH.nil_le,?_⟩
  simp only[go_sem,reduceCtorEq,arG]
  refine cK Lb.torW T (o:=G.o) (n:=3) (a:=(aC l 16 g.a).2) (by decide) a1 rfl (h2.at 0 rfl) ?_
  have h3:=h2.set 0 rfl (aW v (aC l 3 (aC l 16 g.a).2).2)
  have a2:=bK l 3 a1
  by_cases c3:(aC l 3 (aC l 16 g.a).2).1=0
  ·have hd:mW l lv dom g={ g with bJF:=g.bJF++[⟨[kY lv]++bV g.bJF.length,(lv:Nat),(dom:Nat),(1+(aC l 16 g.a).1:Nat),mkT 1 ((2+(aC l 6 (aC l 3 (aC l 16 g.a).2).2).1:Nat):Int)⟩],a:=(aC l 6 (aC l 3 (aC l 16 g.a).2).2).2 }:=by
    unfold mW; simp only[c3,if_true]
   rw[hd] at bJB gg
   have n2:=bT l (show 0<6 by decide) (aC l 3 (aC l 16 g.a).2).2
   have e2:IntKind.i64.wrap (2+((aC l 6 (aC l 3 (aC l 16 g.a).2).2).1:Int))=((2+(aC l 6 (aC l 3 (aC l 16 g.a).2).2).1:Nat):Int):=by rw[wrap_i64 Om Om]; omega
   simp only[go_sem,γ,reduceCtorEq,bN (show (((aC l 3 (aC l 16 g.a).2).1:Nat):Int)=0 by omega),arH]
   refine cK Lb.torW T (o:=G.o) (n:=6) (a:=(aC l 3 (aC l 16 g.a).2).2) (by decide) a2 rfl (h3.at 0 rfl) ?_
   have h4:=h3.set 0 rfl (aW v (aC l 6 (aC l 3 (aC l 16 g.a).2).2).2)
   rw[PH.set_set] at h4
   simp only[go_sem,γ,reduceCtorEq,e2]
   refine aA (Lb.fmk 1 ((2+(aC l 6 (aC l 3 (aC l 16 g.a).2).2).1:Nat):Int) (by unfold cZ; omega) (by unfold cZ; omega)) rfl ?_
   unfold vN
   rw[if_neg Om]
   simp only[go_sem,δ,γ,reduceCtorEq,show ¬ p=G.o from h4.ne 2 0 rfl rfl (by decide)]
   have h5:=h4.set 2 rfl (.rows 7 [(⟨[kY lv]++bV g.bJF.length,(lv:Nat),(dom:Nat),(1+(aC l 16 g.a).1:Nat),mkT 1 ((2+(aC l 6 (aC l 3 (aC l 16 g.a).2).2).1:Nat):Int)⟩:cI).cells])
   try simp only[aoM]
   refine UI G mc bIS dom lv n i k p hlv hk hrec g _ _ gg rfl wd wr hdr _ _ _ (by unfold eT; exact Lq) rfl h5 ?_
   intro wd' wr' F' H' hF' hH'
   rw[← bJB] at hH'
   have f10:F' 10=some (.int .i64 i):=hF' 10 _ (by unfold eT; simp only[go_sem,γ,reduceCtorEq])
   have g0:F' 0=some (.ptr G.o 2 0 0):=hF' 0 _ (by unfold eT; simp only[go_sem,reduceCtorEq])
   have g1:F' 1=some (.ptr G.fo 7 0 0):=hF' 1 _ (by unfold eT; simp only[go_sem,γ,reduceCtorEq])
   have g2:F' 2=some (.int .i64 dom):=hF' 2 _ (by unfold eT; simp only[go_sem,γ,reduceCtorEq])
   have g3:F' 3=some (.int .i64 bIS):=hF' 3 _ (by unfold eT; simp only[go_sem,γ,reduceCtorEq])
   have g8:F' 8=some (.int .i64 lv):=hF' 8 _ (by unfold eT; simp only[go_sem,γ,reduceCtorEq])
   have g9:F' 9=some (.int .i64 n):=hF' 9 _ (by unfold eT; simp only[go_sem,γ,reduceCtorEq])
   simp only[go_sem,γ,vG,f10,ei]
   refine aE (i+1,wd',wr',H') ⟨hlt,hH'⟩ (by simp only; omega) ?_ PH.le_refl
   exact Lq
  ·have hd:mW l lv dom g={ g with bJF:=g.bJF++[⟨[kY lv]++bV g.bJF.length,(lv:Nat),(dom:Nat),(1+(aC l 16 g.a).1:Nat),kE⟩],a:=(aC l 3 (aC l 16 g.a).2).2 }:=by
    unfold mW; simp only[c3,if_false]
   rw[hd] at bJB gg
   simp only[go_sem,γ,reduceCtorEq,bC (show ¬ (((aC l 3 (aC l 16 g.a).2).1:Nat):Int)=0 by omega)]
   try simp only[aoM]
   refine UI G mc bIS dom lv n i k p hlv hk hrec g _ _ gg rfl wd wr hdr _ _ _ (by unfold eT; exact Lq) rfl h3 ?_
   intro wd' wr' F' H' hF' hH'
   rw[← bJB] at hH'
   have f10:F' 10=some (.int .i64 i):=hF' 10 _ (by unfold eT; simp only[go_sem,γ,reduceCtorEq])
   have g0:F' 0=some (.ptr G.o 2 0 0):=hF' 0 _ (by unfold eT; simp only[go_sem,reduceCtorEq])
   have g1:F' 1=some (.ptr G.fo 7 0 0):=hF' 1 _ (by unfold eT; simp only[go_sem,γ,reduceCtorEq])
   have g2:F' 2=some (.int .i64 dom):=hF' 2 _ (by unfold eT; simp only[go_sem,γ,reduceCtorEq])
   have g3:F' 3=some (.int .i64 bIS):=hF' 3 _ (by unfold eT; simp only[go_sem,γ,reduceCtorEq])
   have g8:F' 8=some (.int .i64 lv):=hF' 8 _ (by unfold eT; simp only[go_sem,γ,reduceCtorEq])
   have g9:F' 9=some (.int .i64 n):=hF' 9 _ (by unfold eT; simp only[go_sem,γ,reduceCtorEq])
   simp only[go_sem,γ,vG,f10,ei]
   refine aE (i+1,wd',wr',H') ⟨hlt,hH'⟩ (by simp only; omega) ?_ PH.le_refl
   exact Lq
 ·have bJA:¬ (i:Int)<(n:Nat):=by omega
  have:i=n:=by omega
  subst this
  simp only[go_sem,bJA]
  exact hK _ wd wr _ _ (.inl rfl) hH
theorem aIM {C:Ctx} (Lb:mT C) {l:List Nat} {v:PV} (T:Tp l v) (mc bIS k:Nat) (hmc:0<mc) (hmc2:mc≤1000) (hdr:bIS≤60) (hk:k≤4) (hrec:∀ k',k=k'+1→abL C l v mc bIS k') (G:GE) (wd wr:PV) (s:GS) (dom:Nat) (x:cI)
  (hs:GOk l bIS s) (hx:s.bJF[dom]?=some x) (hl:x.level=4-(k:Int)) (H0:PH) (hH:aQ H0 (G.boxes v mc wd wr s.a) (lJ s wd wr)) :
  wO.wp C (aS aeQ.res (fun r H'=>∃ B' L',a5J G v mc (eM l mc bIS k dom s) r B' L'∧aQ H' B' L')) (PF.args [.ptr G.o 2 0 0,.ptr G.fo 7 0 0,.int .i64 dom,.int .i64 bIS]) H0:=by
 have hd0:dom<s.bJF.length:=(bMM.1 hx).1
 have b1:=hH.at 1 rfl
 have fin:∀ (e:mO) (wd' wr':PV) (F':PF) (H':PH),(e=.exit 0∨e=.ret)→aQ H' (G.boxes v mc wd' wr' (eM l mc bIS k dom s).a) (lJ (eM l mc bIS k dom s) wd' wr') →
   dP 0 (aS aeQ.res (fun r H'=>∃ B' L',a5J G v mc (eM l mc bIS k dom s) r B' L'∧aQ H' B' L')) e F' H':=by
  intro e wd' wr' F' H' he hH'
  rcases he with rfl | rfl
  ·rw[BI,if_pos rfl]
   exact aV (vs:=[]) (.inl rfl) H' rfl PH.le_refl ⟨_,_,⟨rfl,wd',wr',rfl,rfl⟩,hH'⟩
  ·exact aV (vs:=[]) (.inr rfl) H' rfl PH.le_refl ⟨_,_,⟨rfl,wd',wr',rfl,rfl⟩,hH'⟩
 obtain⟨q,rs,e1,e2,e3,e4⟩:∃ q rs,wd=.osl q 7 0 s.bJF.length∧H0 q=some (.rows 7 rs)∧s.bJF.length≤rs.length∧rs.take s.bJF.length=jY s.bJF:=by
  rcases hH.own 0 rfl with ⟨h1,_⟩ | ⟨q,rs,h1,h2,h3,h4⟩
  ·have:=congrArg List.length h1
   rw[bKY] at this
   simp at this; rw[this] at hd0; simp at hd0
  ·rw[bKY] at h1 h3 h4
   exact⟨q,rs,h1,h2,h3,h4⟩
 have hrd:rs[dom]?=some x.cells:=by
  have:(jY s.bJF)[dom]?=some x.cells:=by simp[jY,hx]
  rw[← e4,List.getElem?_take_of_lt hd0] at this
  exact this
 subst e1
 have c1:(dom:Int)<(s.bJF.length:Nat):=by omega
 have ew:IntKind.i64.wrap (x.level+1)=((5-k:Nat):Int):=by rw[hl,wrap_i64 Om Om]; omega
 have nlt:=bT l (show 0<2 by decide) s.a
 have en:IntKind.i64.wrap (1+((aC l 2 s.a).1:Int))=((1+(aC l 2 s.a).1:Nat):Int):=by rw[wrap_i64 Om Om]; omega
 have h1:=hH.set 0 rfl (aW v (aC l 2 s.a).2)
 have hs1:GOk l bIS { s with a:=(aC l 2 s.a).2 }:=⟨hs.bJF,hs.bJT,bK l 2 hs.a⟩
 have hqo:¬ q=G.o:=fun h=>hH.neL 0 0 rfl rfl rfl h.symm
 simp only[go_sem,δ,γ,θ,reduceCtorEq,wO,aIN,b1,c1,e2,hrd,ew,aIO]
 refine cK Lb.torW T (o:=G.o) (n:=2) (a:=s.a) (by decide) hs.a (by simp only[go_sem,γ]; rfl) (hH.at 0 rfl) ?_
 simp only[go_sem,γ,en,aIP]
 cases k with
 | zero =>
  simp only[go_sem,bC (Om:¬ ((5-0:Nat):Int)=2),HY]
  refine aIL (C:=C) Lb T G mc bIS dom (1+(aC l 2 s.a).1) hmc hmc2 hdr Om { s with a:=(aC l 2 s.a).2 } hs1 _ wr _ _ _ ?_ h1 ?_
  ·unfold eT
   exact Lq
  ·intro wd' wr' F' H' hH'
   exact fin _ wd' wr' F' H' (.inl rfl) hH'
 | succ k =>
  have hrc:=hrec k rfl
  by_cases c2:4-k=2
  ·have e5:eM l mc bIS (k+1) dom s=fW l (4-k) bIS dom (eM l mc bIS k) { s with a:=(aC l 2 s.a).2 } 1:=by simp only[eM,if_pos c2]
   simp only[go_sem,bN (show ((5-(k+1):Nat):Int)=2 by omega),aIQ,HY]
   refine MK (C:=C) Lb T G mc bIS dom 1 k Om hdr (by decide) hrc { s with a:=(aC l 2 s.a).2 } hs1 (by simp only; omega) _ wr _ _ _ ?_ h1 ?_
   ·unfold eT
    (repeat' (first|exact PF.nil_le|refine PF.aG ?_ ?_))<;>first|(simp only[go_sem,γ,reduceCtorEq,show 4-k=5-(k+1) by omega]<;>rfl)|rfl
   ·intro e wd' wr' F' H' he hH'
    rw[← e5] at hH'
    exact fin e wd' wr' F' H' he hH'
  ·have e5:eM l mc bIS (k+1) dom s=fW l (4-k) bIS dom (eM l mc bIS k) { s with a:=(aC l 2 s.a).2 } (1+(aC l 2 s.a).1):=by simp only[eM,if_neg c2]
   simp only[go_sem,bC (show ¬ ((5-(k+1):Nat):Int)=2 by omega),HY]
   refine MK (C:=C) Lb T G mc bIS dom (1+(aC l 2 s.a).1) k Om hdr Om hrc { s with a:=(aC l 2 s.a).2 } hs1 (by simp only; omega) _ wr _ _ _ ?_ h1 ?_
   ·unfold eT
    (repeat' (first|exact PF.nil_le|refine PF.aG ?_ ?_))<;>first|(simp only[go_sem,γ,reduceCtorEq,show 4-k=5-(k+1) by omega]<;>rfl)|rfl
   ·intro e wd' wr' F' H' he hH'
    rw[← e5] at hH'
    exact fin e wd' wr' F' H' he hH'
theorem aFP {C:Ctx} (Lb:mT C) {l:List Nat} {v:PV} (T:Tp l v) (mc bIS:Nat) (hmc:0<mc) (hmc2:mc≤1000) (hdr:bIS≤60)
  (hE:∀ (args:List PV) (H:PH) (R:PV→PH→Prop),args.length=4→wO.wp C (aS aeQ.res R) (PF.args args) H→aH C 7 args H R):∀ k,k≤4→abL C l v mc bIS k
 | 0,h=>fun G wd wr s dom x hs hx hl H0 hH=>hE _ _ _ rfl (aIM Lb T mc bIS 0 hmc hmc2 hdr h (fun _ e=>by omega) G wd wr s dom x hs hx hl H0 hH)
 | k+1,h=>fun G wd wr s dom x hs hx hl H0 hH=>hE _ _ _ rfl (aIM Lb T mc bIS (k+1) hmc hmc2 hdr h (fun k' e=>by
   have:k'=k:=by omega
   subst this
   exact aFP Lb T mc bIS hmc hmc2 hdr hE k' Om) G wd wr s dom x hs hx hl H0 hH)
theorem btT (l:List Nat) (dX:Nat) {a:Nat} (h:a≤l.length):(qA l dX a).2≤l.length:=(amO l (1+(aC l dX a).1) (bK l dX h) (1+(aC l dX a).1)).1
theorem HE (l:List Nat) {a:Nat} (h:a≤l.length):∀ k,(gP l a k).2≤l.length∧(gP l a k).1.length=k
 | 0=>⟨h,rfl⟩
 | k+1=>by
  obtain⟨h1,h2⟩:=HE l h k
  exact⟨btT l 2 h1,by simp only[gP,bLC,bLH,h2]⟩
theorem wQ (l:List Nat) (bJD:Nat) {a:Nat} (h:a≤l.length):∀ k,(eE l bJD a k).2≤l.length∧(eE l bJD a k).1.length=k
 | 0=>⟨h,rfl⟩
 | k+1=>by
  obtain⟨h1,h2⟩:=wQ l bJD h k
  exact⟨bK l bJD (bK l 8 (bK l 4 h1)),by simp only[eE,bLC,bLH,h2]⟩
structure FE where
 o:Nat
 o6:Nat
 o7:Nat
 bIS:Nat
 bIV:Nat
abbrev flZ:cD:=flB (.int .i64 0) .bIU .bIU .bIU .bIU .bIU .bIU
abbrev FE.boxes (E:FE) (v ext w1 w2 w3 w4 w5 w6:PV) (a:Nat):List BX:=[(E.o,aW v a),(E.o7,flB ext w1 w2 w3 w4 w5 w6),(E.o6,flZ)]
def fM (E:FE):PF:=(((((PF.nil.set 0 (.ptr E.o 2 0 0)).set 1 (.int .i64 E.bIS)).set 2 (.int .i64 E.bIV)).set 6 (.ptr E.o6 7 0 0)).set 7 (.ptr E.o7 7 0 0))
abbrev gZ (l:List bZ):List (List PV):=l.map bZ.cells
abbrev jS (l:List cL):List (List PV):=l.map cL.cells
theorem ST {E:FE} {F:PF} (h0:F 0=some (.ptr E.o 2 0 0)) (h1:F 1=some (.int .i64 E.bIS)) (h2:F 2=some (.int .i64 E.bIV)) (h6:F 6=some (.ptr E.o6 7 0 0)) (h7:F 7=some (.ptr E.o7 7 0 0)):(fM E).le F :=
 PF.aG (PF.aG (PF.aG (PF.aG (PF.aG PF.nil_le h0) h1) h2) h6) h7
theorem bnI {C:Ctx} (Lb:mT C) {l:List Nat} {v:PV} (T:Tp l v) (E:FE) (n a:Nat) (hn:n≤10) (ha:a≤l.length) (ext:PV) (K:bY) (F:PF) (H:PH)
  (hF:(((fM E).set 8 (.int .i64 n)).set 9 (.int .i64 0)).le F) (hH:aQ H (E.boxes v ext .bIU .bIU .bIU .bIU .bIU .bIU a) [])
  (hK:∀ w1 F' H',(fM E).le F'→aQ H' (E.boxes v ext w1 .bIU .bIU .bIU .bIU .bIU (gP l a n).2) [(w1,4,gZ (gP l a n).1)]→K (.exit 0) F' H') :
  aB.wp C (.loop OD) K F H:=by
 refine wp_loop (α:=Nat × PV × PH) (fun t=>((fM E).set 8 (.int .i64 n)).set 9 (.int .i64 t.1)) (fun t=>t.2.2) (fun t=>t.1≤n∧aQ t.2.2 (E.boxes v ext t.2.1 .bIU .bIU .bIU .bIU .bIU (gP l a t.1).2) [(t.2.1,4,gZ (gP l a t.1).1)]) (fun t=>n-t.1) (0,.bIU,H) ⟨bLE _,hH.oH 4⟩ hF PH.le_refl ?_
 rintro⟨i,w1,H0⟩ ⟨hi,hH⟩
 simp only at hi hH ⊢
 obtain⟨k1,k2⟩:=HE l ha i
 have bJB:gP l a (i+1)=((gP l a i).1++[{ (qA l 2 (gP l a i).2).1 with name:=[108,97,119]++bV i }],(qA l 2 (gP l a i).2).2):=rfl
 simp only[go_sem,γ,reduceCtorEq,OD,aqZ,fM]
 by_cases hlt:i<n
 ·have bJA:(i:Int)<(n:Nat):=by omega
  generalize hg:gP l a i=g at *
  simp only[go_sem,reduceCtorEq,bJA,arA]
  refine hC (Lb.law l v T E.o 2 g.2 (by decide) (by decide) k1) (hH.at 0 rfl) rfl ?_
  have h1:=hH.set 0 rfl (aW v (qA l 2 g.2).2)
  generalize hz:qA l 2 g.2=z at *
  simp only[go_sem,δ]
  refine aN fun p hp=>?_
  have h2:=h1.new hp (.rows 4 [z.1.cells])
  simp only[go_sem,δ,γ,reduceCtorEq,arB,bLO,bLW,or_false,forall_eq,forall_eq_or_imp]
  refine aA (Lb.name [108,97,119] i (by decide) Om) rfl ?_
  have h3:=h2.set 3 rfl (.rows 4 [({ z.1 with name:=[108,97,119]++bV i }:bZ).cells])
  rw[PH.set_set] at h3
  have b1:=h3.at 1 rfl
  have hne:¬ E.o7=p:=h3.ne 1 3 rfl rfl (by decide)
  have hne2:¬ E.o7=E.o:=h3.ne 1 0 rfl rfl (by decide)
  simp only[bB,if_neg hne,if_neg hne2] at b1
  have h14:(1:Nat)*4≤16777216:=by decide
  simp only[go_sem,υ,δ,γ,η,θ,ζ,reduceCtorEq,arC,hne,hne2,b1,h14,bLO,bLW,or_false,forall_eq,forall_eq_or_imp]
  refine h3.append 0 (src:=[({ z.1 with name:=[108,97,119]++bV i }:bZ).cells]) rfl rfl (by unfold roomFor; rw[bKY]; simp only[bLH,maxLen]; omega) fun w' H2 h4 hw=>?_
  obtain⟨q,rfl⟩:=hw (by simp)
  have b2:=h4.at 1 rfl
  simp only[go_sem,δ,θ,b2,bLO,bLW,or_false,forall_eq]
  have h5:=h4.set 1 rfl (flB ext (.osl q 4 0 (gZ g.1++[({ z.1 with name:=[108,97,119]++bV i }:bZ).cells]).length) .bIU .bIU .bIU .bIU .bIU)
  simp only[go_sem,γ,reduceCtorEq,arD,ws i]
  refine aE (i+1,.osl q 4 0 (gZ g.1++[({ z.1 with name:=[108,97,119]++bV i }:bZ).cells]).length,_) ⟨hlt,?_⟩ (by simp only; omega) ?_ PH.le_refl
  ·rw[bJB]
   have e:gZ (g.1++[{ z.1 with name:=[108,97,119]++bV i }])=gZ g.1++[({ z.1 with name:=[108,97,119]++bV i }:bZ).cells]:=by simp[gZ]
   simp only
   rw[e]
   exact h5.dropLast (B:=E.boxes v ext _ .bIU .bIU .bIU .bIU .bIU z.2)
  ·exact Lq
 ·have bJA:¬ (i:Int)<(n:Nat):=by omega
  have:i=n:=by omega
  subst this
  simp only[go_sem,bJA]
  exact hK w1 _ _ (ST rfl rfl rfl rfl rfl) hH
theorem a8X {C:Ctx} (Lb:mT C) {l:List Nat} {v:PV} (T:Tp l v) (E:FE) (n a nl:Nat) (hn:n≤10) (hnl:nl≤1000) (ha:a≤l.length) (ext w1:PV) (bJD:List bZ) (hlw:bJD.length=nl) (K:bY) (F:PF) (H:PH)
  (hF:(((fM E).set 11 (.int .i64 n)).set 12 (.int .i64 0)).le F) (hH:aQ H (E.boxes v ext w1 .bIU .bIU .bIU .bIU .bIU a) [(w1,4,gZ bJD)])
  (hK:∀ w2 F' H',(fM E).le F'→F' 11=some (.int .i64 n)→aQ H' (E.boxes v ext w1 w2 .bIU .bIU .bIU .bIU (eE l nl a n).2) [(w1,4,gZ bJD),(w2,4,jS (eE l nl a n).1)]→K (.exit 2) F' H') :
  aB.wp C (.loop HN) K F H:=by
 refine wp_loop (α:=Nat × PV × PH) (fun t=>((fM E).set 11 (.int .i64 n)).set 12 (.int .i64 t.1)) (fun t=>t.2.2) (fun t=>t.1≤n∧aQ t.2.2 (E.boxes v ext w1 t.2.1 .bIU .bIU .bIU .bIU (eE l nl a t.1).2) [(w1,4,gZ bJD),(t.2.1,4,jS (eE l nl a t.1).1)]) (fun t=>n-t.1) (0,.bIU,H) ⟨bLE _,hH.oH 4⟩ hF PH.le_refl ?_
 rintro⟨i,w2,H0⟩ ⟨hi,hH⟩
 simp only at hi hH ⊢
 obtain⟨k1,k2⟩:=wQ l nl ha i
 have bJB:eE l nl a (i+1)=((eE l nl a i).1++[⟨[109]++bV i,(1+(aC l 4 (eE l nl a i).2).1:Nat),(1+(aC l 8 (aC l 4 (eE l nl a i).2).2).1:Nat),((aC l nl (aC l 8 (aC l 4 (eE l nl a i).2).2).2).1:Nat)⟩],(aC l nl (aC l 8 (aC l 4 (eE l nl a i).2).2).2).2):=rfl
 simp only[go_sem,γ,reduceCtorEq,HN,adW,fM]
 by_cases hlt:i<n
 ·have bJA:(i:Int)<(n:Nat):=by omega
  generalize hg:eE l nl a i=g at *
  have hx:=bT l (show 0<4 by decide) g.2
  have ax:=bK l 4 k1
  have hy:=bT l (show 0<8 by decide) (aC l 4 g.2).2
  have ay:=bK l 8 ax
  have az:=bK l nl ay
  have h1:=hH.set 0 rfl (aW v (aC l 4 g.2).2)
  have h2:=h1.set 0 rfl (aW v (aC l 8 (aC l 4 g.2).2).2)
  have h3:=h2.set 0 rfl (aW v (aC l nl (aC l 8 (aC l 4 g.2).2).2).2)
  generalize hx0:aC l 4 g.2=x at *
  generalize hy0:aC l 8 x.2=y at *
  generalize hz0:aC l nl y.2=z at *
  have b1:=hH.at 1 rfl
  have lw:=(hH.own 0 rfl).vW
  rw[bKY,hlw] at lw
  have hHs:(PH.nil.set E.o7 (flB ext w1 w2 .bIU .bIU .bIU .bIU)).le H0:=PH.aG PH.nil_le b1
  have ex:IntKind.i64.wrap (1+(x.1:Int))=((1+x.1:Nat):Int):=by rw[wrap_i64 Om Om]; omega
  have ey:IntKind.i64.wrap (1+(y.1:Int))=((1+y.1:Nat):Int):=by rw[wrap_i64 Om Om]; omega
  simp only[go_sem,bJA]
  refine bM (PH.nil.set E.o7 (flB ext w1 w2 .bIU .bIU .bIU .bIU)) (mkS l v) hHs ?_
  simp only[go_sem,δ,γ,θ,reduceCtorEq,adX]
  refine FU Lb.torX (s:=[109]) (n:=i) (by decide) Om rfl hHs ?_
  simp only[go_sem,reduceCtorEq]
  refine qQ Lb.torW T (o:=E.o) (n:=4) (a:=g.2) (by decide) k1 rfl (hH.at 0 rfl) ?_ ?_
  ·rw[hx0]; exact PH.aG PH.nil_le (h1.at 1 rfl)
  rw[hx0]
  simp only[go_sem,γ,reduceCtorEq,ex]
  refine qQ Lb.torW T (o:=E.o) (n:=8) (a:=x.2) (by decide) ax rfl (h1.at 0 rfl) ?_ ?_
  ·rw[hy0]; exact PH.aG PH.nil_le (h2.at 1 rfl)
  rw[hy0]
  simp only[go_sem,δ,γ,θ,reduceCtorEq,ey,lw]
  rw[PH.set_set] at h2
  refine qQ Lb.torW T (o:=E.o) (n:=nl) (a:=y.2) Om ay rfl (h2.at 0 rfl) ?_ ?_
  ·rw[hz0]; exact PH.aG PH.nil_le ((h2.set 0 rfl (aW v z.2)).at 1 rfl)
  rw[hz0]
  have h4:=h2.set 0 rfl (aW v z.2)
  have h14:(1:Nat)*4≤16777216:=by decide
  simp only[go_sem,υ,δ,γ,η,θ,ζ,reduceCtorEq,h14,bLO,bLW,or_false,forall_eq,forall_eq_or_imp]
  rw[PH.set_set] at h4
  refine h4.append 1 (src:=[(⟨[109]++bV i,(1+x.1:Nat),(1+y.1:Nat),(z.1:Nat)⟩:cL).cells]) rfl rfl (by unfold roomFor; rw[bKY]; simp only[bLH,maxLen]; omega) fun w' H2 h5 hw=>?_
  obtain⟨q,rfl⟩:=hw (by simp)
  have b2:=h5.at 1 rfl
  refine⟨PH.aG PH.nil_le b2,?_⟩
  refine bM .nil dK PH.nil_le ?_
  simp only[go_sem,δ,γ,θ,reduceCtorEq,adY,b2,bLO,bLW,or_false,forall_eq]
  have h6:=h5.set 1 rfl (flB ext w1 (.osl q 4 0 (jS g.1++[(⟨[109]++bV i,(1+x.1:Nat),(1+y.1:Nat),(z.1:Nat)⟩:cL).cells]).length) .bIU .bIU .bIU .bIU)
  refine⟨PH.nil_le,?_⟩
  simp only[go_sem,γ,reduceCtorEq,adZ,ws i]
  refine aE (i+1,.osl q 4 0 (jS g.1++[(⟨[109]++bV i,(1+x.1:Nat),(1+y.1:Nat),(z.1:Nat)⟩:cL).cells]).length,_) ⟨hlt,?_⟩ (by simp only; omega) ?_ PH.le_refl
  ·rw[bJB]
   have e:jS (g.1++[⟨[109]++bV i,(1+x.1:Nat),(1+y.1:Nat),(z.1:Nat)⟩])=jS g.1++[(⟨[109]++bV i,(1+x.1:Nat),(1+y.1:Nat),(z.1:Nat)⟩:cL).cells]:=by simp[jS]
   simp only
   rw[e]
   exact h6
  ·exact Lq
 ·have bJA:¬ (i:Int)<(n:Nat):=by omega
  have:i=n:=by omega
  subst this
  simp only[go_sem,bJA]
  exact hK w2 _ _ (ST rfl rfl rfl rfl rfl) rfl hH
abbrev vZ (x:cJ) (w:PV):List PV:=[.str x.name,.int .i64 x.k,.int .i64 x.m,.int .i64 x.bJY,.int .i64 x.s0,.int .i64 x.s1,.int .i64 x.s2,.int .i64 x.s3,.int .i64 x.s4,w,frs x.repair,
 .bool x.target.neg,aJ x.target.num,aJ x.target.den,.bool x.bJG.neg,aJ x.bJG.num,aJ x.bJG.den]
def amS (E:FE) (mc n i:Nat):PF:=(((fM E).set 11 (.int .i64 mc)).set 13 (.int .i64 n)).set 14 (.int .i64 i)
structure PAt (E:FE) (mc n i:Nat) (F:PF):Prop where
 f0:F 0=some (.ptr E.o 2 0 0)
 f1:F 1=some (.int .i64 E.bIS)
 f2:F 2=some (.int .i64 E.bIV)
 f6:F 6=some (.ptr E.o6 7 0 0)
 f7:F 7=some (.ptr E.o7 7 0 0)
 f11:F 11=some (.int .i64 mc)
 f13:F 13=some (.int .i64 n)
 f14:F 14=some (.int .i64 i)
def qC (l:List Nat) (a:Nat):Nat→List Int × Nat
 | 0=>([],a)
 | j+1=>let s:=qC l a j
  let t:=gQ l s.2
  (s.1++[t.1],t.2)
theorem sZ (l:List Nat) {a:Nat} (h:a≤l.length):(gQ l a).2≤l.length:=by
 unfold gQ
 simp only
 split
 ·exact bK l 3 (bK l 3 h)
 ·exact bK l 3 h
theorem aoA (l:List Nat) {a:Nat} (h:a≤l.length):∀ j,(qC l a j).2≤l.length∧(qC l a j).1.length=j
 | 0=>⟨h,rfl⟩
 | j+1=>by
  obtain⟨h1,h2⟩:=aoA l h j
  exact⟨sZ l h1,by simp only[qC,bLC,bLH,h2]⟩
abbrev qB (pre post:List PV) (s:List Int):List PV:=pre++(s.map fun x=>PV.int .i64 x)++bLD (4-s.length) (.int .i64 0)++post
theorem bvU {pre post:List PV} {s:List Int} (hp:pre.length=5) (hs:s.length<4) (x:Int):(qB pre post s).set (5+s.length) (.int .i64 x)=qB pre post (s++[x]):=by
 obtain⟨k,hk⟩:∃ k,4-s.length=k+1:=⟨3-s.length,by omega⟩
 unfold qB
 rw[bLC,bLH,show 4-(s.length+1)=k by omega,hk,List.replicate_succ,bMW,bMI,bMZ]
 rw[List.set_append_left _ _ (by simp[hp]),bOA _ _ (by simp[hp])]
 have:5+s.length-(pre++s.map fun x=>PV.int .i64 x).length=0:=by simp[hp]
 rw[this,List.set_cons_zero]
 simp
theorem bpC {pre post:List PV} {s:List Int} (hp:pre.length=5) (hs:s.length<4):qB pre post s=qB pre post (s++[0]):=by
 obtain⟨k,hk⟩:∃ k,4-s.length=k+1:=⟨3-s.length,by omega⟩
 unfold qB
 rw[bLC,bLH,show 4-(s.length+1)=k by omega,hk,List.replicate_succ,bMW,bMI,bMZ]
 simp
theorem a8Y {C:Ctx} (Lb:mT C) {l:List Nat} {v:PV} (T:Tp l v) (E:FE) (mc n i a p:Nat) (ha:a≤l.length) (B:List BX) (L:List LI) (pre post:List PV) (hpre:pre.length=5) (hpost:post.length=8) (K:bY) (F:PF) (H:PH)
  (hF:PAt E mc n i F) (f15:F 15=some (.ptr p 17 0 0)) (f16:F 16=some (.int .i64 1)) (hH:aQ H ((E.o,aW v a)::B++[(p,.rows 17 [qB pre post []])]) L)
  (hK:∀ F' H',PAt E mc n i F'→F' 15=some (.ptr p 17 0 0)→aQ H' ((E.o,aW v (qC l a 4).2)::B++[(p,.rows 17 [qB pre post (qC l a 4).1])]) L→K (.exit 6) F' H') :
  aB.wp C (.loop wI) K F H:=by
 refine wp_loop (α:=Nat × PH) (fun t=>((amS E mc n i).set 15 (.ptr p 17 0 0)).set 16 (.int .i64 (t.1+1:Nat))) (fun t=>t.2) (fun t=>t.1≤4∧aQ t.2 ((E.o,aW v (qC l a t.1).2)::B++[(p,.rows 17 [qB pre post (qC l a t.1).1])]) L) (fun t=>4-t.1) (0,H) ⟨bLE _,hH⟩ ?_ PH.le_refl ?_
 ·unfold amS fM
  (repeat' (first|exact PF.nil_le|refine PF.aG ?_ ?_))<;>first|(simp only[go_sem,hF.f0,hF.f1,hF.f2,hF.f6,hF.f7,hF.f11,hF.f13,hF.f14,f15,f16]<;>rfl)|rfl
 rintro⟨j,H0⟩ ⟨hj,hH⟩
 simp only at hj hH ⊢
 obtain⟨k1,k2⟩:=aoA l ha j
 have bJB:qC l a (j+1)=((qC l a j).1++[(gQ l (qC l a j).2).1],(gQ l (qC l a j).2).2):=rfl
 simp only[go_sem,γ,reduceCtorEq,wI,aeF,amS,fM]
 by_cases hlt:j<4
 ·generalize hg:qC l a j=g at *
  have ei:=cY (Om:j+1<9223372036854775807)
  simp only[go_sem,reduceCtorEq,show ((j+1:Nat):Int)<5 by omega,aeG]
  refine cK Lb.torW T (o:=E.o) (n:=3) (a:=g.2) (by decide) k1 (by simp only[go_sem,γ,reduceCtorEq]; rfl) (hH.at 0 rfl) ?_
  have h1:aQ _ ((E.o,aW v (aC l 3 g.2).2)::B++[(p,.rows 17 [qB pre post g.1])]) L:=hH.set 0 rfl (aW v (aC l 3 g.2).2)
  by_cases c:(aC l 3 g.2).1=0
  ·have hs:gQ l g.2=(((1+(aC l 3 (aC l 3 g.2).2).1:Nat):Int),(aC l 3 (aC l 3 g.2).2).2):=by unfold gQ; simp only[c,if_true]
   have n2:=bT l (show 0<3 by decide) (aC l 3 g.2).2
   have e2:IntKind.i64.wrap (1+((aC l 3 (aC l 3 g.2).2).1:Int))=((1+(aC l 3 (aC l 3 g.2).2).1:Nat):Int):=by rw[wrap_i64 Om Om]; omega
   simp only[go_sem,γ,reduceCtorEq,bN (show (((aC l 3 g.2).1:Nat):Int)=0 by omega),aeH]
   refine cK Lb.torW T (o:=E.o) (n:=3) (a:=(aC l 3 g.2).2) (by decide) (bK l 3 k1) (by simp only[go_sem,γ,reduceCtorEq]; rfl) (h1.at 0 rfl) ?_
   have h2:aQ _ ((E.o,aW v (aC l 3 (aC l 3 g.2).2).2)::B++[(p,.rows 17 [qB pre post g.1])]) L:=h1.set 0 rfl (aW v (aC l 3 (aC l 3 g.2).2).2)
   have bp:=h2.MV
   rw[PH.set_set] at bp h2
   have hpo:¬ p=E.o:=fun h=>by
    have hnd:=h2.ndB
    simp[eJ,h] at hnd
   simp only[bB,if_neg hpo] at bp
   have hj5:((j+1:Nat):Int)<((5:Nat):Int):=by omega
   have h0j:(0:Int)≤((j+1:Nat):Int):=by omega
   have hlen:(qB pre post g.1).length=17:=by simp[qB,hpre,hpost,k2]; omega
   have bKR:=bvU (pre:=pre) (post:=post) (s:=g.1) hpre Om ((1+(aC l 3 (aC l 3 g.2).2).1:Nat):Int)
   rw[k2] at bKR
   have hidx:4+(j+1)*1=5+j:=by omega
   have hle17:5+j+1≤17:=by omega
   simp only[go_sem,γ,reduceCtorEq,e2,hj5,h0j,hidx,hpo,bp,hle17,bLO,bLW,or_false,forall_eq,bKR,HS,ei]
   refine aE (j+1,_) ⟨hlt,?_⟩ (by simp only; omega) ?_ PH.le_refl
   ·rw[bJB,hs]
    exact h2.anY _
   ·exact Lq
  ·have hs:gQ l g.2=(0,(aC l 3 g.2).2):=by unfold gQ; simp only[c,if_false]
   simp only[go_sem,γ,reduceCtorEq,bC (show ¬ (((aC l 3 g.2).1:Nat):Int)=0 by omega),HS,ei]
   refine aE (j+1,_) ⟨hlt,?_⟩ (by simp only; omega) ?_ PH.le_refl
   ·rw[bpC (pre:=pre) (post:=post) (s:=g.1) hpre Om] at h1
    rw[bJB,hs]
    exact h1
   ·exact Lq
 ·have:j=4:=by omega
  subst this
  simp only[go_sem,δ,ε,show ¬ ((4+1:Nat):Int)<5 by decide]
  exact hK _ _ ⟨by simp only[go_sem,reduceCtorEq],by simp only[go_sem,γ,reduceCtorEq],by simp only[go_sem,γ,reduceCtorEq],by simp only[go_sem,γ,reduceCtorEq],by simp only[go_sem,γ,reduceCtorEq],by simp only[go_sem,γ,reduceCtorEq],by simp only[go_sem,γ,reduceCtorEq],by simp only[go_sem,γ,reduceCtorEq]⟩ Sq hH
theorem aQ.oV {E:FE} {v ext w1 w2 w3 w4 w5 w6:PV} {a:Nat} {H:PH} {B:List BX} {L:List LI} (h:aQ H (E.boxes v ext w1 w2 w3 w4 w5 w6 a++B) L) (b:Nat):aQ (H.set E.o (aW v b)) (E.boxes v ext w1 w2 w3 w4 w5 w6 b++B) L:=h.set 0 rfl _
abbrev ZQ (s:List UInt8) (k m q:Int) (w r t1 t2 t3:PV) (h:RF):List PV:=[.str s,.int .i64 k,.int .i64 m,.int .i64 q,.int .i64 0,.int .i64 0,.int .i64 0,.int .i64 0,.int .i64 0,w,r,t1,t2,t3,.bool h.neg,aJ h.num,aJ h.den]
theorem bnJ {C : Ctx} (Lb : mT C) {l : List Nat} {v : PV} (T : Tp l v) (E : FE) (mc n i a : Nat) (ha : a ≤ l.length) (hi : i < 50) (ext w1 w2 w3 w4 w5 w6 : PV) (L : List LI) (rest : aB) (K : bY) (F : PF) (H : PH)
    (hF : PAt E mc n i F) (hH : aQ H (E.boxes v ext w1 w2 w3 w4 w5 w6 a) L)
    (hK : ∀ p F' H', PAt E mc n i F' → F' 15 = some (.ptr p 17 0 0) →
      (let k := aC l 2 a; let m := aC l 3 k.2; let h := aC l 4 m.2; let q := aC l (m.1 + 1) h.2; let r := kB l q.2 (max m.1 1); let g := aC l 9 r.2
       aQ H' (E.boxes v ext w1 w2 w3 w4 w5 w6 g.2 ++ [(p, .rows 17 [qB [.str ([112] ++ bV i), .int .i64 (1 + k.1 : Nat), .int .i64 (m.1 : Nat), .int .i64 (1 + k.1 + q.1 : Nat), .int .i64 0]
        ([.bIU, frs r.1] ++ (mkT (g.1 : Nat) 8).cells ++ (mkT ((1 + h.1 : Nat) : Int) 1).cells) []])]) L) → aB.wp C rest K F' H') :
    aB.wp C (.seq (.region HQ) (.seq (.seq (.draw wJ) (.draw wK)) (.seq (.region wL) (.seq (.region wM) rest)))) K F H := by
  obtain ⟨f0, f1, f2, f6, f7, f11, f13, f14⟩ := hF
  have nk := bT l (show 0 < 2 by decide) a
  have ak := bK l 2 ha
  have nm := bT l (show 0 < 3 by decide) (aC l 2 a).2
  have am := bK l 3 ak
  simp only at hK
  generalize hk : aC l 2 a = k at *
  generalize hm : aC l 3 k.2 = m at *
  have nh := bT l (show 0 < 4 by decide) m.2
  have ah := bK l 4 am
  generalize hh : aC l 4 m.2 = h at *
  have nq := bT l (Om : 0 < m.1 + 1) h.2
  have aq := bK l (m.1 + 1) ah
  generalize hq : aC l (m.1 + 1) h.2 = q at *
  have ar := FD l aq (max m.1 1)
  generalize hr : kB l q.2 (max m.1 1) = r at *
  have ng := bT l (show 0 < 9 by decide) r.2
  have ag := bK l 9 ar
  generalize hg : aC l 9 r.2 = g at *
  have ek : IntKind.i64.wrap (1 + (k.1 : Int)) = ((1 + k.1 : Nat) : Int) := by rw [wrap_i64 Om Om]; omega
  have eh : IntKind.i64.wrap (1 + (h.1 : Int)) = ((1 + h.1 : Nat) : Int) := by rw [wrap_i64 Om Om]; omega
  have em : IntKind.i64.wrap ((m.1 : Int) + 1) = ((m.1 + 1 : Nat) : Int) := cY Om
  have eq' : IntKind.i64.wrap (((1 + k.1 : Nat) : Int) + (q.1 : Int)) = ((1 + k.1 + q.1 : Nat) : Int) := by rw [wrap_i64 Om Om]; omega
  have h0 : aQ H (E.boxes v ext w1 w2 w3 w4 w5 w6 a ++ []) L := by rw [bMP]; exact hH
  simp only[go_sem,HQ,f14]
  refine aA (Lb.name [112] i (by decide) Om) rfl ?_
  simp only[go_sem,reduceCtorEq,f0]
  refine cK Lb.torW T (o := E.o) (n := 2) (a := a) (by decide) ha rfl (h0.at 0 rfl) ?_
  have g1 := h0.oV k.2
  rw [hk]
  simp only[go_sem,γ,reduceCtorEq,ek,f0]
  refine cK Lb.torW T (o := E.o) (n := 3) (a := k.2) (by decide) ak rfl (g1.at 0 rfl) ?_
  have g2 := g1.oV m.2
  rw [hm]
  rw [PH.set_set] at g2
  simp only[go_sem,reduceCtorEq,f0]
  refine cK Lb.torW T (o := E.o) (n := 4) (a := m.2) (by decide) am rfl (g2.at 0 rfl) ?_
  have g3 := g2.oV h.2
  rw [hh]
  rw [PH.set_set] at g3
  simp only[go_sem,γ,eh]
  refine aA (Lb.int ((1 + h.1 : Nat) : Int) (by unfold cZ; omega)) rfl ?_
  simp only[go_sem,δ,γ,θ,bLO,bLW,or_false,forall_eq,forall_eq_or_imp]
  refine aN fun p hp => ?_
  have g4 := g3.new hp (.rows 17 [ZQ ([112] ++ bV i) (1 + k.1 : Nat) (m.1 : Nat) 0 .bIU .bIU (.bool false) .bIU .bIU (mkT ((1 + h.1 : Nat) : Int) 1)])
  have hpo : ¬ p = E.o := g4.ne 3 0 rfl rfl (by decide)
  have hop : ¬ E.o = p := fun e => hpo e.symm
  have q2 : ∀ (F2 : PF) (H2 : PH), PAt E mc n i F2 → F2 15 = some (.ptr p 17 0 0) → aQ H2 (E.boxes v ext w1 w2 w3 w4 w5 w6 h.2 ++ [(p, .rows 17 [ZQ ([112] ++ bV i) (1 + k.1 : Nat) (m.1 : Nat) 0 .bIU .bIU (.bool false) .bIU .bIU (mkT ((1 + h.1 : Nat) : Int) 1)])]) L →
      aB.wp C (.seq (.seq (.draw wJ) (.draw wK)) (.seq (.region wL) (.seq (.region wM) rest))) K F2 H2 := by
    intro F2 H2 hF2 f15 hH2
    obtain ⟨f0, f1, f2, f6, f7, f11, f13, f14⟩ := hF2
    have bp := hH2.at 3 rfl
    have hHs : (PH.nil.set p (.rows 17 [ZQ ([112] ++ bV i) (1 + k.1 : Nat) (m.1 : Nat) 0 .bIU .bIU (.bool false) .bIU .bIU (mkT ((1 + h.1 : Nat) : Int) 1)])).le H2 := PH.aG PH.nil_le bp
    simp only[go_sem]
    refine bM _ (mkS l v) hHs ?_
    simp only[go_sem,δ,γ,θ,reduceCtorEq,wJ,f15,bp,em,f0]
    refine qQ Lb.torW T (o := E.o) (n := m.1 + 1) (a := h.2) Om ah rfl (hH2.at 0 rfl) ?_ ?_
    · rw [hq]; exact PH.aG PH.nil_le ((hH2.oV q.2).at 3 rfl)
    rw [hq]
    have g5 := hH2.oV q.2
    simp only[go_sem,γ,eq',f15]
    refine bM .nil dK PH.nil_le ?_
    simp only[go_sem,δ,γ,θ,wK,hpo,bp]
    refine ⟨PH.nil_le, ?_⟩
    have g6 : aQ _ (E.boxes v ext w1 w2 w3 w4 w5 w6 q.2 ++ [(p, .rows 17 [ZQ ([112] ++ bV i) (1 + k.1 : Nat) (m.1 : Nat) (1 + k.1 + q.1 : Nat) .bIU .bIU (.bool false) .bIU .bIU (mkT ((1 + h.1 : Nat) : Int) 1)])]) L := g5.set 3 rfl (.rows 17 [ZQ ([112] ++ bV i) (1 + k.1 : Nat) (m.1 : Nat) (1 + k.1 + q.1 : Nat) .bIU .bIU (.bool false) .bIU .bIU (mkT ((1 + h.1 : Nat) : Int) 1)])
    have bq := g6.at 3 rfl
    simp only[go_sem,δ,γ,θ,reduceCtorEq,wL,f0,f15]
    refine hC (Lb.rep l v T E.o q.2 m.1 Om aq) (g6.at 0 rfl) rfl ?_
    have g7 := g6.oV r.2
    rw [hr]
    simp only[go_sem,δ,γ,θ,hpo,f15]
    have g8 : aQ _ (E.boxes v ext w1 w2 w3 w4 w5 w6 r.2 ++ [(p, .rows 17 [ZQ ([112] ++ bV i) (1 + k.1 : Nat) (m.1 : Nat) (1 + k.1 + q.1 : Nat) .bIU (frs r.1) (.bool false) .bIU .bIU (mkT ((1 + h.1 : Nat) : Int) 1)])]) L := g7.set 3 rfl (.rows 17 [ZQ ([112] ++ bV i) (1 + k.1 : Nat) (m.1 : Nat) (1 + k.1 + q.1 : Nat) .bIU (frs r.1) (.bool false) .bIU .bIU (mkT ((1 + h.1 : Nat) : Int) 1)])
    simp only[go_sem,reduceCtorEq,wM,f0]
    refine cK Lb.torW T (o := E.o) (n := 9) (a := r.2) (by decide) ar rfl (g8.at 0 rfl) ?_
    have g9 := g8.oV g.2
    rw [hg]
    simp only[go_sem]
    refine aA (Lb.fmk (g.1 : Int) 8 (by unfold cZ; omega) (by unfold cZ; omega)) rfl ?_
    unfold vN
    rw [if_neg (by decide)]
    simp only[go_sem,δ,γ,θ,f15,hpo]
    have g10 := g9.set 3 rfl (.rows 17 [qB [.str ([112] ++ bV i), .int .i64 (1 + k.1 : Nat), .int .i64 (m.1 : Nat), .int .i64 (1 + k.1 + q.1 : Nat), .int .i64 0]
        ([.bIU, frs r.1] ++ (mkT (g.1 : Nat) 8).cells ++ (mkT ((1 + h.1 : Nat) : Int) 1).cells) []])
    refine hK p _ _ ⟨by simp only[go_sem,reduceCtorEq,f0], by simp only[go_sem,γ,f1], by simp only[go_sem,γ,f2], by simp only[go_sem,γ,f6], by simp only[go_sem,γ,f7], by simp only[go_sem,γ,f11], by simp only[go_sem,γ,f13], by simp only[go_sem,γ,f14]⟩ (by simp only[go_sem,γ,f15]) g10
  simp only [aB.wp, go_sem] at q2
  simp only[go_sem,δ,γ,bLO,bLW,or_false,forall_eq,forall_eq_or_imp]
  exact q2 _ _ ⟨by simp only[go_sem,reduceCtorEq,f0], by simp only[go_sem,γ,f1], by simp only[go_sem,γ,f2], by simp only[go_sem,γ,f6], by simp only[go_sem,γ,f7], by simp only[go_sem,γ,f11], by simp only[go_sem,γ,f13], by simp only[go_sem,γ,f14]⟩ rfl g4
abbrev FE.lists (w1 w2 w3 w4 w5:PV) (lw:List bZ) (md:List cL) (dm:List cI) (dv:List dB) (pr:List (List PV)):List LI:=[(w1,4,gZ lw),(w2,4,jS md),(w3,7,jY dm),(w4,3,lY dv),(w5,17,pr)]
theorem bnK {C:Ctx} (Lb:mT C) {l:List Nat} {v:PV} (T:Tp l v) (E:FE) (mc n i a:Nat) (ha:a≤l.length) (hmc:0<mc) (hmc2:mc≤50) (ext w1 w2 w3 w4 w5:PV) (lw:List bZ) (md:List cL) (dm:List cI) (dv:List dB) (pr:List (List PV)) (hpr:pr.length≤50)
  (s:List UInt8) (k m q:Int) (r t h:RF) (rl:List RF) (p:Nat) (K:bY) (F:PF) (H:PH)
  (hF:PAt E mc n i F) (f15:F 15=some (.ptr p 17 0 0))
  (hH:aQ H (E.boxes v ext w1 w2 w3 w4 w5 .bIU a++[(p,.rows 17 [qB [.str s,.int .i64 k,.int .i64 m,.int .i64 q,.int .i64 0] ([.bIU,frs rl]++t.cells++h.cells) []])]) (FE.lists w1 w2 w3 w4 w5 lw md dm dv pr))
  (hK:(let sp:=qC l a 4; let f:=aC l mc sp.2; let b:=aC l 2 f.2
   let ms:List Int × Nat:=if 1<mc then (if b.1=0 then ([(f.1:Int),1-(f.1:Int)],b.2) else ([(f.1:Int)],b.2)) else ([(f.1:Int)],f.2)
   ∀ (w w5':PV) (F':PF) (H':PH) (B':List BX),PAt E mc n i F'→(∃ o,w=.osl o 1 0 ms.1.length)→aQ H' (E.boxes v ext w1 w2 w3 w4 w5' .bIU ms.2++B')
    (FE.lists w1 w2 w3 w4 w5' lw md dm dv (pr++[vZ ⟨s,k,m,q,0,(sp.1.getD 0 0),(sp.1.getD 1 0),(sp.1.getD 2 0),(sp.1.getD 3 0),ms.1,rl,t,h⟩ w])++[(w,1,dA ms.1)])→K .normal F' H')) :
  aB.wp C (.seq (.seq (.region HR) (.block 6 (.loop wI))) (.seq (.region HT) (.seq (.region HU) (.seq (.seq (.region HV) (.cond (.tmp 143) (.region HW) .skip)) (.region wN))))) K F H:=by
 obtain⟨f0,f1,f2,f6,f7,f11,f13,f14⟩:=hF
 simp only[go_sem,HR]
 refine a8Y (C:=C) Lb T E mc n i a p ha [(E.o7,flB ext w1 w2 w3 w4 w5 .bIU),(E.o6,flZ)] _ _ _ rfl rfl _ _ H ⟨by simp only[go_sem,reduceCtorEq,f0],by simp only[go_sem,γ,f1],by simp only[go_sem,γ,f2],by simp only[go_sem,γ,f6],by simp only[go_sem,γ,f7],by simp only[go_sem,γ,f11],by simp only[go_sem,γ,f13],by simp only[go_sem,γ,f14]⟩ (by simp only[go_sem,γ,f15]) rfl hH ?_
 clear f0 f1 f2 f6 f7 f11 f13 f14 f15 hH
 intro F1 H1 hF1 f15 hH1
 obtain⟨f0,f1,f2,f6,f7,f11,f13,f14⟩:=hF1
 obtain⟨as',ls⟩:=aoA l ha 4
 have hsp:∃ x1 x2 x3 x4,(qC l a 4).1=[x1,x2,x3,x4]:=⟨_,_,_,_,rfl⟩
 simp only at hK
 generalize hspg:qC l a 4=sp at *
 obtain⟨x1,x2,x3,x4,hx⟩:=hsp
 rw[hx] at hK hH1
 replace hH1:aQ H1 (E.boxes v ext w1 w2 w3 w4 w5 .bIU sp.2++[(p,.rows 17 [vZ ⟨s,k,m,q,0,x1,x2,x3,x4,[],rl,t,h⟩ .bIU])]) (FE.lists w1 w2 w3 w4 w5 lw md dm dv pr):=hH1
 have nf:=bT l hmc sp.2
 have af:=bK l mc as'
 generalize hf:aC l mc sp.2=f at *
 have ab:=bK l 2 af
 generalize hb:aC l 2 f.2=b at *
 have hpo:¬ p=E.o:=hH1.ne 3 0 rfl rfl (by decide)
 have hp7:¬ p=E.o7:=hH1.ne 3 1 rfl rfl (by decide)
 have h7p:¬ E.o7=p:=fun e=>hp7 e.symm
 have h7o:¬ E.o7=E.o:=hH1.ne 1 0 rfl rfl (by decide)
 simp only[go_sem,γ,HT,f0,f11]
 refine cK Lb.torW T (o:=E.o) (n:=mc) (a:=sp.2) Om as' rfl (hH1.at 0 rfl) ?_
 have h2:=hH1.set 0 rfl (aW v f.2)
 rw[hf]
 simp only[go_sem,υ,γ,η,θ,ζ,HU]
 refine aN fun o ho=>?_
 have h3:=h2.byG (s:=1) (rows:=dA [(f.1:Int)]) ho
 have b3:=h3.at 3 rfl
 have ob:¬ p=o:=h3.neL 3 5 rfl rfl rfl
 have o7b:¬ E.o7=o:=h3.neL 1 5 rfl rfl rfl
 have oob:¬ E.o=o:=h3.neL 0 5 rfl rfl rfl
 simp only[bB,if_neg ob,if_neg hpo] at b3
 simp only[go_sem,δ,γ,θ,f15,ob,hpo,b3,bLO,bLW,or_false,forall_eq]
 have h4:=h3.set 3 rfl (.rows 17 [vZ ⟨s,k,m,q,0,x1,x2,x3,x4,[],rl,t,h⟩ (.osl o 1 0 1)])
 have fin:∀ (w:PV) (ms:List Int) (a':Nat) (F':PF) (H':PH),PAt E mc n i F'→F' 15=some (.ptr p 17 0 0)→(∃ o,w=.osl o 1 0 ms.length) →
   aQ H' (E.boxes v ext w1 w2 w3 w4 w5 .bIU a'++[(p,.rows 17 [vZ ⟨s,k,m,q,0,x1,x2,x3,x4,ms,rl,t,h⟩ w])]) (FE.lists w1 w2 w3 w4 w5 lw md dm dv pr++[(w,1,dA ms)]) →
   (∀ (w5':PV) (F2:PF) (H2:PH),PAt E mc n i F2→aQ H2 (E.boxes v ext w1 w2 w3 w4 w5' .bIU a'++[(p,.rows 17 [vZ ⟨s,k,m,q,0,x1,x2,x3,x4,ms,rl,t,h⟩ w])]) (FE.lists w1 w2 w3 w4 w5' lw md dm dv (pr++[vZ ⟨s,k,m,q,0,x1,x2,x3,x4,ms,rl,t,h⟩ w])++[(w,1,dA ms)])→K .normal F2 H2) →
   wpOps C wN (K .normal) F' H':=by
  intro w ms a' F' H' hF' f15 hw hH' hK'
  obtain⟨wo,rfl⟩:=hw
  obtain⟨f0,f1,f2,f6,f7,f11,f13,f14⟩:=hF'
  have c1:=hH'.at 1 rfl
  have c3:=hH'.at 3 rfl
  have h17:(1:Nat)*17≤16777216:=by decide
  simp only[go_sem,υ,δ,γ,η,θ,ζ,wN,f7,f15,c1,c3,h17,bLO,bLW,or_false,forall_eq,forall_eq_or_imp]
  refine hH'.append 4 (src:=[vZ ⟨s,k,m,q,0,x1,x2,x3,x4,ms,rl,t,h⟩ (.osl wo 1 0 ms.length)]) rfl rfl (by unfold roomFor; simp only[bLH,maxLen]; omega) fun w5' H2 h5 hw5=>?_
  obtain⟨q5,rfl⟩:=hw5 (by simp)
  have c2:=h5.at 1 rfl
  simp only[go_sem,δ,θ,c2,bLO,bLW,or_false,forall_eq]
  exact hK' _ _ _ ⟨by simp only[go_sem,reduceCtorEq,f0],by simp only[go_sem,γ,f1],by simp only[go_sem,γ,f2],by simp only[go_sem,γ,f6],by simp only[go_sem,γ,f7],by simp only[go_sem,γ,f11],by simp only[go_sem,γ,f13],by simp only[go_sem,γ,f14]⟩ (h5.set 1 rfl (flB ext w1 w2 w3 w4 _ .bIU))
 simp only[go_sem,γ,HV,f11]
 by_cases c:1<mc
 ·have c':(mc:Int)>1:=by omega
  simp only[go_sem,γ,reduceCtorEq,c',f0]
  refine cK Lb.torW T (o:=E.o) (n:=2) (a:=f.2) (by decide) af rfl (h4.at 0 rfl) ?_
  have h5:=h4.set 0 rfl (aW v b.2)
  rw[hb]
  by_cases c2:b.1=0
  ·have c2':((b.1:Nat):Int)=0:=by omega
   rw[if_pos c,if_pos c2] at hK
   have e1:IntKind.i64.wrap (1-(f.1:Int))=1-(f.1:Int):=wrap_i64 Om Om
   have c3:=h5.at 3 rfl
   have h11:(1:Nat)*1≤16777216:=by decide
   simp only[go_sem,υ,δ,γ,η,θ,ζ,bN c2',HW,f15,hpo,e1,h11]
   refine h5.append 5 (src:=[[.int .i64 (1-(f.1:Int))]]) rfl rfl (by unfold roomFor; simp only[dA,bKY,bLH,maxLen]; omega) fun w' H2 h6 hw=>?_
   obtain⟨q2,rfl⟩:=hw (by simp)
   have c4:=h6.at 3 rfl
   simp only[go_sem,δ,θ,c4,f15,bLO,bLW,or_false,forall_eq]
   have h7:=h6.set 3 rfl (.rows 17 [vZ ⟨s,k,m,q,0,x1,x2,x3,x4,[(f.1:Int),1-(f.1:Int)],rl,t,h⟩ (.osl q2 1 0 2)])
   exact fin (.osl q2 1 0 2) [(f.1:Int),1-(f.1:Int)] b.2 _ _ ⟨by simp only[go_sem,reduceCtorEq,f0],by simp only[go_sem,γ,f1],by simp only[go_sem,γ,f2],by simp only[go_sem,γ,f6],by simp only[go_sem,γ,f7],by simp only[go_sem,γ,f11],by simp only[go_sem,γ,f13],by simp only[go_sem,γ,f14]⟩ (by simp only[go_sem,γ,f15]) ⟨q2,rfl⟩ h7 (fun w5' F2 H2 g1 g2=>hK _ w5' F2 H2 _ g1 ⟨q2,rfl⟩ g2)
  ·have c2':¬ ((b.1:Nat):Int)=0:=by omega
   rw[if_pos c,if_neg c2] at hK
   simp only[go_sem,γ,bC c2']
   exact fin (.osl o 1 0 1) [(f.1:Int)] b.2 _ _ ⟨by simp only[go_sem,reduceCtorEq,f0],by simp only[go_sem,γ,f1],by simp only[go_sem,γ,f2],by simp only[go_sem,γ,f6],by simp only[go_sem,γ,f7],by simp only[go_sem,γ,f11],by simp only[go_sem,γ,f13],by simp only[go_sem,γ,f14]⟩ (by simp only[go_sem,γ,f15]) ⟨o,rfl⟩ h5 (fun w5' F2 H2 g1 g2=>hK _ w5' F2 H2 _ g1 ⟨o,rfl⟩ g2)
 ·have c':¬ (mc:Int)>1:=by omega
  rw[if_neg c] at hK
  simp only[go_sem,γ,reduceCtorEq,c']
  exact fin (.osl o 1 0 1) [(f.1:Int)] f.2 _ _ ⟨by simp only[go_sem,reduceCtorEq,f0],by simp only[go_sem,γ,f1],by simp only[go_sem,γ,f2],by simp only[go_sem,γ,f6],by simp only[go_sem,γ,f7],by simp only[go_sem,γ,f11],by simp only[go_sem,γ,f13],by simp only[go_sem,γ,f14]⟩ (by simp only[go_sem,γ,f15]) ⟨o,rfl⟩ h4 (fun w5' F2 H2 g1 g2=>hK _ w5' F2 H2 _ g1 ⟨o,rfl⟩ g2)
abbrev lK (l:List cJ):List (List PV):=l.map cJ.cells
abbrev nU (l:List eN):List (List PV):=l.map eN.cells
theorem nM {rows:List (List PV)} (h:∀ r∈rows,∀ c∈r,c.oid=none):Flat rows:=Flat.of fun r hr c hc q s rs=>acU (h r hr c hc) q s rs
theorem aYO (l:List bZ):Flat (gZ l):=nM fun r hr c hc=>by
 obtain⟨x,_,rfl⟩:=bMF.1 hr
 simp only[bZ.cells,bLO,bLW,or_false] at hc
 rcases hc with rfl | rfl | rfl | rfl<;>rfl
theorem aYP (l:List cL):Flat (jS l):=nM fun r hr c hc=>by
 obtain⟨x,_,rfl⟩:=bMF.1 hr
 simp only[cL.cells,bLO,bLW,or_false] at hc
 rcases hc with rfl | rfl | rfl | rfl<;>rfl
theorem aVV (l:List cI):Flat (jY l):=nM fun r hr c hc=>by
 obtain⟨x,_,rfl⟩:=bMF.1 hr
 simp only[cI.cells,bLO,bLW,or_false] at hc
 rcases hc with rfl | rfl | rfl | rfl | rfl | rfl | rfl<;>rfl
theorem aVX (l:List dB):Flat (lY l):=nM fun r hr c hc=>by
 obtain⟨x,_,rfl⟩:=bMF.1 hr
 simp only[dB.cells,bLO,bLW,or_false] at hc
 rcases hc with rfl | rfl | rfl<;>rfl
theorem bwQ (l:List eN):Flat (nU l):=nM fun r hr c hc=>by
 obtain⟨x,_,rfl⟩:=bMF.1 hr
 simp only[eN.cells,bLO,bLW,or_false] at hc
 rcases hc with rfl | rfl<;>rfl
theorem a1B (l:List cJ):Flat (lK l):=nM fun r hr c hc=>by
 obtain⟨x,_,rfl⟩:=bMF.1 hr
 simp only[cJ.cells,bLO,bLW,or_false] at hc
 rcases hc with rfl | rfl | rfl | rfl | rfl | rfl | rfl | rfl | rfl | rfl | rfl | rfl | rfl | rfl | rfl | rfl | rfl<;>rfl
theorem baE (l:List Nat) (mc i:Nat) {a:Nat} (h:a≤l.length):(lP l mc i a).2≤l.length:=by
 have h1:=bK l 9 (FD l (bK l ((aC l 3 (aC l 2 a).2).1+1) (bK l 4 (bK l 3 (bK l 2 h)))) (max (aC l 3 (aC l 2 a).2).1 1))
 have h2:=bK l mc (sZ l (sZ l (sZ l (sZ l h1))))
 unfold lP
 simp only
 split
 ·split
  ·exact bK l 2 h2
  ·exact bK l 2 h2
 ·exact h2
theorem sU (l:List Nat) (mc:Nat) {a:Nat} (h:a≤l.length):∀ k,(dL l mc a k).2≤l.length∧(dL l mc a k).1.length=k
 | 0=>⟨h,rfl⟩
 | k+1=>by
  obtain⟨h1,h2⟩:=sU l mc h k
  exact⟨baE l mc k h1,by simp only[dL,bLC,bLH,h2]⟩
theorem EB (l:List Nat) (pc:Nat) {a:Nat} (h:a≤l.length):∀ k,(eF l pc a k).2≤l.length∧(eF l pc a k).1.length=k
 | 0=>⟨h,rfl⟩
 | k+1=>by
  obtain⟨h1,h2⟩:=EB l pc h k
  exact⟨bK l pc h1,by simp only[eF,bLC,bLH,h2]⟩
theorem aIH {C:Ctx} (Lb:mT C) {l:List Nat} {v:PV} (T:Tp l v) (E:FE) (mc n a:Nat) (hn:n≤10) (hmc:0<mc) (hmc2:mc≤50) (ha:a≤l.length) (x0:Int) (w1 w2 w3 w4:PV) (lw:List bZ) (md:List cL) (dm:List cI) (dv:List dB) (K:bY) (F:PF) (H:PH)
  (hF:PAt E mc n 0 F) (hH:aQ H (E.boxes v (.int .i64 x0) w1 w2 w3 w4 .bIU .bIU a) [(w1,4,gZ lw),(w2,4,jS md),(w3,7,jY dm),(w4,3,lY dv)])
  (hK:∀ w5 F' H',(fM E).le F'→aQ H' (E.boxes v (.int .i64 x0) w1 w2 w3 w4 w5 .bIU (dL l mc a n).2) (FE.lists w1 w2 w3 w4 w5 lw md dm dv (lK (dL l mc a n).1))→K (.exit 4) F' H') :
  aB.wp C (.loop HO) K F H:=by
 refine wp_loop (α:=Nat × PV × PH) (fun t=>amS E mc n t.1) (fun t=>t.2.2) (fun t=>t.1≤n∧aQ t.2.2 (E.boxes v (.int .i64 x0) w1 w2 w3 w4 t.2.1 .bIU (dL l mc a t.1).2) (FE.lists w1 w2 w3 w4 t.2.1 lw md dm dv (lK (dL l mc a t.1).1))) (fun t=>n-t.1) (0,.bIU,H) ⟨bLE _,hH.oH 17⟩ ?_ PH.le_refl ?_
 ·unfold amS fM
  (repeat' (first|exact PF.nil_le|refine PF.aG ?_ ?_))<;>first|(simp only[go_sem,hF.f0,hF.f1,hF.f2,hF.f6,hF.f7,hF.f11,hF.f13,hF.f14]<;>rfl)|rfl
 rintro⟨i,w5,H0⟩ ⟨hi,hH⟩
 simp only at hi hH ⊢
 obtain⟨k1,k2⟩:=sU l mc ha i
 have bJB:dL l mc a (i+1)=((dL l mc a i).1++[(lP l mc i (dL l mc a i).2).1],(lP l mc i (dL l mc a i).2).2):=rfl
 simp only[go_sem,γ,reduceCtorEq,HO,aeE,amS,fM]
 by_cases hlt:i<n
 ·have bJA:(i:Int)<(n:Nat):=by omega
  generalize hg:dL l mc a i=g at *
  simp only[go_sem,bJA]
  refine bnJ (C:=C) Lb T E mc n i g.2 k1 Om (.int .i64 x0) w1 w2 w3 w4 w5 .bIU _ _ _ _ H0 ⟨by simp only[go_sem,reduceCtorEq],by simp only[go_sem,γ,reduceCtorEq],by simp only[go_sem,γ,reduceCtorEq],by simp only[go_sem,γ,reduceCtorEq],by simp only[go_sem,γ,reduceCtorEq],by simp only[go_sem,γ,reduceCtorEq],by simp only[go_sem,γ,reduceCtorEq],by simp only[go_sem,γ,reduceCtorEq]⟩ hH ?_
  intro p F1 H1 hF1 f15 hH1
  simp only at hH1
  have hpT:lP l mc i g.2=_:=rfl
  have hgle:=bK l 9 (FD l (bK l ((aC l 3 (aC l 2 g.2).2).1+1) (bK l 4 (bK l 3 (bK l 2 k1)))) (max (aC l 3 (aC l 2 g.2).2).1 1))
  refine bnK (C:=C) Lb T E mc n i _ hgle hmc hmc2 (.int .i64 x0) w1 w2 w3 w4 w5 lw md dm dv _ (by rw[bKY,k2]; omega) _ _ _ _ (mkT 0 1) _ _ _ p _ F1 H1 hF1 f15 hH1 ?_
  intro sp f b ms w w5' F2 H2 B' hF2 hw hH2
  obtain⟨o,rfl⟩:=hw
  have hP:lP l mc i g.2=(⟨[112]++bV i,(1+(aC l 2 g.2).1:Nat),((aC l 3 (aC l 2 g.2).2).1:Nat),(1+(aC l 2 g.2).1+(aC l ((aC l 3 (aC l 2 g.2).2).1+1) (aC l 4 (aC l 3 (aC l 2 g.2).2).2).2).1:Nat),0,sp.1.getD 0 0,sp.1.getD 1 0,sp.1.getD 2 0,sp.1.getD 3 0,ms.1,(kB l (aC l ((aC l 3 (aC l 2 g.2).2).1+1) (aC l 4 (aC l 3 (aC l 2 g.2).2).2).2).2 (max (aC l 3 (aC l 2 g.2).2).1 1)).1,mkT ((aC l 9 (kB l (aC l ((aC l 3 (aC l 2 g.2).2).1+1) (aC l 4 (aC l 3 (aC l 2 g.2).2).2).2).2 (max (aC l 3 (aC l 2 g.2).2).1 1)).2).1:Nat) 8,mkT ((1+(aC l 4 (aC l 3 (aC l 2 g.2).2).2).1:Nat):Int) 1⟩,ms.2):=rfl
  rw[hP] at bJB
  generalize hPP:(⟨[112]++bV i,(1+(aC l 2 g.2).1:Nat),((aC l 3 (aC l 2 g.2).2).1:Nat),(1+(aC l 2 g.2).1+(aC l ((aC l 3 (aC l 2 g.2).2).1+1) (aC l 4 (aC l 3 (aC l 2 g.2).2).2).2).1:Nat),0,sp.1.getD 0 0,sp.1.getD 1 0,sp.1.getD 2 0,sp.1.getD 3 0,ms.1,(kB l (aC l ((aC l 3 (aC l 2 g.2).2).1+1) (aC l 4 (aC l 3 (aC l 2 g.2).2).2).2).2 (max (aC l 3 (aC l 2 g.2).2).1 1)).1,mkT ((aC l 9 (kB l (aC l ((aC l 3 (aC l 2 g.2).2).1+1) (aC l 4 (aC l 3 (aC l 2 g.2).2).2).2).2 (max (aC l 3 (aC l 2 g.2).2).1 1)).2).1:Nat) 8,mkT ((1+(aC l 4 (aC l 3 (aC l 2 g.2).2).2).1:Nat):Int) 1⟩:cJ)=P at *
  have hPm:P.bIT=ms.1:=by rw[← hPP]
  obtain⟨rs,z1,z2,z3,z4,z5⟩:=hH2.frz 5 rfl
  have y1:=z4 0 _ (by decide) rfl
  have y2:=z4 1 _ (by decide) rfl
  have y3:=z4 2 _ (by decide) rfl
  have y4:=z4 3 _ (by decide) rfl
  have y5:=z4 4 _ (by decide) rfl
  simp only at y1 y2 y3 y4 y5
  have y0:=T.frz o 1 rs
  obtain⟨f0,f1,f2,f6,f7,f11,f13,f14⟩:=hF2
  simp only[go_sem,γ,aeI,f14,ws i]
  refine OB (i+1,w5',H2.frz o 1 rs) z1 ⟨hlt,?_⟩ (by simp only; omega) ?_ PH.le_refl
  ·rw[bJB]
   have eB:(E.boxes v (.int .i64 x0) w1 w2 w3 w4 w5' .bIU ms.2).map (fun b=>(b.1,b.2.frz o 1 rs))=E.boxes v (.int .i64 x0) w1 w2 w3 w4 w5' .bIU ms.2:=by
    show [(E.o,cD.rows 2 [[PV.dN o 1 rs v,.int .i64 ms.2]]),(E.o7,cD.rows 7 [[.int .i64 x0,PV.dN o 1 rs w1,PV.dN o 1 rs w2,PV.dN o 1 rs w3,PV.dN o 1 rs w4,PV.dN o 1 rs w5',.bIU]]),(E.o6,flZ)]=_
    rw[y0,y1,y2,y3,y4,y5]
   have e5:(lK g.1++[vZ P (.osl o 1 0 ms.1.length)]).map (fun r=>r.map (PV.dN o 1 rs))=lK (g.1++[P]):=by
    rw[bMW,a1B]
    have:([vZ P (.osl o 1 0 ms.1.length)]:List (List PV)).map (fun r=>r.map (PV.dN o 1 rs))=[P.cells]:=by
     show [[PV.str P.name,.int .i64 P.k,.int .i64 P.m,.int .i64 P.bJY,.int .i64 P.s0,.int .i64 P.s1,.int .i64 P.s2,.int .i64 P.s3,.int .i64 P.s4,PV.dN o 1 rs (.osl o 1 0 ms.1.length),frs P.repair,.bool P.target.neg,aJ P.target.num,aJ P.target.den,.bool P.bJG.neg,aJ P.bJG.num,aJ P.bJG.den]]=_
     rw[z2,← hPm]
     rfl
    rw[this]
    simp[lK]
   have eL:(FE.lists w1 w2 w3 w4 w5' lw md dm dv (lK g.1++[vZ P (.osl o 1 0 ms.1.length)])).map (fun x=>(x.1,x.2.1,x.2.2.map fun r=>r.map (PV.dN o 1 rs)))=FE.lists w1 w2 w3 w4 w5' lw md dm dv (lK (g.1++[P])):=by
    show [(w1,4,(gZ lw).map _),(w2,4,(jS md).map _),(w3,7,(jY dm).map _),(w4,3,(lY dv).map _),(w5',17,(lK g.1++[vZ P (.osl o 1 0 ms.1.length)]).map _)]=_
    rw[aYO,aYP,aVV,aVX,e5]
   rw[← eB,← eL]
   exact z5.sub (by rw[bMW]; exact List.sublist_append_left ..) (bMX.refl _)
  ·(repeat' (first|exact PF.nil_le|refine PF.aG ?_ ?_))<;>first|(simp only[go_sem,γ,reduceCtorEq,f0,f1,f2,f6,f7,f11,f13]<;>rfl)|rfl
 ·have bJA:¬ (i:Int)<(n:Nat):=by omega
  have:i=n:=by omega
  subst this
  simp only[go_sem,bJA]
  exact hK w5 _ _ (ST Sq Sq Sq Sq Sq) hH
theorem aUS {C:Ctx} (Lb:mT C) {l:List Nat} {v:PV} (T:Tp l v) (E:FE) (pc n a:Nat) (hn:n≤60) (hpc:pc≤50) (ha:a≤l.length) (ext w1 w2 w3 w4 w5:PV) (pr:List cJ) (hpr:pr.length=pc) (L:List LI) (K:bY) (F:PF) (H:PH)
  (hF:(((fM E).set 18 (.int .i64 n)).set 19 (.int .i64 0)).le F) (hH:aQ H (E.boxes v ext w1 w2 w3 w4 w5 .bIU a) ((w5,17,lK pr)::L))
  (hK:∀ w6 F' H',(fM E).le F'→aQ H' (E.boxes v ext w1 w2 w3 w4 w5 w6 (eF l pc a n).2) ((w5,17,lK pr)::L++[(w6,2,nU (eF l pc a n).1)])→K (.exit 8) F' H') :
  aB.wp C (.loop HP) K F H:=by
 refine wp_loop (α:=Nat × PV × PH) (fun t=>((fM E).set 18 (.int .i64 n)).set 19 (.int .i64 t.1)) (fun t=>t.2.2) (fun t=>t.1≤n∧aQ t.2.2 (E.boxes v ext w1 w2 w3 w4 w5 t.2.1 (eF l pc a t.1).2) ((w5,17,lK pr)::L++[(t.2.1,2,nU (eF l pc a t.1).1)])) (fun t=>n-t.1) (0,.bIU,H) ⟨bLE _,hH.oH 2⟩ hF PH.le_refl ?_
 rintro⟨i,w6,H0⟩ ⟨hi,hH⟩
 simp only at hi hH ⊢
 obtain⟨k1,k2⟩:=EB l pc ha i
 have bJB:eF l pc a (i+1)=((eF l pc a i).1++[⟨[118]++bV i,((aC l pc (eF l pc a i).2).1:Nat)⟩],(aC l pc (eF l pc a i).2).2):=rfl
 simp only[go_sem,γ,reduceCtorEq,HP,aeL,fM]
 by_cases hlt:i<n
 ·have bJA:(i:Int)<(n:Nat):=by omega
  generalize hg:eF l pc a i=g at *
  have h1:=hH.set 0 rfl (aW v (aC l pc g.2).2)
  generalize hz0:aC l pc g.2=z at *
  have b1:=hH.at 1 rfl
  have lw:=(hH.own 0 rfl).vW
  rw[bKY,hpr] at lw
  have hHs:(PH.nil.set E.o7 (flB ext w1 w2 w3 w4 w5 w6)).le H0:=PH.aG PH.nil_le b1
  simp only[go_sem,bJA]
  refine bM (PH.nil.set E.o7 (flB ext w1 w2 w3 w4 w5 w6)) (mkS l v) hHs ?_
  simp only[go_sem,δ,γ,reduceCtorEq,aeM]
  refine FU Lb.torX (s:=[118]) (n:=i) (by decide) Om rfl hHs ?_
  simp only[go_sem,δ,γ,θ,reduceCtorEq,lw]
  refine qQ Lb.torW T (o:=E.o) (n:=pc) (a:=g.2) Om k1 rfl (hH.at 0 rfl) ?_ ?_
  ·rw[hz0]; exact PH.aG PH.nil_le (h1.at 1 rfl)
  rw[hz0]
  have h12:(1:Nat)*2≤16777216:=by decide
  simp only[go_sem,υ,δ,γ,η,θ,ζ,reduceCtorEq,h12,bLO,bLW,or_false,forall_eq,forall_eq_or_imp]
  refine h1.append (v:=w6) (s:=2) (rows:=nU g.1) (L.length+1) (src:=[(⟨[118]++bV i,(z.1:Nat)⟩:eN).cells]) (by simp) rfl (by unfold roomFor; rw[bKY]; simp only[bLH,maxLen]; omega) fun w' H2 h5 hw=>?_
  obtain⟨q,rfl⟩:=hw (by simp)
  rw[show ((w5,17,lK pr)::L++[(w6,2,nU g.1)])=((w5,17,lK pr)::L)++[(w6,2,nU g.1)] from rfl,bOA _ _ (by simp),show L.length+1-((w5,17,lK pr)::L).length=0 by simp] at h5
  have b2:=h5.at 1 rfl
  refine⟨PH.aG PH.nil_le b2,?_⟩
  refine bM .nil dK PH.nil_le ?_
  simp only[go_sem,δ,γ,reduceCtorEq,aeN,b2,bLO,bLW,or_false,forall_eq]
  have h6:=h5.set 1 rfl (flB ext w1 w2 w3 w4 w5 (.osl q 2 0 (nU g.1++[(⟨[118]++bV i,(z.1:Nat)⟩:eN).cells]).length))
  refine⟨PH.nil_le,?_⟩
  simp only[go_sem,γ,reduceCtorEq,aeO,ws i]
  refine aE (i+1,.osl q 2 0 (nU g.1++[(⟨[118]++bV i,(z.1:Nat)⟩:eN).cells]).length,_) ⟨hlt,?_⟩ (by simp only; omega) ?_ PH.le_refl
  ·rw[bJB]
   have e:nU (g.1++[⟨[118]++bV i,(z.1:Nat)⟩])=nU g.1++[(⟨[118]++bV i,(z.1:Nat)⟩:eN).cells]:=by simp[nU]
   simp only
   rw[e]
   exact h6
  ·exact Lq
 ·have bJA:¬ (i:Int)<(n:Nat):=by omega
  have:i=n:=by omega
  subst this
  simp only[go_sem,bJA]
  exact hK w6 _ _ (ST rfl rfl rfl rfl rfl) hH
def MR (l:List Nat) (v:PV) (o bIS bIV a:Nat) (r:PV) (H:PH):Prop:=Co r (.agg (fY l bIS bIV a).1.cells)∧H=PH.nil.set o (aW v (fY l bIS bIV a).2)
structure aBQ (C:Ctx):Prop extends mT C where
 grow:∀ (l:List Nat) (v:PV),Tp l v→∀ (mc bIS:Nat),0<mc→mc≤1000→bIS≤60→abL C l v mc bIS 4
theorem bfI {C:Ctx} (Lb:aBQ C) {l:List Nat} {v:PV} (T:Tp l v) (o bIS bIV a:Nat) (hdr:bIS≤60) (hvo:bIV≤50) (ha:a≤l.length) :
  BY.wp C (aS adT.res (MR l v o bIS bIV a)) (PF.args [.ptr o 2 0 0,.int .i64 bIS,.int .i64 bIV]) (PH.nil.set o (aW v a)):=by
 have hT:fY l bIS bIV a=fY l bIS bIV a:=rfl
 conv at hT=>rhs; unfold fY
 dsimp only at hT
 have hR:∀ r H,MR l v o bIS bIV a r H↔Co r (.agg (fY l bIS bIV a).1.cells)∧H=PH.nil.set o (aW v (fY l bIS bIV a).2):=fun _ _=>Iff.rfl
 have ne:=bT l (show 0<2 by decide) a
 have ae:=bK l 2 ha
 generalize he:aC l 2 a=e at *
 have nlw:=bT l (show 0<2 by decide) e.2
 have alw:=bK l 2 ae
 generalize hlw:aC l 2 e.2=lw at *
 obtain⟨alaws,llaws⟩:=HE l alw (1+lw.1)
 generalize hlaws:gP l lw.2 (1+lw.1)=bJD at *
 have nmd:=bT l (show 0<2 by decide) bJD.2
 have amd:=bK l 2 alaws
 generalize hmd:aC l 2 bJD.2=md at *
 obtain⟨amodels,lmodels⟩:=wQ l (1+lw.1) amd (1+md.1)
 generalize hmodels:eE l (1+lw.1) md.2 (1+md.1)=bIT at *
 have hG0:GOk l bIS ⟨[mF],[],bIT.2⟩:=⟨by simp,bLE _,amodels⟩
 obtain⟨hG,-⟩:=GR (mc:=1+md.1) 4 0 hG0
 generalize hg:eM l (1+md.1) bIS 4 0 ⟨[mF],[],bIT.2⟩=g at *
 have npl:=bT l (show 0<2 by decide) g.a
 have apl:=bK l 2 hG.a
 generalize hpl:aC l 2 g.a=pl at *
 obtain⟨apols,lpols⟩:=sU l (1+md.1) apl (1+pl.1)
 generalize hpols:dL l (1+md.1) pl.2 (1+pl.1)=pols at *
 have nvo:=bT l (Om:0<bIV+1) pols.2
 have avo:=bK l (bIV+1) apols
 generalize hvo':aC l (bIV+1) pols.2=vo at *
 generalize hvols:eF l (1+pl.1) vo.2 vo.1=vols at *
 have ee:IntKind.i64.wrap (1+(e.1:Int))=((1+e.1:Nat):Int):=by rw[wrap_i64 Om Om]; omega
 have elw:IntKind.i64.wrap (1+(lw.1:Int))=((1+lw.1:Nat):Int):=by rw[wrap_i64 Om Om]; omega
 have emd:IntKind.i64.wrap (1+(md.1:Int))=((1+md.1:Nat):Int):=by rw[wrap_i64 Om Om]; omega
 have epl:IntKind.i64.wrap (1+(pl.1:Int))=((1+pl.1:Nat):Int):=by rw[wrap_i64 Om Om]; omega
 have evo:IntKind.i64.wrap ((bIV:Int)+1)=((bIV+1:Nat):Int):=cY Om
 have h0:aQ (PH.nil.set o (aW v a)) [(o,aW v a)] []:=aQ.nil.new (H:=PH.nil) rfl (aW v a)
 simp only[go_sem,δ,BY,aqV,adT]
 refine aN fun o6 ho6=>?_
 have h1:=h0.new ho6 flZ
 simp only[go_sem,reduceCtorEq,aqW]
 refine cK Lb.torW T (o:=o) (n:=2) (a:=a) (by decide) ha rfl (h1.at 0 rfl) ?_
 have h2:=h1.set 0 rfl (aW v e.2)
 rw[he]
 simp only[go_sem,δ,γ,θ,ee]
 refine aN fun o7 ho7=>?_
 have h3:=h2.new ho7 (flB (.int .i64 (1+e.1:Nat)) .bIU .bIU .bIU .bIU .bIU .bIU)
 simp only[go_sem,δ,γ,reduceCtorEq,aqX,bLO,bLW,or_false,forall_eq,forall_eq_or_imp]
 refine cK Lb.torW T (o:=o) (n:=2) (a:=e.2) (by decide) ae rfl (h3.at 0 rfl) ?_
 have h4:=h3.set 0 rfl (aW v lw.2)
 rw[hlw]
 have h5:=h4.perm (B':=FE.boxes ⟨o,o6,o7,bIS,bIV⟩ v (.int .i64 (1+e.1:Nat)) .bIU .bIU .bIU .bIU .bIU .bIU lw.2) (L':=[]) (List.Perm.cons _ (List.Perm.swap _ _ _)) (List.Perm.refl _)
 obtain⟨E,hE⟩:∃ E:FE,E=⟨o,o6,o7,bIS,bIV⟩:=⟨_,rfl⟩
 rw[← hE] at h5
 simp only[go_sem,γ,elw,aqY]
 refine bnI (C:=C) Lb.tomT T E (1+lw.1) lw.2 Om alw _ _ _ _ ?_ h5 ?_
 ·rw[hE]
  unfold fM
  exact Lq
 clear h5 h4 h3 h2 h1 h0 ho6 ho7
 intro w1 F1 H1 hF1 h1
 rw[hlaws] at h1
 have f0:F1 0=some (.ptr o 2 0 0):=hF1 0 _ (by rw[hE]; unfold fM; simp only[go_sem,reduceCtorEq])
 have f1:F1 1=some (.int .i64 bIS):=hF1 1 _ (by rw[hE]; unfold fM; simp only[go_sem,γ,reduceCtorEq])
 have f2:F1 2=some (.int .i64 bIV):=hF1 2 _ (by rw[hE]; unfold fM; simp only[go_sem,γ,reduceCtorEq])
 have f6:F1 6=some (.ptr o6 7 0 0):=hF1 6 _ (by rw[hE]; unfold fM; simp only[go_sem,γ,reduceCtorEq])
 have f7:F1 7=some (.ptr o7 7 0 0):=hF1 7 _ (by rw[hE]; unfold fM; simp only[go_sem,γ,reduceCtorEq])
 have q0:=h1.at 0 rfl
 rw[hE] at q0
 simp only[go_sem,adU,f0]
 refine cK Lb.torW T (o:=o) (n:=2) (a:=bJD.2) (by decide) alaws rfl q0 ?_
 have h2:=h1.set 0 rfl (aW v md.2)
 rw[hmd]
 simp only[go_sem,γ,emd,adV]
 refine a8X (C:=C) Lb.tomT T E (1+md.1) md.2 (1+lw.1) Om Om amd (.int .i64 (1+e.1:Nat)) w1 bJD.1 llaws _ _ _ ?_ (by rw[hE] at h2 ⊢; exact h2) ?_
 ·rw[hE]
  unfold fM
  exact Lq
 clear q0 h2 h1 f0 f1 f2 f6 f7 hF1
 intro w2 F2 H2 hF2 f11 h2
 rw[hmodels] at h2
 have f0:F2 0=some (.ptr o 2 0 0):=hF2 0 _ (by rw[hE]; unfold fM; simp only[go_sem,reduceCtorEq])
 have f1:F2 1=some (.int .i64 bIS):=hF2 1 _ (by rw[hE]; unfold fM; simp only[go_sem,γ,reduceCtorEq])
 have f2:F2 2=some (.int .i64 bIV):=hF2 2 _ (by rw[hE]; unfold fM; simp only[go_sem,γ,reduceCtorEq])
 have f6:F2 6=some (.ptr o6 7 0 0):=hF2 6 _ (by rw[hE]; unfold fM; simp only[go_sem,γ,reduceCtorEq])
 have f7:F2 7=some (.ptr o7 7 0 0):=hF2 7 _ (by rw[hE]; unfold fM; simp only[go_sem,γ,reduceCtorEq])
 obtain⟨qm,hqm⟩:=(h2.own 1 rfl).one (by rw[bKY]; omega)
 rw[bKY,lmodels] at hqm
 subst hqm
 have h17:(1:Nat)*7≤16777216:=by decide
 simp only[go_sem,ο,aeA]
 refine aA (Lb.int 0 (by unfold cZ; omega)) rfl ?_
 simp only[go_sem,ο,υ,δ,γ,η,θ,ζ,bLO,bLW,or_false,forall_eq,forall_eq_or_imp,h17]
 refine aN fun od hod=>?_
 have h3:=h2.byG (s:=7) (rows:=jY [mF]) hod
 have b7:=h2.at 1 rfl
 rw[hE] at b7
 have n7:¬ o7=od:=by
  have:=h3.neL 1 2 rfl rfl rfl
  rw[hE] at this; exact this
 simp only[go_sem,ο,δ,γ,θ,f7,b7,n7,bLO,bLW,or_false,forall_eq]
 have h4:=(h3.set 1 rfl (flB (.int .i64 (1+e.1:Nat)) w1 (.osl qm 4 0 (1+md.1)) (.osl od 7 0 1) .bIU .bIU .bIU)).oH 3
 rw[hE] at h4
 have h5:=h4.perm (B':=(GE.mk o o7 qm (.int .i64 (1+e.1:Nat)) w1 .bIU .bIU).boxes v (1+md.1) (.osl od 7 0 1) .bIU bIT.2++[(o6,flZ)]) (L':=lJ ⟨[mF],[],bIT.2⟩ (.osl od 7 0 1) .bIU++[(w1,4,gZ bJD.1),(.osl qm 4 0 (1+md.1),4,jS bIT.1)]) (List.Perm.refl _)
  (List.perm_append_comm (l₁:=[(w1,4,gZ bJD.1),(.osl qm 4 0 (1+md.1),4,jS bIT.1)]) (l₂:=lJ ⟨[mF],[],bIT.2⟩ (.osl od 7 0 1) .bIU))
 simp only[go_sem,ο,γ,reduceCtorEq,aeB,f0,f1,f7]
 refine EH h5 (fun H0 hH0=>Lb.grow l v T (1+md.1) bIS Om Om hdr (GE.mk o o7 qm (.int .i64 (1+e.1:Nat)) w1 .bIU .bIU) (.osl od 7 0 1) .bIU ⟨[mF],[],bIT.2⟩ 0 mF hG0 rfl rfl H0 hH0) (by simp only[go_sem,ο,γ,f0,f1,f7]; rfl) ?_
 rintro r B' L' H3 ⟨rfl,w3,w4,rfl,rfl⟩ h6
 rw[hg] at h6
 have h7:=h6.perm (B':=E.boxes v (.int .i64 (1+e.1:Nat)) w1 (.osl qm 4 0 (1+md.1)) w3 w4 .bIU .bIU g.a) (L':=[(w1,4,gZ bJD.1),(.osl qm 4 0 (1+md.1),4,jS bIT.1),(w3,7,jY g.bJF),(w4,3,lY g.bJT)]) (by rw[hE]; exact List.Perm.refl _)
  (List.perm_append_comm (l₁:=lJ g w3 w4) (l₂:=[(w1,4,gZ bJD.1),(.osl qm 4 0 (1+md.1),4,jS bIT.1)]))
 have q0:=h7.at 0 rfl
 rw[hE] at q0
 simp only[go_sem,ο,reduceCtorEq,aeC,f0]
 refine cK Lb.torW T (o:=o) (n:=2) (a:=g.a) (by decide) hG.a rfl q0 ?_
 have h8:=h7.set 0 rfl (aW v pl.2)
 rw[hpl]
 simp only[go_sem,ο,γ,epl,aeD]
 refine aIH (C:=C) Lb.tomT T E (1+md.1) (1+pl.1) pl.2 Om Om Om apl ((1+e.1:Nat):Int) w1 (.osl qm 4 0 (1+md.1)) w3 w4 bJD.1 bIT.1 g.bJF g.bJT _ _ _ (by rw[hE]; exact⟨by simp only[go_sem,ο,reduceCtorEq,f0],by simp only[go_sem,ο,γ,f1],by simp only[go_sem,ο,γ,f2],by simp only[go_sem,ο,γ,f6],by simp only[go_sem,ο,γ,f7],by simp only[go_sem,ο,γ,f11],by simp only[go_sem,ο,γ],by simp only[go_sem,ο,γ]; rfl⟩) (by rw[hE] at h8 ⊢; exact h8) ?_
 clear h8 h7 h6 h5 h4 h3 h2 q0 b7 f0 f1 f2 f6 f7 hF2
 intro w5 F4 H4 hF4 h1
 rw[hpols] at h1
 have f0:F4 0=some (.ptr o 2 0 0):=hF4 0 _ (by rw[hE]; unfold fM; simp only[go_sem,reduceCtorEq])
 have f1:F4 1=some (.int .i64 bIS):=hF4 1 _ (by rw[hE]; unfold fM; simp only[go_sem,γ,reduceCtorEq])
 have f2:F4 2=some (.int .i64 bIV):=hF4 2 _ (by rw[hE]; unfold fM; simp only[go_sem,γ,reduceCtorEq])
 have f6:F4 6=some (.ptr o6 7 0 0):=hF4 6 _ (by rw[hE]; unfold fM; simp only[go_sem,γ,reduceCtorEq])
 have f7:F4 7=some (.ptr o7 7 0 0):=hF4 7 _ (by rw[hE]; unfold fM; simp only[go_sem,γ,reduceCtorEq])
 have q0:=h1.at 0 rfl
 rw[hE] at q0
 simp only[go_sem,γ,aeJ,f0,f2,evo]
 refine cK Lb.torW T (o:=o) (n:=bIV+1) (a:=pols.2) Om apols rfl q0 ?_
 have h2:=h1.set 0 rfl (aW v vo.2)
 rw[hvo']
 have h3:=h2.perm (B':=E.boxes v (.int .i64 (1+e.1:Nat)) w1 (.osl qm 4 0 (1+md.1)) w3 w4 w5 .bIU vo.2) (L':=(w5,17,lK pols.1)::[(w1,4,gZ bJD.1),(.osl qm 4 0 (1+md.1),4,jS bIT.1),(w3,7,jY g.bJF),(w4,3,lY g.bJT)]) (List.Perm.refl _)
  (List.perm_append_comm (l₁:=[(w1,4,gZ bJD.1),(.osl qm 4 0 (1+md.1),4,jS bIT.1),(w3,7,jY g.bJF),(w4,3,lY g.bJT)]) (l₂:=[(w5,17,lK pols.1)]))
 simp only[go_sem,γ,aeK]
 refine aUS (C:=C) Lb.tomT T E (1+pl.1) vo.1 vo.2 Om Om avo _ _ _ _ _ w5 pols.1 lpols _ _ _ _ ?_ (by rw[hE] at h3 ⊢; exact h3) ?_
 ·rw[hE]
  unfold fM
  exact Lq
 clear h3 h2 h1 q0 f0 f1 f2 f6 f7 hF4
 intro w6 F5 H5 hF5 h1
 rw[hvols] at h1
 have f6:F5 6=some (.ptr o6 7 0 0):=hF5 6 _ (by rw[hE]; unfold fM; simp only[go_sem,γ,reduceCtorEq])
 have f7:F5 7=some (.ptr o7 7 0 0):=hF5 7 _ (by rw[hE]; unfold fM; simp only[go_sem,γ,reduceCtorEq])
 rw[hE] at h1
 have b7:=h1.at 1 rfl
 have b6:=h1.at 2 rfl
 have one:∀ (x:PV),x∈[w1,w3,w4,w5,w6]→(∃ q s n,x=.osl q s 0 n)∨x=.bIU:=by
  intro x hx
  have key:∀ {s:Nat} {rows:List (List PV)},aY H5 s x rows→(∃ q s n,x=.osl q s 0 n)∨x=.bIU:=by
   rintro s rows (⟨_,h⟩ | ⟨q,rs,h,_⟩)
   ·exact .inr h
   ·exact .inl ⟨q,s,_,h⟩
  simp only[bLO,bLW,or_false] at hx
  rcases hx with rfl | rfl | rfl | rfl | rfl
  ·exact key (h1.own 1 rfl)
  ·exact key (h1.own 3 rfl)
  ·exact key (h1.own 4 rfl)
  ·exact key (h1.own 0 rfl)
  ·exact key (h1.own 5 rfl)
 have one':∀ (x:PV),x∈[w1,w3,w4,w5,w6]→PV.one x=true:=fun x hx=>by
  rcases one x hx with ⟨q,s,n,rfl⟩ | rfl<;>rfl
 have o1:=one' w1 (by simp)
 have o3:=one' w3 (by simp)
 have o4:=one' w4 (by simp)
 have o5:=one' w5 (by simp)
 have o6':=one' w6 (by simp)
 simp only[PV.one] at o1 o3 o4 o5 o6'
 simp only[go_sem,δ,γ,aeP,f6,f7,b7,b6,bLO,bLW,or_false,forall_eq,forall_eq_or_imp,o1,o3,o4,o5,o6']
 have h2:=h1.set 2 rfl (flB (.int .i64 (1+e.1:Nat)) w1 (.osl qm 4 0 (1+md.1)) w3 w4 w5 w6)
 have h3:=h2.sub (B':=[(o,aW v vols.2)]) (bMX.cons_cons _ (List.nil_sublist _)) (bMX.refl _)
 obtain⟨φ,H6,k1,k2,k3,k4⟩:=aQ.giveUp _ h3 (fun x hx=>by
  simp only[List.cons_append,List.nil_append,bLO,bLW,or_false] at hx
  rcases hx with rfl | rfl | rfl | rfl | rfl | rfl
  ·exact a1B _
  ·exact aYO _
  ·exact aYP _
  ·exact aVV _
  ·exact aVX _
  ·exact bwQ _) (fun b hb q s rs=>by
  simp only[bLO,bLW,or_false] at hb
  subst hb
  simp only[cD.frz,bMI,bMZ,T.frz]
  rfl)
 refine FG (vs:=[.agg [.int .i64 (1+e.1:Nat),w1,.osl qm 4 0 (1+md.1),w3,w4,w5,w6]]) (.inr rfl) (by simp only[go_sem,δ,γ,f6]) (k4 _ _ (.done (H2:=PH.nil.set o (aW v vols.2)) ?_ (PH.aG PH.nil_le (k3.at 0 rfl))))
 rw[hR,hT]
 refine⟨CoL.agg ?_,rfl⟩
 have s5:=k1 (w5,17,lK pols.1) (by simp)
 have s1:=k1 (w1,4,gZ bJD.1) (by simp)
 have s2:=k1 (.osl qm 4 0 (1+md.1),4,jS bIT.1) (by simp)
 have s3:=k1 (w3,7,jY g.bJF) (by simp)
 have s4:=k1 (w4,3,lY g.bJT) (by simp)
 have s6:=k1 (w6,2,nU vols.1) (by simp)
 have s0:φ (.int .i64 (1+e.1:Nat))=.int .i64 (1+e.1:Nat):=k2 _ rfl
 show CoL [φ (.int .i64 (1+e.1:Nat)),φ w1,φ (.osl qm 4 0 (1+md.1)),φ w3,φ w4,φ w5,φ w6] _
 rw[s0]
 exact CoL.cons (.refl _) (CoL.cons s1.co (CoL.cons s2.co (CoL.cons s3.co (CoL.cons s4.co (CoL.cons s5.co (CoL.cons s6.co .nil))))))
structure bcQ (C:Ctx):Prop extends aBQ C where
 new:∀ (l:List Nat),(∀ x∈l,x<256)→l.length≤9223372036854775807→aH C 28 [.sl 1 (jW l)] .nil (aBS l)
 fleet:∀ (l:List Nat) (v:PV),Tp l v→∀ (o bIS bIV a:Nat),bIS≤60→bIV≤50→a≤l.length →
  aH C 0 [.ptr o 2 0 0,.int .i64 bIS,.int .i64 bIV] (PH.nil.set o (aW v a)) (fun r H=>r=.agg (fY l bIS bIV a).1.cells∧H=PH.nil.set o (aW v (fY l bIS bIV a).2))
theorem MR.exact {C:Ctx} {name:Nat} {args:List PV} {H:PH} {l:List Nat} {v:PV} {o bIS bIV a:Nat} (h:aH C name args H (MR l v o bIS bIV a)):aH C name args H (fun r H=>r=.agg (fY l bIS bIV a).1.cells∧H=PH.nil.set o (aW v (fY l bIS bIV a).2)) :=
 h.post fun r H' hr=>⟨_,hr.1,rfl,hr.2⟩
theorem bfF {C:Ctx} (Lb:bcQ C) (l:List Nat) (hb:∀ x∈l,x<256) (hl:l.length≤9223372036854775807) (bIS bIV:Nat) (hdr:bIS≤60) (hvo:bIV≤50) :
  BV.wp C (aS adQ.res (bQ (.agg (fY (l.take 400) bIS bIV 0).1.cells))) (PF.args [.sl 1 (jW l),.int .i64 bIS,.int .i64 bIV]) .nil:=by
 simp only[go_sem,δ,BV,aqP,adQ]
 refine aN fun o6 ho6=>?_
 simp only[go_sem,reduceCtorEq,aqQ]
 refine mI (Lb.new l hb hl) rfl PH.nil_le ?_
 rintro r H' ⟨o,v,rfl,T,rfl⟩ ha
 have hne:¬ o6=o:=by
  intro e
  subst e
  have:=ha o6 (aW v 0) (by rw[bB,if_pos rfl]) rfl
  rw[bB,if_pos rfl] at this
  cases this
 rw[PH.mZ]
 simp only[go_sem,γ]
 refine hC (Lb.fleet _ v T o bIS bIV 0 hdr hvo (bLE _)) (by rw[bB,if_pos rfl]) rfl ?_
 simp only[go_sem,δ,γ,hne]
 exact aV (vs:=[.agg (fY (l.take 400) bIS bIV 0).1.cells]) (.inr rfl) .nil Sq PH.nil_le ⟨.refl _,rfl⟩
theorem CoL.a9R:CoL [] []:=⟨rfl,fun j p q h=>by simp at h⟩
theorem CoL.mP {p q:PV} {ps qs:List PV} (h:Co p q) (hs:CoL ps qs):CoL (p::ps) (q::qs):=by
 refine⟨by simp[hs.len],fun j x y a b=>?_⟩
 cases j with
 | zero =>
  simp only[List.getElem?_cons_zero,bNI.injEq] at a b
  subst a; subst b; exact h
 | succ j=>exact hs.at_ j x y (by simpa using a) (by simpa using b)
theorem aH.aGU {C:Ctx} {name:Nat} {R:PV→PH→Prop} {x y:PV} {s:Nat} (h:aH C name [x,y,.sl s []] .nil R):aH C name [x,y,.bIU] .nil R :=
 h.args (.mP (.refl _) (.mP (.refl _) (.mP (.nil s) .a9R)))
theorem aH.seen {C:Ctx} {name:Nat} {args:List PV} {H:PH} {v:PV} (h:aH C name args H (bQ v)):aH C name args H (aF v) :=
 h.post fun r H' hr=>⟨v,hr.1,rfl,hr.2⟩
structure MS (C:Ctx):Prop where
 at_:∀ f:aD,f.Ok→∀ d level:Int,aH C 147 [.agg f.cells,.int .i64 d,.int .i64 level] .nil (aF (.int .i64 (atP f d level)))
 child:∀ f:aD,f.Ok→∀ d:Int,aH C 148 [.agg f.cells,.int .i64 d] .nil (aF (ints (sC f d)))
 bIS:∀ f:aD,f.Ok→∀ d:Int,aH C 149 [.agg f.cells,.int .i64 d] .nil (aF (ints (mX f d)))
 holds:∀ (f:aD) (l:List (List Int)) (room:List Int),f.Ok→fC l→aH C 150 [.agg f.cells,lay l,ints room] .nil (aF (.bool (oY f l room)))
 loads:∀ (f:aD) (l:List (List Int)),f.Ok→fC l→aH C 151 [.agg f.cells,lay l] .nil (aF (ints (mA f l)))
 room:∀ (f:aD) (room:List Int),f.Ok→aH C 152 [.agg f.cells,ints room] .nil (aF (ints (mD f room)))
 shaped:∀ (f:aD) (l:List (List Int)),f.Ok→fC l→aH C 153 [.agg f.cells,lay l] .nil (aF (.bool (oF f l)))
 viol:∀ (f:aD) (l:List (List Int)) (room:List Int),f.Ok→fC l→aH C 154 [.agg f.cells,lay l,ints room] .nil (aF (mM (jR f l room)))
 fleet:∀ (l:List Nat),(∀ x∈l,x<256)→l.length≤9223372036854775807→∀ bIS bIV:Nat,bIS≤60→bIV≤50 →
  aH C 27 [.sl 1 (jW l),.int .i64 bIS,.int .i64 bIV] .nil (aF (.agg (fY (l.take 400) bIS bIV 0).1.cells))
def TA (x:RF):Bool:=(x.num.all (fun n=>decide (n<4294967296))&&x.den.all fun n=>decide (n<4294967296))&&(decide (x.num.length≤9)&&decide (x.den.length≤9))
theorem JA {x:RF} (h:TA x=true):x.Ok:=by
 simp only[TA,bLT,bLU,decide_eq_true_eq] at h
 exact⟨h.1.1,h.1.2,by omega,by omega⟩
def FH (l:List RF):Bool:=decide (l.length≤9)&&l.all TA
theorem AG {l:List RF} (h:FH l=true):jT l:=by
 simp only[FH,bLT,bLU,decide_eq_true_eq] at h
 exact⟨by unfold Fits; omega,fun x hx=>JA (h.2 x hx)⟩
def aGV (x:bZ):Bool:=(FH x.start&&FH x.exit)&&(decide (x.bIY.length≤9)&&x.bIY.all FH)
theorem bdZ {x:bZ} (h:aGV x=true):x.Ok:=by
 simp only[aGV,bLT,bLU,decide_eq_true_eq] at h
 exact⟨AG h.1.1,AG h.1.2,by unfold Fits; omega,fun r hr=>AG (h.2.2 r hr)⟩
def aLU (x:cJ):Bool:=(decide (cZ x.k∧cZ x.m∧cZ x.bJY)&&(decide (x.bIT.length≤9)&&x.bIT.all fun m=>decide (cZ m)))&&(FH x.repair&&(TA x.target&&TA x.bJG))
theorem bgR {x:cJ} (h:aLU x=true):x.Ok:=by
 simp only[aLU,bLT,bLU,decide_eq_true_eq] at h
 exact⟨h.1.1.1,h.1.1.2.1,h.1.1.2.2,by unfold Fits; omega,h.1.2.2,AG h.2.1,JA h.2.2.1,JA h.2.2.2⟩
def okB (f:aD):Bool:=(decide (f.bJD.length≤99∧f.bIT.length≤99∧f.bIW.length≤99∧f.bIS.length≤99∧f.bIX.length≤99∧f.bIV.length≤99)&&(f.bJD.all aGV&&f.bIX.all aLU)) &&
 (f.bIW.all (fun x=>TA x.bJM&&decide (cZ x.level∧cZ x.parent))&&(f.bIS.all (fun x=>decide (cZ x.model∧cZ x.machine))&&f.bIV.all fun x=>decide (cZ x.bJI)))
theorem byL {f:aD} (h:okB f=true):f.Ok:=by
 simp only[okB,bLT,bLU,decide_eq_true_eq] at h
 obtain⟨⟨⟨l1,l2,l3,l4,l5,l6⟩,h1,h2⟩,h3,h4,h5⟩:=h
 exact⟨by unfold Fits; omega,by unfold Fits; omega,by unfold Fits; omega,by unfold Fits; omega,by unfold Fits; omega,by unfold Fits; omega,fun x hx=>bdZ (h1 x hx),fun x hx=>⟨JA (h3 x hx).1,(h3 x hx).2⟩,h4,fun x hx=>bgR (h2 x hx),h5⟩
noncomputable def mG:aD:={ (fY [] 1 0 0).1 with bIV:=[⟨[118,48],0⟩] }
theorem sY:cX mG=true:=by decide +kernel
theorem AM:mG.Ok:=byL (by decide +kernel)
theorem bfC {C:Ctx} (L:MS C):BU.wp C (aS adP.res (aF (.agg mG.cells))) (PF.args []) .nil:=by
 simp only[go_sem,δ,BU,aqL,adP]
 refine aN fun o0 h0=>?_
 simp only[go_sem,aqM]
 have h:=L.fleet [] (fun x hx=>by cases hx) (by decide) 1 0 (by decide) (by decide)
 refine aA (h.args (.mP (.nil 1) (.mP (.refl _) (.mP (.refl _) .a9R)))) rfl ?_
 simp only[go_sem,δ]
 refine aN fun o1 h1=>?_
 have n1:¬ o0=o1:=by
  intro e
  subst e
  rw[bB,if_pos rfl] at h1
  cases h1
 have n2:¬ o1=o0:=fun e=>n1 e.symm
 simp only[go_sem,δ,γ,reduceCtorEq,n1,n2]
 have h12:(1:Nat)*2≤16777216:=by decide
 simp only[go_sem,υ,δ,γ,η,θ,ζ,reduceCtorEq,aqN,h12,n1,n2,bLO,bLW,or_false,forall_eq,aqO]
 refine aM (.inr rfl) (vs:=[.agg mG.cells]) ?_ rfl
 simp only[go_sem,δ,reduceCtorEq,n1,n2]
 rfl
theorem bpB:atP mG 0 4=4:=by
 unfold atP
 rw[if_pos ⟨sY,by decide,by decide +kernel,by decide,by decide⟩]
 decide +kernel
theorem aMV:mX mG 0=[0]:=by
 unfold mX
 rw[if_pos ⟨sY,by decide,by decide +kernel⟩]
 decide +kernel
theorem baU:(jR mG [[-1]] []).map fE.cells=[[.int .i64 2,.int .i64 0,.int .i64 0]]:=by
 unfold jR
 rw[if_pos sY,if_pos (by decide +kernel)]
 rfl
theorem aVC:oY mG [[0]] []=true:=by
 unfold oY jR
 rw[sY,if_pos rfl,if_pos (by decide +kernel)]
 decide +kernel
def FB:aD:=⟨0,[],[],[],[],[],[]⟩
theorem a9Z:FB.Ok:=⟨by decide,by decide,by decide,by decide,by decide,by decide,(fun _ h=>by cases h),(fun _ h=>by cases h),(fun _ h=>by cases h),(fun _ h=>by cases h),(fun _ h=>by cases h)⟩
theorem azM:oY FB [] []=false:=rfl
theorem a9Y:Co (.agg [.int .i64 0,.bIU,.bIU,.bIU,.bIU,.bIU,.bIU]) (.agg FB.cells):=by
 have:CoL [.int .i64 0,.bIU,.bIU,.bIU,.bIU,.bIU,.bIU] FB.cells :=
  .mP (.refl _) (.mP (.nil _) (.mP (.nil _) (.mP (.nil _) (.mP (.nil _) (.mP (.nil _) (.mP (.nil _) .a9R))))))
 exact .agg this.len this.at_
theorem BR {l:List (List Int)} (h:l.length≤16777216) (h2:l.flatten.length≤16777216):fC l:=⟨h,h2⟩
theorem beB {C:Ctx} (L:MS C) (hs:aH C 23 [] .nil (aF (.agg mG.cells))):BQ.wp C (aS adL.res (aF (.bool true))) (PF.args []) .nil:=by
 simp only[go_sem,BQ,apV,apW,adL]
 refine aA hs rfl ?_
 simp only[go_sem,δ]
 refine aN fun o1 h1=>?_
 have h12:(1:Nat)*1≤16777216:=by decide
 have hv:=L.viol mG [[-1]] [] AM (BR (by decide) (by decide))
 have hh:=L.holds mG [[0]] [] AM (BR (by decide) (by decide))
 have hn:=L.holds FB [] [] a9Z (BR (by decide) (by decide))
 rw[aVC] at hh
 rw[azM] at hn
 rw[show mM (jR mG [[-1]] [])=.sl 3 [[.int .i64 2,.int .i64 0,.int .i64 0]] from by unfold mM; rw[baU]] at hv
 simp only[go_sem,ο,υ,δ,γ,η,ζ,reduceCtorEq,apX,h12]
 refine aA hv.aGU rfl ?_
 have c1:(((1:Nat):Int)==1)=true:=rfl
 have ha:=L.at_ mG AM 0 4
 rw[bpB] at ha
 have hd:=L.bIS mG AM 0
 rw[aMV] at hd
 simp only[go_sem,ο,δ,γ,reduceCtorEq,apY]
 refine aA ha rfl ?_
 simp only[go_sem,ρ,ο,δ,γ,reduceCtorEq]
 refine aA hd rfl ?_
 simp only[go_sem,ρ,ο,ν,υ,δ,γ,η,θ,ζ,reduceCtorEq,h12,c1]
 refine aA hh.aGU rfl ?_
 simp only[go_sem,ο,γ,reduceCtorEq]
 refine aA (hn.args (.mP a9Y (.mP (.nil 1) (.mP (.nil 1) .a9R)))) rfl ?_
 simp only[go_sem,ο,γ,reduceCtorEq]
 refine aM (.inr rfl) rfl ?_
 rfl
def awZ:Rg:=[iZ 4]
def axA:Rg:=[iZ 5]
def axB:Rg:=[iA 6 (.mv (.const (.int .u64 0)))]
def axC:Rg:=[iI 7 0]
def axD:Rg:=[iM 10 7,iM 11 0,iN 12 11,iB 13 .lss 10 12]
def axE:Rg:=[iM 16 6,iM 8 16]
def axF:Rg:=[iM 17 7,iM 18 1,iN 19 18,iB 20 .lss 17 19]
def axG:Rg:=[iM 21 8,iM 22 1,iM 23 7,iX 24 1 22 23,iL 25 24,iA 26 (.conv .u64 (Tm 25)),iB 27 .add 21 26,iM 8 27]
def RG:Rg:=[iM 28 0,iM 29 7,iX 30 1 28 29,iL 31 30,iA 32 (.conv .u64 (Tm 31)),iM 9 32]
def RH:Rg:=[iA 6 (.mv (.const (.int .u64 0)))]
def KI:Rg:=[iM 33 9,iM 34 8,iB 35 .lss 33 34]
def KJ:Rg:=[iM 36 9,iA 37 (.bin .add (Tm 36) (.const (.int .u64 4294967296))),iM 9 37]
def KK:Rg:=[iA 6 (.mv (.const (.int .u64 1)))]
def wZ:Rg:=[iM 38 5,iM 39 9,iM 40 8,iB 41 .sub 39 40,iA 42 (.conv .u32 (Tm 41)),iA 43 (.bIZ true 1 1 [(.int .u32 0)] [(0,(Tm 42))]),iA 44 (.append 1 4 (Tm 38) (Tm 43)),iM 5 44]
def xA:Rg:=[iM 14 7,iC 15 .add 14 1,iM 7 15]
def aiO:aB:=(.seq (sq axD (.cond (Tm 13) .skip (.exit 0))) (.seq (.block 1 (sq axE (.seq (sq axF (.cond (Tm 20) (.region axG) .skip)) (sq RG (sq RH (.seq (sq KI (.cond (Tm 35) (sq KJ (.region KK)) .skip)) (.region wZ))))))) (.region xA)))
def aiP:Rg:=[iM 45 5,iK 46 38 45,iM 4 46]
def DY:aB:=(sq awZ (sq axA (sq axB (.seq (sq axC (.block 0 (.loop aiO))) (sq aiP .ret)))))
def bjE:List Nat:=[43]
def aiN:aT:=⟨2,47,DY,[.tmp 4]⟩
def aQR:Rg:=[iZ 4]
def aQS:Rg:=[iZ 5]
def aQT:Rg:=[iA 6 (.mv (.const (.int .u64 0)))]
def aQU:Rg:=[iI 7 0]
def aQV:Rg:=[iM 9 7,iM 10 0,iN 11 10,iB 12 .lss 9 11,iM 13 12,gM 14 7 13 false,gM 15 1 13 false,gN 16 15 13 false,gB 17 .lss 14 16 13 false,iQ 18 13 17,iM 19 18,gM 20 6 19 false,iG 21 (.bin .gtr (Tm 20) (.const (.int .u64 0))) 19 false,iQ 22 19 21]
def aaQ:Rg:=[iM 25 6,iM 8 25]
def aaR:Rg:=[iM 26 7,iM 27 0,iN 28 27,iB 29 .lss 26 28]
def aaS:Rg:=[iM 30 8,iM 31 0,iM 32 7,iX 33 1 31 32,iL 34 33,iA 35 (.conv .u64 (Tm 34)),iB 36 .add 30 35,iM 8 36]
def KM:Rg:=[iM 37 7,iM 38 1,iN 39 38,iB 40 .lss 37 39]
def KN:Rg:=[iM 41 8,iM 42 1,iM 43 7,iX 44 1 42 43,iL 45 44,iA 46 (.conv .u64 (Tm 45)),iB 47 .add 41 46,iM 8 47]
def BA:Rg:=[iM 48 5,iM 49 8,iA 50 (.conv .u32 (Tm 49)),iA 51 (.bIZ true 1 1 [(.int .u32 0)] [(0,(Tm 50))]),iA 52 (.append 1 4 (Tm 48) (Tm 51)),iM 5 52]
def BB:Rg:=[iM 53 8,iA 54 (.bin .shr (Tm 53) (.const (.int .u64 32))),iM 6 54]
def BC:Rg:=[iM 23 7,iC 24 .add 23 1,iM 7 24]
def axH:aB:=(.seq (sq aQV (.cond (Tm 22) .skip (.exit 0))) (.seq (.block 1 (sq aaQ (.seq (sq aaR (.cond (Tm 29) (.region aaS) .skip)) (.seq (sq KM (.cond (Tm 40) (.region KN) .skip)) (sq BA (.region BB)))))) (.region BC)))
def RL:Rg:=[iM 55 5,iK 56 38 55,iM 4 56]
def KL:aB:=(sq aQR (sq aQS (sq aQT (.seq (sq aQU (.block 0 (.loop axH))) (sq RL .ret)))))
def bqJ:List Nat:=[51]
def aAX:aT:=⟨2,57,KL,[.tmp 4]⟩
def axI:Rg:=[iZ 4]
def axJ:Rg:=[iM 10 0,iN 11 10,iM 12 1,iN 13 12,iB 14 .add 11 13,iA 15 (.bJE 1 4 [(.int .u32 0)] (Tm 14) (Tm 14)),iM 5 15]
def axK:Rg:=[iI 6 0]
def axL:Rg:=[iM 16 6,iM 17 0,iN 18 17,iB 19 .lss 16 18]
def RO:Rg:=[iA 7 (.mv (.const (.int .u64 0)))]
def RP:Rg:=[iI 8 0]
def axM:Rg:=[iM 22 8,iM 23 1,iN 24 23,iB 25 .lss 22 24]
def axN:Rd:=[(iM 28 0,false),(iM 29 6,false),(iX 30 1 28 29,false),(iL 31 30,false),(iA 32 (.conv .u64 (Tm 31)),false),(iM 33 1,false),(iM 34 8,false),(iX 35 1 33 34,false),(iL 36 35,false),(iA 37 (.conv .u64 (Tm 36)),false),(iB 38 .mul 32 37,false),(iM 39 5,false),(iM 40 6,false),(iM 41 8,false),(iB 42 .add 40 41,false),(iX 43 1 39 42,false),(iL 44 43,false),(iA 45 (.conv .u64 (Tm 44)),false),(iB 46 .add 38 45,false),(iM 47 7,false),(iB 48 .add 46 47,false),(iM 9 48,false)]
def axO:Rg:=[iM 49 5,iM 50 6,iM 51 8,iB 52 .add 50 51,iM 53 9,iA 54 (.conv .u32 (Tm 53)),iX 55 1 49 52,iS 1 55 54]
def axP:Rg:=[iM 56 9,iA 57 (.bin .shr (Tm 56) (.const (.int .u64 32))),iM 7 57]
def aiT:Rg:=[iM 26 8,iC 27 .add 26 1,iM 8 27]
def KO:aB:=(.seq (sq axM (.cond (Tm 25) .skip (.exit 2))) (.seq (.block 3 (dq axN (sq axO (.region axP)))) (.region aiT)))
def KP:Rg:=[iM 58 5,iM 59 6,iM 60 1,iN 61 60,iB 62 .add 59 61,iM 63 7,iA 64 (.conv .u32 (Tm 63)),iX 65 1 58 62,iS 1 65 64]
def aiU:Rg:=[iM 20 6,iC 21 .add 20 1,iM 6 21]
def aiS:aB:=(.seq (sq axL (.cond (Tm 19) .skip (.exit 0))) (.seq (.block 1 (sq RO (.seq (sq RP (.block 2 (.loop KO))) (.region KP)))) (.region aiU)))
def aiV:Rg:=[iM 66 5,iK 67 38 66,iM 4 67]
def DZ:aB:=(sq axI (sq axJ (.seq (sq axK (.block 0 (.loop aiS))) (sq aiV .ret))))
def bjG:List Nat:=[]
def aiR:aT:=⟨2,68,DZ,[.tmp 4]⟩
def a2B:Rg:=[iZ 4,iI 5 0]
def a2C:Rg:=[iM 7 0,iK 8 41 7,iM 9 8,gM 10 1 9 false,gK 11 41 10 9 false,iQ 12 9 11]
def aoD:Rg:=[iZ 4,iI 5 2]
def a2D:Rg:=[iM 13 0,iK 14 38 13,iM 15 1,iK 16 38 15,iK2 17 43 14 16,iM 6 17]
def a2E:Rg:=[iM 18 6,iK 19 41 18]
def a2F:Rg:=[iZ 4,iI 5 2]
def a2G:Rg:=[iM 20 6,iM 4 20,iI 5 0]
def QZ:aB:=(sq a2B (.seq (sq a2C (.cond (Tm 12) (sq aoD .ret) .skip)) (sq a2D (.seq (sq a2E (.cond (Tm 19) (sq a2F .ret) .skip)) (sq a2G .ret)))))
def bwA:List Nat:=[]
def bbF:aT:=⟨2,21,QZ,[.tmp 4,.tmp 5]⟩
def a3L:Rg:=[iZ 4,iI 5 0]
def a3M:Rg:=[iM 6 0,iK 7 41 6,iM 8 7,gM 9 1 8 false,gK 10 41 9 8 false,iQ 11 8 10]
def aoH:Rg:=[iZ 4,iI 5 2]
def a3N:Rg:=[iM 12 0,iM 13 1,iK2 14 32 12 13,iC 15 .lss 14 0]
def a3O:Rg:=[iZ 4,iI 5 4]
def a3P:Rg:=[iM 16 0,iK 17 38 16,iM 18 1,iK 19 38 18,iK2 20 42 17 19,iM 4 20,iI 5 0]
def RN:aB:=(sq a3L (.seq (sq a3M (.cond (Tm 11) (sq aoH .ret) .skip)) (.seq (sq a3N (.cond (Tm 15) (sq a3O .ret) .skip)) (sq a3P .ret))))
def bwM:List Nat:=[]
def bbP:aT:=⟨2,21,RN,[.tmp 4,.tmp 5]⟩
def a3F:Rg:=[iZ 4,iI 5 0]
def a3G:Rg:=[iM 7 0,iK 8 41 7,iM 9 8,gM 10 1 9 false,gK 11 41 10 9 false,iQ 12 9 11]
def aoG:Rg:=[iZ 4,iI 5 2]
def a3H:Rg:=[iM 13 0,iK 14 38 13,iM 15 1,iK 16 38 15,iK2 17 44 14 16,iM 6 17]
def a3I:Rg:=[iM 18 6,iK 19 41 18]
def a3J:Rg:=[iZ 4,iI 5 2]
def a3K:Rg:=[iM 20 6,iM 4 20,iI 5 0]
def RI:aB:=(sq a3F (.seq (sq a3G (.cond (Tm 12) (sq aoG .ret) .skip)) (sq a3H (.seq (sq a3I (.cond (Tm 19) (sq a3J .ret) .skip)) (sq a3K .ret)))))
def bwI:List Nat:=[]
def bbN:aT:=⟨2,21,RI,[.tmp 4,.tmp 5]⟩
def aPR:Rg:=[iI 2 0]
def aPS:Rg:=[iM 5 0,iK 6 38 5,iM 0 6]
def aPT:Rg:=[iM 7 0,iN 8 7,iC 9 .eql 8 0]
def aPU:Rg:=[iI 2 0]
def aPV:Rg:=[iM 10 0,iN 11 10,iC 12 .sub 11 1,iA 13 (.bin .mul (Ci 32) (Tm 12)),iM 3 13]
def aPW:Rg:=[iM 14 0,iM 15 0,iN 16 15,iC 17 .sub 16 1,iX 18 1 14 17,iL 19 18,iM 4 19]
def aPX:Rg:=[iM 20 4,iA 21 (.bin .gtr (Tm 20) (.const (.int .u32 0)))]
def aPY:Rg:=[iM 24 3,iC 25 .add 24 1,iM 3 25]
def aPZ:Rg:=[iM 22 4,iA 23 (.bin .quo (Tm 22) (.const (.int .u32 2))),iM 4 23]
def aPQ:aB:=(.seq (sq aPX (.cond (Tm 21) .skip (.exit 0))) (.seq (.block 1 (.region aPY)) (.region aPZ)))
def awU:Rg:=[iM 26 3,iM 2 26]
def KC:aB:=(sq aPR (sq aPS (.seq (sq aPT (.cond (Tm 9) (sq aPU .ret) .skip)) (sq aPV (.seq (sq aPW (.block 0 (.loop aPQ))) (sq awU .ret))))))
def bpX:List Nat:=[]
def aAU:aT:=⟨1,27,KC,[.tmp 2]⟩
def bjH:Rg:=[iZ 4]
def bjI:Rg:=[iM 9 0,iN 10 9,iC 11 .eql 10 0]
def bjJ:Rg:=[iZ 4]
def bjK:Rg:=[iM 12 1,iC 13 .quo 12 32,iA 14 (.bJE 1 4 [(.int .u32 0)] (Tm 13) (Tm 13)),iM 5 14]
def bjL:Rg:=[iA 6 (.mv (.const (.int .u64 0)))]
def bjM:Rg:=[iI 7 0]
def bjN:Rg:=[iM 15 7,iM 16 0,iN 17 16,iB 18 .lss 15 17]
def bjO:Rg:=[iM 21 0,iM 22 7,iX 23 1 21 22,iL 24 23,iA 25 (.conv .u64 (Tm 24)),iM 26 1,iC 27 .rem 26 32,iA 28 (.conv .u64 (Tm 27)),iB 29 .shl 25 28,iM 30 6,iB 31 .or 29 30,iM 8 31]
def bjP:Rg:=[iM 32 5,iM 33 8,iA 34 (.conv .u32 (Tm 33)),iA 35 (.bIZ true 1 1 [(.int .u32 0)] [(0,(Tm 34))]),iA 36 (.append 1 4 (Tm 32) (Tm 35)),iM 5 36]
def bjQ:Rg:=[iM 37 8,iA 38 (.bin .shr (Tm 37) (.const (.int .u64 32))),iM 6 38]
def a3R:Rg:=[iM 19 7,iC 20 .add 19 1,iM 7 20]
def a3Q:aB:=(.seq (sq bjN (.cond (Tm 18) .skip (.exit 0))) (.seq (.block 1 (sq bjO (sq bjP (.region bjQ)))) (.region a3R)))
def a3S:Rg:=[iM 39 5,iM 40 6,iA 41 (.conv .u32 (Tm 40)),iA 42 (.bIZ true 1 1 [(.int .u32 0)] [(0,(Tm 41))]),iA 43 (.append 1 4 (Tm 39) (Tm 42)),iK 44 38 43,iM 4 44]
def aaU:aB:=(sq bjH (.seq (sq bjI (.cond (Tm 11) (sq bjJ .ret) .skip)) (sq bjK (sq bjL (.seq (sq bjM (.block 0 (.loop a3Q))) (sq a3S .ret))))))
def bzG:List Nat:=[35,42]
def uup:aT:=⟨2,45,aaU,[.tmp 4]⟩
def aQF:Rg:=[iZ 4]
def aQG:Rg:=[iM 8 1,iC 9 .quo 8 32,iM 10 0,iN 11 10,iB 12 .geq 9 11]
def aQH:Rg:=[iZ 4]
def aQI:Rg:=[iZ 5]
def aQJ:Rg:=[iM 13 1,iC 14 .quo 13 32,iM 6 14]
def aQK:Rg:=[iM 15 6,iM 16 0,iN 17 16,iB 18 .lss 15 17]
def aQL:Rg:=[iM 21 0,iM 22 6,iX 23 1 21 22,iL 24 23,iA 25 (.conv .u64 (Tm 24)),iM 7 25]
def aQM:Rg:=[iM 26 6,iC 27 .add 26 1,iM 28 0,iN 29 28,iB 30 .lss 27 29]
def aQN:Rg:=[iM 31 7,iM 32 0,iM 33 6,iC 34 .add 33 1,iX 35 1 32 34,iL 36 35,iA 37 (.conv .u64 (Tm 36)),iA 38 (.bin .shl (Tm 37) (.const (.int .u64 32))),iB 39 .or 31 38,iM 7 39]
def aaP:Rg:=[iM 40 5,iM 41 7,iM 42 1,iC 43 .rem 42 32,iA 44 (.conv .u64 (Tm 43)),iB 45 .shr 41 44,iA 46 (.conv .u32 (Tm 45)),iA 47 (.bIZ true 1 1 [(.int .u32 0)] [(0,(Tm 46))]),iA 48 (.append 1 4 (Tm 40) (Tm 47)),iM 5 48]
def RD:Rg:=[iM 19 6,iC 20 .add 19 1,iM 6 20]
def awV:aB:=(.seq (sq aQK (.cond (Tm 18) .skip (.exit 0))) (.seq (.block 1 (sq aQL (.seq (sq aQM (.cond (Tm 30) (.region aQN) .skip)) (.region aaP)))) (.region RD)))
def awW:Rg:=[iM 49 5,iK 50 38 49,iM 4 50]
def KG:aB:=(sq aQF (.seq (sq aQG (.cond (Tm 12) (sq aQH .ret) .skip)) (sq aQI (.seq (sq aQJ (.block 0 (.loop awV))) (sq awW .ret)))))
def bqB:List Nat:=[47]
def aAV:aT:=⟨2,51,KG,[.tmp 4]⟩
def ayH:Rg:=[iA 1 (.box true (Tm 0)),iT 2 false]
def ayI:Rg:=[iF 3 2 1,iL 4 3,iK 5 38 4,iN 6 5,iC 7 .gtr 6 0,iM 8 7,gF 9 2 1 8 true,gL 10 9 8 true,gK 11 38 10 8 true,gN 12 11 8 true,gC 13 .leq 12 128 8 true,iP 14 8 13,iM 15 14,gF 16 1 1 15 true,gL 17 16 15 true,gK 18 38 17 15 true,gN 19 18 15 true,gC 20 .leq 19 128 15 true,iP 21 15 20,iM 2 21]
def EE:aB:=(sq ayH (sq ayI .ret))
def bkB:List Nat:=[1]
def ajL:aT:=⟨1,22,EE,[.tmp 2]⟩
def axS:Rg:=[iA 1 (.box true (Tm 0)),iT 2 false]
def axT:Rg:=[iF 3 1 1,iL 4 3,iN 5 4,iC 6 .gtr 5 128,iM 7 6,gF 8 2 1 7 false,gL 9 8 7 false,gN 10 9 7 false,gC 11 .gtr 10 128 7 false,iQ 12 7 11,iM 2 12]
def EA:aB:=(sq axS (sq axT .ret))
def bjV:List Nat:=[1]
def aiX:aT:=⟨1,13,EA,[.tmp 2]⟩
def aRF:Rg:=[iA 1 (.box true (Tm 0)),iA 2 (.alloc [(.bool false),.bIU,.bIU]),iI 3 0]
def aRG:Rg:=[iO 4 3 1,iK 5 48 4]
def aRH:Rg:=[iA 6 (.build [(.bool false),.bIU,.bIU] []),iS 3 2 6,iI 3 2]
def aRI:Rg:=[iO 7 3 1,iS 3 2 7,iI 3 0]
def KT:aB:=(sq aRF (.seq (sq aRG (.cond (Tm 5) (sq aRH .ret) .skip)) (sq aRI .ret)))
def bqP:List Nat:=[1]
def aBE:aT:=⟨1,8,KT,[.cell 2 (some 3),.tmp 3]⟩
def ajG:Rg:=[iA 1 (.box true (Tm 0)),iA 2 (.alloc [(.bool false),.bIU,.bIU]),iI 3 0]
def ajH:Rg:=[iO 4 3 1,iK 5 56 4,iA 6 (.un .not (Tm 5))]
def ajI:Rg:=[iA 7 (.build [(.bool false),.bIU,.bIU] []),iS 3 2 7,iI 3 1]
def ajJ:Rg:=[iF 8 0 1,iL 9 8,iF 10 1 1,iL 11 10,iF 12 2 1,iL 13 12,iA 14 (.call 58 [(Tm 9),(Tm 11),(Tm 13)]),iS 3 2 14,iI 3 0]
def zJ:aB:=(sq ajG (.seq (sq ajH (.cond (Tm 6) (sq ajI .ret) .skip)) (sq ajJ .ret)))
def bbZ:List Nat:=[1]
def TN:aT:=⟨1,15,zJ,[.cell 2 (some 3),.tmp 3]⟩
def ayE:Rg:=[iZ 4]
def ayF:Rg:=[iM 8 0,iM 9 1,iK2 10 36 8 9,iM 7 10,iE 11 7 0,iE 12 7 1,iM 5 11,iM 6 12]
def ayG:Rg:=[iM 13 5,iM 4 13]
def ED:aB:=(sq ayE (sq ayF (sq ayG .ret)))
def bjZ:List Nat:=[]
def ajK:aT:=⟨2,14,ED,[.tmp 4]⟩
def axU:Rg:=[iA 2 (.box true (Tm 0)),iA 3 (.box true (Tm 1)),iI 4 0]
def axV:Rd:=[(iF 9 1 2,false),(iL 10 9,false),(iF 11 2 3,false),(iL 12 11,false),(iK2 13 60 10 12,true),(iF 14 1 3,true),(iL 15 14,true),(iF 16 2 2,true),(iL 17 16,true),(iK2 18 60 15 17,true),(iM 5 13,false),(iM 6 18,false)]
def axW:Rg:=[iF 19 0 2,iL 20 19,iM 21 20,gM 22 5 21 true,gN 23 22 21 true,gC 24 .gtr 23 0 21 true,iP 25 21 24,iF 26 0 3,iL 27 26,iM 28 27,gM 29 6 28 true,gN 30 29 28 true,gC 31 .gtr 30 0 28 true,iP 32 28 31,iM 7 25,iM 8 32]
def axX:Rg:=[iM 34 7,iM 35 34,gM 36 8 35 true,iG 37 (.un .not (Tm 36)) 35 true,iP 38 35 37,iM 33 38]
def axY:Rg:=[iI 4 (-1)]
def axZ:Rg:=[iM 40 8,iM 41 40,gM 42 7 41 true,iG 43 (.un .not (Tm 42)) 41 true,iP 44 41 43,iM 39 44]
def ayA:Rg:=[iI 4 1]
def ayB:Rg:=[iM 46 7,iM 45 46]
def ayC:Rg:=[iM 47 6,iM 48 5,iK2 49 32 47 48,iM 4 49]
def ayD:Rg:=[iM 50 5,iM 51 6,iK2 52 32 50 51,iM 4 52]
def EC:aB:=(sq axU (dq axV (sq axW (.seq (.block 0 (sq axX (.cond (Tm 33) (sq axY .ret) (sq axZ (.cond (Tm 39) (sq ayA .ret) (sq ayB (.cond (Tm 45) (sq ayC .ret) .skip))))))) (sq ayD .ret)))))
def bjX:List Nat:=[2,3]
def ajF:aT:=⟨2,53,EC,[.tmp 4]⟩
def aRJ:Rg:=[iA 2 (.box true (Tm 0)),iA 3 (.box true (Tm 1)),iT 4 false]
def aRK:Rg:=[iO 5 3 2,iO 6 3 3,iK2 7 51 5 6,iC 8 .lss 7 0,iM 4 8]
def KU:aB:=(sq aRJ (sq aRK .ret))
def bqS:List Nat:=[2,3]
def aBF:aT:=⟨2,9,KU,[.tmp 4]⟩
def aRQ:Rg:=[iA 2 (.box true (Tm 0)),iA 3 (.box true (Tm 1)),iT 4 false]
def aRR:Rg:=[iO 5 3 2,iO 6 3 3,iK2 7 51 5 6,iC 8 .eql 7 0,iM 4 8]
def KY:aB:=(sq aRQ (sq aRR .ret))
def bqW:List Nat:=[2,3]
def aBH:aT:=⟨2,9,KY,[.tmp 4]⟩
def aRS:Rg:=[iA 1 (.box true (Tm 0)),iI 2 0]
def aRT:Rd:=[(iO 3 3 1,true),(iA 4 (.call 47 [(Ci 0)]),true),(iK2 5 51 3 4,true),(iM 2 5,false)]
def KZ:aB:=(sq aRS (dq aRT .ret))
def bqY:List Nat:=[1]
def aBI:aT:=⟨1,6,KZ,[.tmp 2]⟩
def a3T:Rg:=[iA 2 (.box true (Tm 0)),iA 3 (.box true (Tm 1)),iA 4 (.alloc [(.bool false),.bIU,.bIU]),iI 5 0]
def a3U:Rg:=[iO 15 3 2,iK 16 56 15,iA 17 (.un .not (Tm 16)),iM 18 17,gO 19 3 3 18 false,gK 20 56 19 18 false,iG 21 (.un .not (Tm 20)) 18 false,iQ 22 18 21]
def aoI:Rg:=[iA 23 (.build [(.bool false),.bIU,.bIU] []),iS 3 4 23,iI 5 1]
def a3V:Rd:=[(iF 24 1 2,false),(iL 25 24,false),(iF 26 2 3,false),(iL 27 26,false),(iK2 28 60 25 27,true),(iF 29 1 3,true),(iL 30 29,true),(iF 31 2 2,true),(iL 32 31,true),(iK2 33 60 30 32,true),(iF 34 2 2,true),(iL 35 34,true),(iF 36 2 3,true),(iL 37 36,true),(iK2 38 60 35 37,true),(iM 6 28,false),(iM 7 33,false),(iM 8 38,false)]
def a3W:Rg:=[iF 39 0 2,iL 40 39,iF 41 0 3,iL 42 41,iA 43 (.eqb false (Tm 40) (Tm 42))]
def a3X:Rg:=[iM 45 6,iM 46 7,iK2 47 30 45 46,iM 44 47,iE 48 44 0,iE 49 44 1,iM 9 48,iM 10 49]
def a3Y:Rg:=[iF 50 0 2,iL 51 50,iM 52 9,iM 53 8,iA 54 (.call 58 [(Tm 51),(Tm 52),(Tm 53)]),iK 55 57 54,iE 56 55 0,iE 57 55 1,iS 3 4 56,iM 5 57]
def a3Z:Rg:=[iM 58 6,iM 59 7,iK2 60 32 58 59,iC 61 .geq 60 0]
def a4A:Rg:=[iM 63 6,iM 64 7,iK2 65 37 63 64,iM 62 65,iE 66 62 0,iE 67 62 1,iM 11 66,iM 12 67]
def a4B:Rg:=[iF 68 0 2,iL 69 68,iM 70 11,iM 71 8,iA 72 (.call 58 [(Tm 69),(Tm 70),(Tm 71)]),iK 73 57 72,iE 74 73 0,iE 75 73 1,iS 3 4 74,iM 5 75]
def aRC:Rg:=[iM 77 7,iM 78 6,iK2 79 37 77 78,iM 76 79,iE 80 76 0,iE 81 76 1,iM 13 80,iM 14 81]
def aRD:Rg:=[iF 82 0 3,iL 83 82,iM 84 13,iM 85 8,iA 86 (.call 58 [(Tm 83),(Tm 84),(Tm 85)]),iK 87 57 86,iE 88 87 0,iE 89 87 1,iS 3 4 88,iM 5 89]
def BD:aB:=(sq a3T (.seq (sq a3U (.cond (Tm 22) (sq aoI .ret) .skip)) (dq a3V (.seq (sq a3W (.cond (Tm 43) (sq a3X (sq a3Y .ret)) .skip)) (.seq (sq a3Z (.cond (Tm 61) (sq a4A (sq a4B .ret)) .skip)) (sq aRC (sq aRD .ret)))))))
def bwO:List Nat:=[2,3]
def aRB:aT:=⟨2,90,BD,[.cell 4 (some 3),.tmp 5]⟩
def a4H:Rg:=[iA 2 (.alloc [(.bool false),.bIU,.bIU]),iI 3 0]
def a4I:Rg:=[iA 8 (.call 47 [(Ci 0)]),iA 4 (.alloc [(.bool false),.bIU,.bIU]),iS 3 4 8]
def a4J:Rg:=[iI 5 0]
def a4K:Rg:=[iM 9 5,iM 10 0,iN 11 10,iB 12 .lss 9 11]
def a4L:Rd:=[(iO 16 3 4,false),(iM 17 0,false),(iM 18 5,false),(iX 19 3 17 18,false),(iO 20 3 19,false),(iK2 21 46 16 20,true),(iM 15 21,false),(iE 22 15 0,false),(iE 23 15 1,true),(iA 6 (.alloc [(.bool false),.bIU,.bIU]),true),(iS 3 6 22,true),(iM 7 23,false)]
def aoK:Rg:=[iM 24 7,iC 25 .neq 24 0]
def a4M:Rg:=[iA 26 (.build [(.bool false),.bIU,.bIU] []),iM 27 7,iS 3 2 26,iM 3 27]
def a4N:Rg:=[iO 28 3 6,iS 3 4 28]
def a4O:Rg:=[iM 13 5,iC 14 .add 13 1,iM 5 14]
def a4G:aB:=(.seq (sq a4K (.cond (Tm 12) .skip (.exit 0))) (.seq (.block 1 (dq a4L (.seq (sq aoK (.cond (Tm 25) (sq a4M .ret) .skip)) (.region a4N)))) (.region a4O)))
def aRY:Rg:=[iO 29 3 4,iS 3 2 29,iI 3 0]
def RS:aB:=(sq a4H (sq a4I (.seq (sq a4J (.block 0 (.loop a4G))) (sq aRY .ret))))
def bwS:List Nat:=[]
def bcA:aT:=⟨1,30,RS,[.cell 2 (some 3),.tmp 3]⟩
def uA:Rg:=[iT 4 false]
def uB:Rg:=[iM 5 0,iC 6 .geq 5 1,iM 7 6,gM 8 0 7 true,gC 9 .leq 8 6 7 true,iP 10 7 9,iM 11 10,gM 12 1 11 true,gC 13 .geq 12 0 11 true,iP 14 11 13,iM 15 14,gM 16 1 15 true,gC 17 .leq 16 4 15 true,iP 18 15 17,iM 19 18,gM 20 0 19 true,gM 21 1 19 true,gB 22 .add 20 21 19 true,gC 23 .leq 22 8 19 true,iP 24 19 23,iM 4 24]
def nN:aB:=(sq uA (sq uB .ret))
def boZ:List Nat:=[]
def AH:aT:=⟨2,25,nN,[.tmp 4]⟩
def ajY:Rg:=[iT 2 false]
def ajZ:Rg:=[iM 3 0,iA 4 (.bin .geq (Tm 3) (.const (.int .u8 97))),iM 5 4,gM 6 0 5 true,iG 7 (.bin .leq (Tm 6) (.const (.int .u8 122))) 5 true,iP 8 5 7,iM 9 8,gM 10 0 9 false,iG 11 (.bin .geq (Tm 10) (.const (.int .u8 65))) 9 false,gM 12 11 9 false,gM 13 0 12 true,iG 14 (.bin .leq (Tm 13) (.const (.int .u8 90))) 12 true,iG 15 (.pick (Tm 12) (Tm 14) (.const (.bool false))) 9 false,iQ 16 9 15,iM 2 16]
def zM:aB:=(sq ajY (sq ajZ .ret))
def bcG:List Nat:=[]
def TQ:aT:=⟨1,17,zM,[.tmp 2]⟩
def ayJ:Rg:=[iT 2 false]
def ayK:Rg:=[iM 3 0,iA 4 (.bin .geq (Tm 3) (.const (.int .u8 48))),iM 5 4,gM 6 0 5 true,iG 7 (.bin .leq (Tm 6) (.const (.int .u8 57))) 5 true,iP 8 5 7,iM 2 8]
def EG:aB:=(sq ayJ (sq ayK .ret))
def bkD:List Nat:=[]
def ajM:aT:=⟨1,9,EG,[.tmp 2]⟩
def ajN:Rg:=[iT 2 false]
def ajO:Rg:=[iM 3 0,iK 4 65 3,iM 5 4,gM 6 0 5 false,gK 7 63 6 5 false,iQ 8 5 7,iM 9 8,gM 10 0 9 false,iG 11 (.bin .eql (Tm 10) (.const (.int .u8 45))) 9 false,iQ 12 9 11,iM 13 12,gM 14 0 13 false,iG 15 (.bin .eql (Tm 14) (.const (.int .u8 46))) 13 false,iQ 16 13 15,iM 2 16]
def zK:aB:=(sq ajN (sq ajO .ret))
def bcC:List Nat:=[]
def TO:aT:=⟨1,17,zK,[.tmp 2]⟩
def ajQ:Rg:=[iT 2 false]
def ajR:Rg:=[iM 4 0,iA 5 (.bKC (Tm 4)),iC 6 .lss 5 1,iM 7 6,gM 8 0 7 false,iG 9 (.bKC (Tm 8)) 7 false,gC 10 .gtr 9 16 7 false,iQ 11 7 10,iM 12 11,gM 13 0 12 false,iG 14 (.bKD (Tm 13) (Ci 0)) 12 false,gK 15 65 14 12 false,iG 16 (.un .not (Tm 15)) 12 false,iQ 17 12 16]
def xD:Rg:=[iT 2 false]
def ajS:Rg:=[iI 3 0]
def ajT:Rg:=[iM 18 3,iM 19 0,iA 20 (.bKC (Tm 19)),iB 21 .lss 18 20]
def ajU:Rg:=[iM 24 0,iM 25 3,iA 26 (.bKD (Tm 24) (Tm 25)),iK 27 64 26,iA 28 (.un .not (Tm 27))]
def ajV:Rg:=[iT 2 false]
def ajW:Rg:=[iM 22 3,iC 23 .add 22 1,iM 3 23]
def ajP:aB:=(.seq (sq ajT (.cond (Tm 21) .skip (.exit 0))) (.seq (.block 1 (sq ajU (.cond (Tm 28) (sq ajV .ret) .skip))) (.region ajW)))
def ajX:Rg:=[iT 2 true]
def zL:aB:=(sq ajQ (.seq (sq ajR (.cond (Tm 17) (sq xD .ret) .skip)) (.seq (sq ajS (.block 0 (.loop ajP))) (sq ajX .ret))))
def bcE:List Nat:=[]
def TP:aT:=⟨1,29,zL,[.tmp 2]⟩
theorem pR (P:List Nat) (v:Nat):aK P++[[.int .u32 (v:Int)]]=aK (P++[v]):=by simp[aK]
theorem pQ {P:List Nat} (h:P.length≤35184372087808):roomFor (aK P).length 1 4:=by
 unfold roomFor
 rw[bW]
 simp only[maxLen]; omega
def TK (a b:List Nat) (v:PV) (c i:Nat):PF:=(((((PF.nil.set 0 (aJ a)).set 1 (aJ b)).set 5 (v)).set 6 (.int .u64 c)).set 7 (.int .i64 i))
theorem bjD {C:Ctx} (L:pI C) (a b:List Nat) (ha:Lim a) (hb:Lim b) (hle:val b≤val a) (hl:b.length≤a.length) (h1:a.length≤35184372087808) :
  DY.wp C (aS aiN.res (bQ (aJ (aI (val a-val b))))) (PF.args [aJ a,aJ b]) .nil:=by
 simp only[go_sem,DY,awZ,axA,axB,axC,aiN]
 refine wp_loop (α:=List Nat × Nat × PV × PH) (fun s=>TK a b s.2.2.1 s.2.1 s.1.length) (fun s=>s.2.2.2)
  (fun s=>s.1.length≤a.length∧Lim s.1∧s.2.1≤1∧val (a.take s.1.length)+4294967296 ^ s.1.length*s.2.1=val s.1+val (b.take s.1.length)∧aY s.2.2.2 1 s.2.2.1 (aK s.1)) (fun s=>a.length-s.1.length) ([],0,.bIU,.nil) ⟨by simp,by simp[Lim],by simp,by simp[val],.nil⟩ ?_ PH.nil_le ?_
 ·unfold TK
  exact Lq
 rintro⟨P,c,v,H0⟩ ⟨hP,bJR,hc,bJN,hO⟩
 simp only at hP bJR hc bJN hO ⊢
 simp only[go_sem,γ,reduceCtorEq,aiO,axD,TK]
 by_cases c1:P.length<a.length
 ·have c1':(P.length:Int)<(a.length:Nat):=by omega
  have hai:=ha _ (bLF c1)
  have hta:=cB a c1
  have hac:(aK a)[P.length]?=some [.int .u32 ((a[P.length]:Nat):Int)]:=bP a c1
  generalize hx:a[P.length]=x at *
  have ex:IntKind.u64.wrap ((x:Nat):Int)=((x:Nat):Int):=bH Om
  have fin:∀ (t:Nat) (F':PF),t<4294967296→val (b.take (P.length+1))=val (b.take P.length)+4294967296 ^ P.length*t →
    F' 0=some (aJ a)→F' 1=some (aJ b)→F' 5=some v→F' 8=some (.int .u64 (c+t:Nat))→F' 7=some (.int .i64 P.length) →
    ∀ K:bY,(∀ P' c' v' F2 H2,P'.length=P.length+1→Lim P'→c'≤1→val (a.take (P.length+1))+4294967296 ^ P'.length*c'=val P'+val (b.take (P.length+1))→(TK a b v' c' P'.length).le F2→aY H2 1 v' (aK P')→K .normal F2 H2) →
    aB.wp C (.seq (.region RG) (.seq (.region RH) (.seq (.seq (.region KI) (.cond (.tmp 35) (.seq (.region KJ) (.region KK)) .skip)) (.region wZ)))) (dP 1 (jC C (aB.wp C (.region xA)) K)) F' H0:=by
   intro t F' ht htb g0 g1 g5 g8 g7 K hK
   have step:∀ (d c':Nat),d<4294967296→c'≤1→x+4294967296*c'=d+(c+t)→val (a.take (P.length+1))+4294967296 ^ (P.length+1)*c'=val (P++[d])+val (b.take (P.length+1)):=by
    intro d c' hd hc' he
    have h2:4294967296 ^ P.length*(x+4294967296*c')=4294967296 ^ P.length*(d+(c+t)):=by rw[he]
    rw[bLM,bLM,bLM] at h2
    rw[jK,bMR,bLV,hta,htb]
    omega
   simp only[go_sem,γ,RG,g0,g7,hac,ex,RH,KI,g8]
   by_cases c2:x<c+t
   ·have c2':((x:Nat):Int)<((c+t:Nat):Int):=by omega
    have e1:IntKind.u64.wrap ((x:Int)+4294967296)=((x+4294967296:Nat):Int):=by
     rw[show (x:Int)+4294967296=((x+4294967296:Nat):Int) by omega]
     exact bH Om
    have e2:IntKind.u64.wrap (((x+4294967296:Nat):Int)-((c+t:Nat):Int))=((x+4294967296-(c+t):Nat):Int):=by
     rw[show ((x+4294967296:Nat):Int)-((c+t:Nat):Int)=((x+4294967296-(c+t):Nat):Int) by omega]
     exact bH Om
    have e3:IntKind.u32.wrap ((x+4294967296-(c+t):Nat):Int)=((x+4294967296-(c+t):Nat):Int):=by
     rw[cF,bMG Om]
    have hb1:(1:Nat)*1≤16777216:=by decide
    simp only[go_sem,υ,γ,η,ζ,c2',KJ,e1,KK,wZ,g5,g8,e2,e3,hb1]
    refine dC (src:=[[.int .u32 ((x+4294967296-(c+t):Nat):Int)]]) hO rfl (pQ Om) fun v' H' hO' _=>?_
    rw[pR] at hO'
    simp only[go_sem,γ,xA,g7,cY (Om:P.length<9223372036854775807)]
    refine hK _ 1 v' _ H' (by simp) (bJR.app fun y hy=>by simp at hy; subst hy; omega) (bLG _) ?_ ?_ hO'
    ·rw[bLC,bLH]
     exact step _ 1 Om (bLG _) Om
    ·unfold TK
     rw[bLC,bLH]
     exact Lq
   ·have c2':¬ ((x:Nat):Int)<((c+t:Nat):Int):=by omega
    have e2:IntKind.u64.wrap (((x:Nat):Int)-((c+t:Nat):Int))=((x-(c+t):Nat):Int):=by
     rw[show ((x:Nat):Int)-((c+t:Nat):Int)=((x-(c+t):Nat):Int) by omega]
     exact bH Om
    have e3:IntKind.u32.wrap ((x-(c+t):Nat):Int)=((x-(c+t):Nat):Int):=by
     rw[cF,bMG Om]
    have hb1:(1:Nat)*1≤16777216:=by decide
    simp only[go_sem,υ,γ,η,ζ,c2',wZ,g5,g8,e2,e3,hb1]
    refine dC (src:=[[.int .u32 ((x-(c+t):Nat):Int)]]) hO rfl (pQ Om) fun v' H' hO' _=>?_
    rw[pR] at hO'
    simp only[go_sem,γ,xA,g7,cY (Om:P.length<9223372036854775807)]
    refine hK _ 0 v' _ H' (by simp) (bJR.app fun y hy=>by simp at hy; subst hy; omega) (by decide) ?_ ?_ hO'
    ·rw[bLC,bLH]
     exact step _ 0 Om (by decide) Om
    ·unfold TK
     rw[bLC,bLH]
     exact Lq
  simp only[aB.wp,go_sem] at fin
  simp only[go_sem,γ,reduceCtorEq,c1',axE,axF]
  by_cases c3:P.length<b.length
  ·have c3':(P.length:Int)<(b.length:Nat):=by omega
   have hbi:=hb _ (bLF c3)
   have htb:=cB b c3
   have eb:IntKind.u64.wrap ((b[P.length]:Nat):Int)=((b[P.length]:Nat):Int):=bH Om
   have es:IntKind.u64.wrap ((c:Int)+(b[P.length]:Int))=((c+b[P.length]:Nat):Int):=eX Om
   simp only[go_sem,γ,reduceCtorEq,c3',axG,bP b c3,eb,es]
   refine fin b[P.length] _ hbi htb rfl rfl rfl rfl rfl _ ?_
   intro P' c' v' F2 H2 e1 e2 e3 e4 e5 e6
   rw[← e1] at e4
   exact aE (α:=List Nat × Nat × PV × PH) (P',c',v',H2) ⟨by simp only; omega,e2,e3,e4,e6⟩ (by simp only; omega) e5 PH.le_refl
  ·have c3':¬ (P.length:Int)<(b.length:Nat):=by omega
   have htb:val (b.take (P.length+1))=val (b.take P.length)+4294967296 ^ P.length*0:=by rw[bLQ Om,bLQ Om]; simp
   simp only[go_sem,c3']
   refine fin 0 _ (by decide) htb rfl rfl rfl rfl rfl _ ?_
   intro P' c' v' F2 H2 e1 e2 e3 e4 e5 e6
   rw[← e1] at e4
   exact aE (α:=List Nat × Nat × PV × PH) (P',c',v',H2) ⟨by simp only; omega,e2,e3,e4,e6⟩ (by simp only; omega) e5 PH.le_refl
 ·have e:P.length=a.length:=by omega
  have c1':¬ (P.length:Int)<(a.length:Nat):=by omega
  have hV:val P=val a-val b:=by
   rw[e,bLZ,bLQ hl] at bJN
   have hlt:=eW bJR
   rw[e] at hlt
   rcases bNA c with h | h
   ·subst h; omega
   ·have:c=1:=by omega
    subst this; omega
  simp only[go_sem,γ,reduceCtorEq,c1',aiP]
  have hs:=L.trim _ bJR Om
  rw[hV] at hs
  refine tD hs hO rfl fun F1 H1 _=>?_
  simp only[go_sem]
  exact aV (.inr rfl) .nil rfl PH.nil_le ⟨.refl _,rfl⟩
def rA (a b:List Nat) (o i:Nat):PF:=((((PF.nil.set 0 (aJ a)).set 1 (aJ b)).set 5 (.osl o 1 0 (a.length+b.length))).set 6 (.int .i64 i))
def utG (a b:List Nat) (o i c j:Nat):PF:=((((((PF.nil.set 0 (aJ a)).set 1 (aJ b)).set 5 (.osl o 1 0 (a.length+b.length))).set 6 (.int .i64 i)).set 7 (.int .u64 c)).set 8 (.int .i64 j))
theorem bbQ {C:Ctx} (a b:List Nat) (ha:Lim a) (hb:Lim b) (h1:a.length≤35184372087808) (h2:b.length≤35184372087808) (L:List Nat) (i:Nat) (hi:i<a.length) (hI:EO a b L i) (q:Nat) (K:bY) (F:PF) (H:PH) (hF:(rA a b q i).le F) (hH:H q=some (.rows 1 (aK L)))
  (hK:∀ L' F' H',EO a b L' (i+1)→(rA a b q i).le F'→H' q=some (.rows 1 (aK L'))→K .normal F' H') :
  aB.wp C (.block 1 (.seq (.region RO) (.seq (.seq (.region RP) (.block 2 (.loop KO))) (.region KP)))) K F H:=by
 have f0:=hF 0 _ (by unfold rA; simp only[go_sem,reduceCtorEq]; rfl)
 have f1:=hF 1 _ (by unfold rA; simp only[go_sem,γ,reduceCtorEq]; rfl)
 have f5:=hF 5 _ (by unfold rA; simp only[go_sem,γ,reduceCtorEq]; rfl)
 have f6:=hF 6 _ (by unfold rA; simp only[go_sem,γ,reduceCtorEq]; rfl)
 have hx:=ha _ (bLF hi)
 have hta:=cB a hi
 generalize hxe:a[i]=x at *
 have hax:(aK a)[i]?=some [.int .u32 ((x:Nat):Int)]:=by rw[bP a hi,hxe]
 simp only[go_sem,RO,RP]
 refine wp_loop (α:=List Nat × Nat × Nat) (fun t=>utG a b q i t.2.1 t.2.2) (fun t=>PH.nil.set q (.rows 1 (aK t.1)))
  (fun t=>t.2.2≤b.length∧t.1.length=a.length+b.length∧Lim t.1∧t.2.1<4294967296∧val t.1+4294967296 ^ (i+t.2.2)*t.2.1=val (a.take i)*val b+4294967296 ^ i*(x*val (b.take t.2.2))∧∀ j y,i+b.length≤j→t.1[j]?=some y→y=0) (fun t=>b.length-t.2.2) (L,0,0)
  ⟨by simp,hI.len,hI.lim,by simp,by simp[val,hI.v],hI.z⟩ ?_ (PH.aG PH.nil_le hH) ?_
 ·unfold utG
  exact Lq
 rintro⟨M,c,j⟩ ⟨hj,hM,bJR,hc,bJN,hz⟩
 simp only at hj hM bJR hc bJN hz
 simp only[go_sem,γ,reduceCtorEq,KO,axM,utG]
 by_cases c1:j<b.length
 ·have c1':(j:Int)<(b.length:Nat):=by omega
  have hy:=hb _ (bLF c1)
  have htb:=cB b c1
  generalize hye:b[j]=y at *
  have hby:(aK b)[j]?=some [.int .u32 ((y:Nat):Int)]:=by rw[bP b c1,hye]
  have hij:i+j<M.length:=by omega
  have hz0:=bJR _ (bLF hij)
  have bKR:=FN hij
  generalize hze:M[i+j]=z at *
  have hMz:(aK M)[i+j]?=some [.int .u32 ((z:Nat):Int)]:=by rw[bP M hij,hze]
  have ex:IntKind.u64.wrap ((x:Nat):Int)=((x:Nat):Int):=bH Om
  have ey:IntKind.u64.wrap ((y:Nat):Int)=((y:Nat):Int):=bH Om
  have ez:IntKind.u64.wrap ((z:Nat):Int)=((z:Nat):Int):=bH Om
  have em:=aZI hx hy
  have hxy:x*y≤4294967295*4294967295:=Nat.mul_le_mul Om Om
  have e1:IntKind.u64.wrap (((x*y:Nat):Int)+(z:Int))=((x*y+z:Nat):Int):=eX Om
  have e2:IntKind.u64.wrap (((x*y+z:Nat):Int)+(c:Int))=((x*y+z+c:Nat):Int):=eX Om
  have eij:IntKind.i64.wrap ((i:Int)+(j:Int))=((i+j:Nat):Int):=gI Om
  have hlt:((i+j:Nat):Int)<((a.length+b.length:Nat):Int):=by omega
  generalize ht:x*y+z+c=t at *
  have htt:t<4294967296*4294967296:=by omega
  have bJH:(aK M).set (i+j) [.int .u32 ((t%4294967296:Nat):Int)]=aK (M.set (i+j) (t%4294967296)):=fJ M (i+j) _
  simp only[go_sem,c1']
  refine bM .nil dK PH.nil_le ?_
  simp only[go_sem,γ,reduceCtorEq,axN,hax,hby,ex,ey,em,eij,hlt,hMz,ez,e1,e2,axO,cF,bJH,axP,wU,aiT,ws j]
  refine aE (M.set (i+j) (t%4294967296),t/4294967296,j+1) ⟨by simp only; omega,by simp only[bNL]; exact hM,bJR.set _ (bMJ _ (by decide)),by simp only; omega,?_,akC hz _ _ Om⟩ (by simp only; omega) ?_ (PH.aG PH.nil_le Sq)
  ·simp only
   have h3:=bKR (t%4294967296)
   have h4:4294967296 ^ (i+(j+1))*(t/4294967296)+4294967296 ^ (i+j)*(t%4294967296)=4294967296 ^ (i+j)*t:=by
    rw[← bND,bMR,bLV,← bLM,bOB]
   have h5:4294967296 ^ (i+j)*t=4294967296 ^ (i+j)*(x*y)+4294967296 ^ (i+j)*z+4294967296 ^ (i+j)*c:=by rw[← ht,bLM,bLM]
   have h6:4294967296 ^ i*(x*val (b.take (j+1)))=4294967296 ^ i*(x*val (b.take j))+4294967296 ^ (i+j)*(x*y):=by
    rw[htb,bLM,bLM,Nat.pow_add]
    congr 1
    rw[Nat.mul_left_comm x,bLV]
   omega
  ·exact Lq
 ·have he:j=b.length:=by omega
  have c1':¬ (j:Int)<(b.length:Nat):=by omega
  subst he
  have hij:i+b.length<M.length:=by omega
  have hz0:M[i+b.length]=0:=hz _ _ (bLG _) (bLL hij)
  have bKR:=FN hij
  have hMz:(aK M)[i+b.length]?=some [.int .u32 ((0:Nat):Int)]:=by rw[bP M hij,hz0]
  have eij:IntKind.i64.wrap ((i:Int)+((b.length:Nat):Int))=((i+b.length:Nat):Int):=gI Om
  have hlt:((i+b.length:Nat):Int)<((a.length+b.length:Nat):Int):=by omega
  have bJH:(aK M).set (i+b.length) [.int .u32 ((c%4294967296:Nat):Int)]=aK (M.set (i+b.length) c):=by
   rw[bMG hc]; exact fJ M _ _
  simp only[go_sem,γ,reduceCtorEq,c1',KP,eij,cF,hlt,hMz,bJH]
  refine hK (M.set (i+b.length) c) _ _ ⟨by rw[bNL]; exact hM,bJR.set _ hc,?_,fun j y hj hy=>?_⟩ (by unfold rA; exact Lq) Sq
  ·have h3:=bKR c
   rw[hz0,Nat.mul_zero,bMV] at h3
   rw[h3,bJN,bLZ,hta,bMB,bLV]
  ·rw[List.getElem?_set_ne Om] at hy
   exact hz j y Om hy
theorem bjF {C:Ctx} (L:pI C) (a b:List Nat) (ha:Lim a) (hb:Lim b) (h1:a.length≤8388608) (h2:b.length≤8388608) :
  DZ.wp C (aS aiR.res (bQ (aJ (aI (val a*val b))))) (PF.args [aJ a,aJ b]) .nil:=by
 have hlen:IntKind.i64.wrap (((a.length:Nat):Int)+((b.length:Nat):Int))=((a.length+b.length:Nat):Int):=gI Om
 have hm1:((a.length+b.length:Nat):Int)*((4:Nat):Int)≤140737488355328:=by omega
 have hm2:((a.length+b.length:Nat):Int)≤9223372036854775807:=by omega
 have hz:bLD (a.length+b.length) [PV.int .u32 0]=aK (bLD (a.length+b.length) 0):=by
  simp[aK]
 simp only[go_sem,γ,reduceCtorEq,DZ,axI,axJ,aiR,bKY,hlen,hm1,hm2,hz]
 refine aN fun o ho=>?_
 simp only[go_sem,γ,axK]
 refine wp_loop (α:=List Nat × Nat) (fun t=>rA a b o t.2) (fun t=>PH.nil.set o (.rows 1 (aK t.1))) (fun t=>t.2≤a.length∧EO a b t.1 t.2) (fun t=>a.length-t.2) (bLD (a.length+b.length) 0,0)
  ⟨by simp,by simp,vD _,by simp[val,rP],fun j x _ hx=>by rw[List.getElem?_replicate] at hx; split at hx<;>simp_all⟩ ?_ (PH.aG PH.nil_le Sq) ?_
 ·unfold rA
  exact Lq
 rintro⟨M,i⟩ ⟨hi,hI⟩
 simp only at hi hI
 simp only[go_sem,γ,reduceCtorEq,aiS,axL,rA]
 by_cases c1:i<a.length
 ·have c1':(i:Int)<(a.length:Nat):=by omega
  have key:=bbQ (C:=C) a b ha hb Om Om M i c1 hI o
  simp only[go_sem] at key
  simp only[go_sem,c1']
  refine key _ _ _ (by unfold rA; exact Lq) Sq ?_
  intro L' F' H' hI' hF' hH'
  have g6:=hF' 6 _ (by unfold rA; simp only[go_sem,γ,reduceCtorEq]; rfl)
  have g0:=hF' 0 _ (by unfold rA; simp only[go_sem,reduceCtorEq]; rfl)
  have g1:=hF' 1 _ (by unfold rA; simp only[go_sem,γ,reduceCtorEq]; rfl)
  have g5:=hF' 5 _ (by unfold rA; simp only[go_sem,γ,reduceCtorEq]; rfl)
  simp only[go_sem,γ,aiU,g6,ws i]
  refine aE (L',i+1) ⟨by simp only; omega,hI'⟩ (by simp only; omega) ?_ (PH.aG PH.nil_le hH')
  exact Lq
 ·have he:i=a.length:=by omega
  subst he
  have c1':¬ ((a.length:Nat):Int)<(a.length:Nat):=by omega
  have hV:val M=val a*val b:=by rw[hI.v,bLZ]
  simp only[go_sem,γ,reduceCtorEq,aiV]
  have hs:=L.trim _ hI.lim (by rw[hI.len]; omega)
  rw[hV] at hs
  refine pX (o:=o) (s:=1) (k:=a.length+b.length) (rs:=aK M) (v:=aJ (aI (val a*val b))) ?_ rfl Sq (by rw[bW,hI.len]; exact bLG _) ?_
  ·rw[bLQ (by rw[bW,hI.len]; exact bLG _)]; exact hs
  ·simp only[go_sem,γ,reduceCtorEq]
   exact aV (.inr rfl) .nil rfl PH.nil_le ⟨.refl _,rfl⟩
structure aBV (C:Ctx):Prop extends aBT C where
 minus:∀ a b,Lim a→Lim b→val b≤val a→b.length≤a.length→a.length≤35184372087808→aH C 42 [aJ a,aJ b] .nil (aF (aJ (aI (val a-val b))))
 times:∀ a b,Lim a→Lim b→a.length≤8388608→b.length≤8388608→aH C 44 [aJ a,aJ b] .nil (aF (aJ (aI (val a*val b))))
theorem bwH {C:Ctx} (L:aBV C) (a b:List Nat) (ha:Lim a) (hb:Lim b) (la:a.length≤35184372087808) (lb:b.length≤35184372087808) :
  RI.wp C (aS bbN.res (bQ (opV (dQ (val a) (val b)) (val a*val b)))) (PF.args [aJ a,aJ b]) .nil:=by
 unfold opV
 simp only[go_sem,reduceCtorEq,RI,a3F,a3G,bbN]
 refine aA (L.large a ha la) rfl ?_
 by_cases c1:nl (val a)>512
 ·simp only[go_sem,γ,c1,aoG]
  rw[if_pos (by simp[dQ,c1])]
  exact eK rfl
 simp only[go_sem,γ,c1]
 refine aA (L.large b hb lb) rfl ?_
 by_cases c2:nl (val b)>512
 ·simp only[go_sem,γ,reduceCtorEq,c2,aoG]
  rw[if_pos (by simp[dQ,c2])]
  exact eK rfl
 rw[if_neg (by simp[dQ,c1,c2])]
 simp only[go_sem,γ,reduceCtorEq,c2,a3H]
 refine aA (L.trim a ha la) rfl ?_
 simp only[go_sem,γ]
 refine aA (L.trim b hb lb) rfl ?_
 simp only[go_sem]
 have ht:=L.times (aI (val a)) (aI (val b)) (aU _) (aU _) (by rw[bA]; omega) (by rw[bA]; omega)
 rw[aR,aR] at ht
 refine aA ht rfl ?_
 have n1:=lH (a:=val a) (b:=val b) (m:=512) (n:=512) Om Om
 have hl:=L.large (aI (val a*val b)) (aU _) (by rw[bA]; omega)
 rw[aR] at hl
 simp only[go_sem,γ,a3I]
 refine aA hl rfl ?_
 unfold szV szL szE
 by_cases c3:nl (val a*val b)>512
 ·rw[if_pos c3,if_pos c3]
  simp only[go_sem,γ,c3,a3J]
  exact eK rfl
 ·rw[if_neg c3,if_neg c3]
  simp only[go_sem,γ,c3,a3K]
  exact aV (.inr rfl) .nil rfl PH.nil_le ⟨.refl _,rfl⟩
def wC (a:List Nat) (i:Nat):Nat:=a.getD i 0
theorem aCM {a:List Nat} (h:Lim a) (i:Nat):wC a i<4294967296:=by
 unfold wC
 rw[bLP]
 rcases bLS i a.length with h1 | h1
 ·rw[bLL h1]; exact h _ (bLF h1)
 ·rw[bML h1]; decide
theorem XA {a:List Nat} {i:Nat} (h:i<a.length):wC a i=a[i]:=by simp[wC,bLP,h]
theorem ND {a:List Nat} {i:Nat} (h:¬ i<a.length):wC a i=0:=by simp[wC,bLP,h]
theorem RQ (a:List Nat) (i:Nat):val (a.take (i+1))=val (a.take i)+4294967296 ^ i*wC a i:=by
 rcases bLS i a.length with h | h
 ·rw[XA h]; exact cB a h
 ·rw[ND Om,bLQ Om,bLQ Om]; simp
def tA (a b:List Nat) (v:PV) (c i:Nat):PF:=(((((PF.nil.set 0 (aJ a)).set 1 (aJ b)).set 5 (v)).set 6 (.int .u64 c)).set 7 (.int .i64 i))
theorem bqI {C:Ctx} (L:pI C) (a b:List Nat) (ha:Lim a) (hb:Lim b) (h1:a.length≤8388608) (h2:b.length≤8388608) :
  KL.wp C (aS aAX.res (bQ (aJ (aI (val a+val b))))) (PF.args [aJ a,aJ b]) .nil:=by
 simp only[go_sem,KL,aQR,aQS,aQT,aQU,aAX]
 refine wp_loop (α:=List Nat × Nat × PV × PH) (fun s=>tA a b s.2.2.1 s.2.1 s.1.length) (fun s=>s.2.2.2)
  (fun s=>s.1.length≤max a.length b.length+1∧(s.1.length≤max a.length b.length∨s.2.1=0)∧Lim s.1∧s.2.1≤1∧val s.1+4294967296 ^ s.1.length*s.2.1=val (a.take s.1.length)+val (b.take s.1.length)∧aY s.2.2.2 1 s.2.2.1 (aK s.1)) (fun s=>max a.length b.length+1-s.1.length) ([],0,.bIU,.nil)
  ⟨by simp,by simp,by simp[Lim],by simp,by simp[val],.nil⟩ ?_ PH.nil_le ?_
 ·unfold tA
  exact Lq
 rintro⟨P,c,v,H0⟩ ⟨hP,hPc,bJR,hc,bJN,hO⟩
 simp only at hP hPc bJR hc bJN hO ⊢
 have hda:=aCM ha P.length
 have hdb:=aCM hb P.length
 have hta:=RQ a P.length
 have htb:=RQ b P.length
 generalize hx:wC a P.length=x at *
 generalize hy:wC b P.length=y at *
 have ex:IntKind.u64.wrap ((x:Nat):Int)=((x:Nat):Int):=bH Om
 have ey:IntKind.u64.wrap ((y:Nat):Int)=((y:Nat):Int):=bH Om
 have e1:IntKind.u64.wrap ((c:Int)+(x:Int))=((c+x:Nat):Int):=eX Om
 have e2:IntKind.u64.wrap (((c+x:Nat):Int)+(y:Int))=((c+x+y:Nat):Int):=eX Om
 have hra:P.length<a.length→(aK a)[P.length]?=some [.int .u32 ((x:Nat):Int)]:=fun h=>by rw[bP a h,← hx,XA h]
 have hrb:P.length<b.length→(aK b)[P.length]?=some [.int .u32 ((y:Nat):Int)]:=fun h=>by rw[bP b h,← hy,XA h]
 have hxa:¬ P.length<a.length→x=0:=fun h=>by rw[← hx,ND h]
 have hyb:¬ P.length<b.length→y=0:=fun h=>by rw[← hy,ND h]
 have body:(P.length≤max a.length b.length)→∀ K:bY,(∀ P' c' v' F2 H2,P'.length=P.length+1→Lim P'→c'≤1→(P.length+1≤max a.length b.length∨c'=0)→val P'+4294967296 ^ P'.length*c'=val (a.take (P.length+1))+val (b.take (P.length+1))→(tA a b v' c' P'.length).le F2→aY H2 1 v' (aK P')→K .normal F2 H2) →
   ∀ F:PF,(tA a b v c P.length).le F→aB.wp C (.seq (.block 1 (.seq (.region aaQ) (.seq (.seq (.region aaR) (.cond (.tmp 29) (.region aaS) .skip)) (.seq (.seq (.region KM) (.cond (.tmp 40) (.region KN) .skip)) (.seq (.region BA) (.region BB)))))) (.region BC)) K F H0:=by
  intro hle K hK F hF
  have g0:F 0=some (aJ a):=hF 0 _ (by unfold tA; simp only[go_sem,reduceCtorEq])
  have g1:F 1=some (aJ b):=hF 1 _ (by unfold tA; simp only[go_sem,γ,reduceCtorEq])
  have g5:F 5=some v:=hF 5 _ (by unfold tA; simp only[go_sem,γ,reduceCtorEq])
  have g6:F 6=some (.int .u64 c):=hF 6 _ (by unfold tA; simp only[go_sem,γ,reduceCtorEq])
  have g7:F 7=some (.int .i64 P.length):=hF 7 _ (by unfold tA; simp only[go_sem,γ,reduceCtorEq])
  have fin:∀ F':PF,F' 0=some (aJ a)→F' 1=some (aJ b)→F' 5=some v→F' 7=some (.int .i64 P.length)→F' 8=some (.int .u64 (c+x+y:Nat)) →
    aB.wp C (.seq (.region BA) (.region BB)) (dP 1 (jC C (aB.wp C (.region BC)) K)) F' H0:=by
   intro F' q0 q1 q5 q7 q8
   have hb1:(1:Nat)*1≤16777216:=by decide
   generalize ht:c+x+y=t at *
   have htt:t<2*4294967296:=by omega
   simp only[go_sem,υ,γ,η,ζ,BA,q5,q8,hb1,cF]
   refine dC (src:=[[.int .u32 ((t%4294967296:Nat):Int)]]) hO rfl (pQ Om) fun v' H' hO' _=>?_
   rw[pR] at hO'
   simp only[go_sem,γ,BB,q8,wU,BC,q7,cY (Om:P.length<9223372036854775807)]
   refine hK (P++[t%4294967296]) (t/4294967296) v' _ H' (by simp) (bJR.app fun y hy=>by simp at hy; subst hy; omega) Om ?_ ?_ ?_ hO'
   ·rcases bLS P.length (max a.length b.length) with h | h
    ·exact .inl h
    ·right
     have h1:=hxa Om
     have h2:=hyb Om
     omega
   ·rw[jK,bLC,bLH,hta,htb,bMR,bLV,bND,← bLM]
    rw[show t%4294967296+4294967296*(t/4294967296)=t from Nat.mod_add_div t 4294967296]
    have h3:4294967296 ^ P.length*t=4294967296 ^ P.length*c+4294967296 ^ P.length*x+4294967296 ^ P.length*y:=by rw[← ht,bLM,bLM]
    omega
   ·unfold tA
    rw[bLC,bLH]
    exact Lq
  simp only[aB.wp,go_sem] at fin
  simp only[go_sem,γ,reduceCtorEq,aaQ,g6,aaR,g7,g0]
  by_cases c1:P.length<a.length
  ·have c1':(P.length:Int)<(a.length:Nat):=by omega
   simp only[go_sem,γ,reduceCtorEq,c1',aaS,g0,g7,hra c1,ex,e1,KM,g1]
   by_cases c2:P.length<b.length
   ·have c2':(P.length:Int)<(b.length:Nat):=by omega
    simp only[go_sem,γ,c2',KN,g1,g7,hrb c2,ey,e2]
    exact fin _ (by simp only[go_sem,reduceCtorEq,g0]) (by simp only[go_sem,γ,g1]) (by simp only[go_sem,γ,g5]) (by simp only[go_sem,γ,g7]) rfl
   ·have c2':¬ (P.length:Int)<(b.length:Nat):=by omega
    have h0:=hyb c2
    simp only[go_sem,c2']
    exact fin _ (by simp only[go_sem,reduceCtorEq,g0]) (by simp only[go_sem,γ,g1]) (by simp only[go_sem,γ,g5]) (by simp only[go_sem,γ,g7]) (by simp only[go_sem,γ,h0])
  ·have c1':¬ (P.length:Int)<(a.length:Nat):=by omega
   have h0:=hxa c1
   simp only[go_sem,γ,c1',KM,g1,g7]
   by_cases c2:P.length<b.length
   ·have c2':(P.length:Int)<(b.length:Nat):=by omega
    have e2':IntKind.u64.wrap ((c:Int)+(y:Int))=((c+x+y:Nat):Int):=by rw[h0]; exact eX Om
    simp only[go_sem,γ,c2',KN,g1,g7,hrb c2,ey,e2']
    exact fin _ (by simp only[go_sem,reduceCtorEq,g0]) (by simp only[go_sem,γ,g1]) (by simp only[go_sem,γ,g5]) (by simp only[go_sem,γ,g7]) rfl
   ·have c2':¬ (P.length:Int)<(b.length:Nat):=by omega
    have h0':=hyb c2
    simp only[go_sem,c2']
    exact fin _ (by simp only[go_sem,reduceCtorEq,g0]) (by simp only[go_sem,γ,g1]) (by simp only[go_sem,γ,g5]) (by simp only[go_sem,γ,g7]) (by simp only[go_sem,γ,h0,h0'])
 simp only[aB.wp,go_sem] at body
 have hexit:¬ P.length<a.length→¬ P.length<b.length→c=0→∀ F:PF,F 5=some v→aB.wp C (.seq (.region RL) .ret) (aS [.tmp 4] (bQ (aJ (aI (val a+val b))))) F H0:=by
  intro n1 n2 n3 F f5
  have hV:val P=val a+val b:=by
   rw[n3,bLQ Om,bLQ Om] at bJN
   omega
  have hs:=L.trim _ bJR Om
  rw[hV] at hs
  simp only[go_sem,RL,f5]
  refine tD hs hO rfl fun F1 H1 _=>?_
  simp only[go_sem]
  exact aV (.inr rfl) .nil rfl PH.nil_le ⟨.refl _,rfl⟩
 simp only[aB.wp,go_sem] at hexit
 simp only[go_sem,γ,reduceCtorEq,axH,aQV,tA]
 by_cases c1:P.length<a.length
 ·have c1':(P.length:Int)<(a.length:Nat):=by omega
  simp only[go_sem,γ,reduceCtorEq,c1']
  refine body Om _ ?_ _ (by unfold tA; exact Lq)
  intro P' c' v' F2 H2 e1 e2 e3 e4 e5 e6 e7
  rw[← e1] at e5 e4
  exact aE (α:=List Nat × Nat × PV × PH) (P',c',v',H2) ⟨by simp only; omega,e4,e2,e3,e5,e7⟩ (by simp only; omega) e6 PH.le_refl
 ·have c1':¬ (P.length:Int)<(a.length:Nat):=by omega
  simp only[go_sem,γ,reduceCtorEq,c1']
  by_cases c2:P.length<b.length
  ·have c2':(P.length:Int)<(b.length:Nat):=by omega
   simp only[go_sem,γ,reduceCtorEq,c2']
   refine body Om _ ?_ _ (by unfold tA; exact Lq)
   intro P' c' v' F2 H2 e1 e2 e3 e4 e5 e6 e7
   rw[← e1] at e5 e4
   exact aE (α:=List Nat × Nat × PV × PH) (P',c',v',H2) ⟨by simp only; omega,e4,e2,e3,e5,e7⟩ (by simp only; omega) e6 PH.le_refl
  ·have c2':¬ (P.length:Int)<(b.length:Nat):=by omega
   simp only[go_sem,γ,reduceCtorEq,c2']
   by_cases c3:c=0
   ·have c3':¬ (c:Int)>0:=by omega
    simp only[go_sem,c3']
    exact hexit c1 c2 c3 _ rfl
   ·have c3':(c:Int)>0:=by omega
    simp only[go_sem,c3']
    refine body Om _ ?_ _ (by unfold tA; exact Lq)
    intro P' c' v' F2 H2 e1 e2 e3 e4 e5 e6 e7
    rw[← e1] at e5 e4
    exact aE (α:=List Nat × Nat × PV × PH) (P',c',v',H2) ⟨by simp only; omega,e4,e2,e3,e5,e7⟩ (by simp only; omega) e6 PH.le_refl
structure abQ (C:Ctx):Prop extends aBV C where
 plus:∀ a b,Lim a→Lim b→a.length≤8388608→b.length≤8388608→aH C 43 [aJ a,aJ b] .nil (aF (aJ (aI (val a+val b))))
theorem bvZ {C:Ctx} (L:abQ C) (a b:List Nat) (ha:Lim a) (hb:Lim b) (la:a.length≤35184372087808) (lb:b.length≤35184372087808) :
  QZ.wp C (aS bbF.res (bQ (opV (dQ (val a) (val b)) (val a+val b)))) (PF.args [aJ a,aJ b]) .nil:=by
 unfold opV
 simp only[go_sem,reduceCtorEq,QZ,a2B,a2C,bbF]
 refine aA (L.large a ha la) rfl ?_
 by_cases c1:nl (val a)>512
 ·simp only[go_sem,γ,c1,aoD]
  rw[if_pos (by simp[dQ,c1])]
  exact eK rfl
 simp only[go_sem,γ,c1]
 refine aA (L.large b hb lb) rfl ?_
 by_cases c2:nl (val b)>512
 ·simp only[go_sem,γ,reduceCtorEq,c2,aoD]
  rw[if_pos (by simp[dQ,c2])]
  exact eK rfl
 rw[if_neg (by simp[dQ,c1,c2])]
 simp only[go_sem,γ,reduceCtorEq,c2,a2D]
 refine aA (L.trim a ha la) rfl ?_
 simp only[go_sem,γ]
 refine aA (L.trim b hb lb) rfl ?_
 simp only[go_sem]
 have ht:=L.plus (aI (val a)) (aI (val b)) (aU _) (aU _) (by rw[bA]; omega) (by rw[bA]; omega)
 rw[aR,aR] at ht
 refine aA ht rfl ?_
 have n1:=aKO (a:=val a) (b:=val b) (m:=512) Om Om
 have hl:=L.large (aI (val a+val b)) (aU _) (by rw[bA]; omega)
 rw[aR] at hl
 simp only[go_sem,γ,a2E]
 refine aA hl rfl ?_
 unfold szV szL szE
 by_cases c3:nl (val a+val b)>512
 ·rw[if_pos c3,if_pos c3]
  simp only[go_sem,γ,c3,a2F]
  exact eK rfl
 ·rw[if_neg c3,if_neg c3]
  simp only[go_sem,γ,c3,a2G]
  exact aV (.inr rfl) .nil rfl PH.nil_le ⟨.refl _,rfl⟩
theorem bwL {C:Ctx} (L:abQ C) (a b:List Nat) (ha:Lim a) (hb:Lim b) (la:a.length≤35184372087808) (lb:b.length≤35184372087808) :
  RN.wp C (aS bbP.res (bQ (qZ (val a) (val b)))) (PF.args [aJ a,aJ b]) .nil:=by
 unfold qZ
 simp only[go_sem,reduceCtorEq,RN,a3L,a3M,bbP]
 refine aA (L.large a ha la) rfl ?_
 by_cases c1:nl (val a)>512
 ·simp only[go_sem,γ,c1,aoH]
  rw[if_pos (by simp[dQ,c1])]
  exact eK rfl
 simp only[go_sem,γ,c1]
 refine aA (L.large b hb lb) rfl ?_
 by_cases c2:nl (val b)>512
 ·simp only[go_sem,γ,reduceCtorEq,c2,aoH]
  rw[if_pos (by simp[dQ,c2])]
  exact eK rfl
 rw[if_neg (by simp[dQ,c1,c2])]
 simp only[go_sem,γ,reduceCtorEq,c2,a3N]
 refine aA (L.cmp a b ha hb la lb) rfl ?_
 by_cases c3:val a<val b
 ·have:dD (val a) (val b)=-1:=by simp[dD,c3]
  rw[if_pos c3]
  simp only[go_sem,ο,γ,this,show ((-1:Int)<0) by decide,a3O]
  exact eK rfl
 ·have:¬ dD (val a) (val b)<0:=by
   unfold dD
   rw[if_neg c3]
   split<;>decide
  rw[if_neg c3]
  have n1:=fP (Nat.sub_le (val a) (val b))
  have n2:=fP (Om:val b≤val a)
  simp only[go_sem,γ,reduceCtorEq,this,a3P]
  refine aA (L.trim a ha la) rfl ?_
  simp only[go_sem,γ]
  refine aA (L.trim b hb lb) rfl ?_
  simp only[go_sem]
  have ht:=L.minus (aI (val a)) (aI (val b)) (aU _) (aU _) (by rw[aR,aR]; omega) (by rw[bA,bA]; exact n2) (by rw[bA]; omega)
  rw[aR,aR] at ht
  refine aA ht rfl ?_
  rw[zD Om]
  simp only[go_sem,γ]
  exact aV (.inr rfl) .nil rfl PH.nil_le ⟨.refl _,rfl⟩
def aPP (k:Nat) (v:Nat):PF:=((PF.nil.set 3 (.int .i64 k)).set 4 (.int .u32 v))
theorem bpW {C:Ctx} (L:pI C) (xs:List Nat) (hx:Lim xs) (lx:xs.length≤35184372087808) :
  KC.wp C (aS aAU.res (aF (.int .i64 (cG (val xs):Nat)))) (PF.args [aJ xs]) .nil:=by
 simp only[go_sem,reduceCtorEq,KC,aPR,aPS,aAU]
 refine aA (L.trim xs hx lx) rfl ?_
 have bx:=fI hx
 simp only[go_sem,γ,reduceCtorEq,aPT,bKY,bA,AZ]
 by_cases c1:nl (val xs)=0
 ·simp only[go_sem,decide_eq_true c1,aPU]
  refine aM (.inr rfl) rfl ?_
  have:val xs=0:=iH.1 c1
  simp[bF,this,jN]
 obtain⟨n,hn⟩:∃ n,nl (val xs)=n+1:=⟨nl (val xs)-1,by omega⟩
 obtain⟨t,ht,ht0⟩:=aOK (xs:=aI (val xs)) (aU _) (by rw[aR]; exact hn)
 have htl:t<4294967296:=aU _ t (bNO ht)
 have hv:val xs=val ((aI (val xs)).take n)+4294967296 ^ n*t:=by
  have:=aR (val xs)
  have hnl:n<(aI (val xs)).length:=by rw[bA]; omega
  have hg:(aI (val xs))[n]=t:=by rw[bLL hnl] at ht; exact bNI.inj ht
  conv=>lhs; rw[← this,← bLQ (l:=aI (val xs)) (i:=n+1) (by rw[bA]; omega)]
  rw[cB _ hnl,hg]
 have hb:cG (val xs)=32*n+cG t:=by
  have h3:=eW ((aU (val xs)).take n)
  rw[bLR,bA,bNB Om] at h3
  have hk:=aCH (lo:=val ((aI (val xs)).take n)) (k:=32*n) (hi:=t) (by rw[Nat.pow_mul]; exact h3) ht0
  rw[← hk,Nat.pow_mul]
  exact congrArg cG hv
 have bJH:(aK (aI (val xs)))[n]?=some [.int .u32 (t:Nat)]:=by
  simp[aK,ht]
 have e1:IntKind.i64.wrap (((nl (val xs):Nat):Int)-1)=(n:Int):=by rw[wrap_i64 Om Om]; omega
 have e2:IntKind.i64.wrap (32*(n:Int))=((32*n:Nat):Int):=by rw[wrap_i64 Om Om]; omega
 simp only[go_sem,γ,reduceCtorEq,decide_eq_false c1,aPV,aPW,bKY,bA,e1,e2,bJH]
 refine wp_loop (α:=Nat × Nat) (fun a=>aPP a.1 a.2) (fun _=>.nil) (fun a=>a.1+cG a.2=32*n+cG t∧a.2<4294967296) (fun a=>a.2) (32*n,t) ⟨rfl,htl⟩ ?_ PH.nil_le ?_
 ·unfold aPP
  exact Lq
 rintro⟨k,v⟩ ⟨hk,hlt⟩
 simp only at hk hlt
 have hk32:cG t≤32:=(lN t 32).2 htl
 simp only[go_sem,γ,aPQ,aPX,aPP]
 by_cases c2:(v:Int)>0
 ·have hv0:v≠0:=by omega
  have hsh:IntKind.u32.wrap (Int.tdiv (v:Int) 2)=((v/2:Nat):Int):=by
   rw[show Int.tdiv (v:Int) 2=((v/2:Nat):Int) from Int.ofNat_tdiv v 2,cF,bMG Om]
  simp only[go_sem,μ,γ,c2,aPY,aPZ,hsh,ws k]
  refine aE (k+1,v/2) ⟨?_,?_⟩ (Nat.div_lt_self Om (by decide)) ?_ PH.nil_le
  ·have:=oU hv0
   simp only; omega
  ·simp only; omega
  ·exact Lq
 ·have:v=0:=by omega
  subst this
  simp only[go_sem,γ,c2,awU]
  refine aM (.inr rfl) rfl ?_
  rw[jN] at hk
  simp only[bF,PV.int.injEq,true_and]
  omega
theorem asI (n:Nat):4294967296 ^ (n/32)*2 ^ (n%32)=2 ^ n:=by
 rw[show (4294967296:Nat)=2 ^ 32 by decide,← Nat.pow_mul,← Nat.pow_add]
 congr 1
 omega
theorem biJ (n:Nat):IntKind.i64.wrap (Int.tdiv (n:Int) 32)=IntKind.i64.wrap ((n/32:Nat):Int):=by
 rw[show Int.tdiv (n:Int) 32=((n/32:Nat):Int) from Int.ofNat_tdiv n 32]
theorem biO (n:Nat):Int.tmod (n:Int) 32=((n%32:Nat):Int):=Int.ofNat_tmod n 32
def bqN (a:List Nat) (n:Nat) (v:PV) (c i:Nat):PF:=(((((PF.nil.set 0 (aJ a)).set 1 (.int .i64 n)).set 5 (v)).set 6 (.int .u64 c)).set 7 (.int .i64 i))
theorem bzF {C:Ctx} (L:pI C) (a:List Nat) (n:Nat) (ha:Lim a) (h1:a.length≤8388608) (hn:n≤8388608) (h0:a.length=0→val a=0) :
  aaU.wp C (aS uup.res (mN 1 (aK (aI (val a*2 ^ n))))) (PF.args [aJ a,.int .i64 n]) .nil:=by
 simp only[go_sem,γ,reduceCtorEq,aaU,bjH,bjI,uup,bKY,AZ]
 by_cases c0:a.length=0
 ·simp only[go_sem,decide_eq_true c0,bjJ]
  rw[h0 c0,Nat.zero_mul,fL]
  exact FF (.inr rfl) rfl
 have ez:IntKind.i64.wrap (Int.tdiv (n:Int) 32)=((n/32:Nat):Int):=by rw[biJ,aaV Om]
 have em:=biO n
 have eu:IntKind.u64.wrap ((n%32:Nat):Int)=((n%32:Nat):Int):=bH Om
 have hsp:=asI n
 have hs:n%32<32:=bMJ _ (by decide)
 have hz:n/32≤8388608:=by omega
 generalize hzz:n/32=z at *
 generalize hss:n%32=s at *
 have hm1:((z:Nat):Int)*((4:Nat):Int)≤140737488355328:=by omega
 have hm2:((z:Nat):Int)≤9223372036854775807:=by omega
 have hzr:bLD z [PV.int .u32 0]=aK (bLD z 0):=by
  simp[aK]
 have h2s:2 ^ s≤2147483648:=Nat.pow_le_pow_right (show 0<2 by decide) (Om:s≤31)
 have h2s0:0<2 ^ s:=bNN (by decide)
 simp only[go_sem,μ,γ,decide_eq_false c0,bjK,ez,hm1,hm2,hzr]
 refine aN fun o ho=>?_
 simp only[go_sem,γ,bjL,bjM]
 refine wp_loop (α:=List Nat × Nat × Nat × PV × PH) (fun t=>bqN a n t.2.2.2.1 t.2.1 t.2.2.1) (fun t=>t.2.2.2.2)
  (fun t=>t.2.2.1≤a.length∧t.1.length=z+t.2.2.1∧Lim t.1∧t.2.1<2 ^ s∧val t.1+4294967296 ^ t.1.length*t.2.1=val (a.take t.2.2.1)*2 ^ n∧aY t.2.2.2.2 1 t.2.2.2.1 (aK t.1)) (fun t=>a.length-t.2.2.1) (bLD z 0,0,0,.osl o 1 0 z,PH.nil.set o (.rows 1 (aK (bLD z 0))))
  ⟨by simp,by simp,vD _,h2s0,by simp[val,rP],.inr ⟨o,aK (bLD z 0),by rw[bW,List.length_replicate],by simp only[go_sem],by rw[bW]; exact bLG _,bLZ⟩⟩ ?_ PH.le_refl ?_
 ·unfold bqN
  exact Lq
 rintro⟨P,c,i,v,H0⟩ ⟨hi,hP,bJR,hc,bJN,hO⟩
 simp only at hi hP bJR hc bJN hO ⊢
 simp only[go_sem,γ,reduceCtorEq,a3Q,bjN,bqN]
 by_cases c1:i<a.length
 ·have c1':(i:Int)<(a.length:Nat):=by omega
  have hai:=ha _ (bLF c1)
  have hta:=cB a c1
  have hax:=bP a c1
  generalize hx:a[i]=x at *
  have hxs:x*2 ^ s≤4294967295*2147483648:=Nat.mul_le_mul Om h2s
  have ex:IntKind.u64.wrap ((x:Nat):Int)=((x:Nat):Int):=bH Om
  have hxs':2 ^ s*x=x*2 ^ s:=bLY _ _
  have esh:shift .shl .u64 (x:Int) (s:Int)=some (.int .u64 ((2 ^ s*x:Nat):Int)):=JH Om Om
  have eor:=orI (a:=2 ^ s*x) (b:=c) (n:=c+2 ^ s*x) Om Om (by rw[Nat.or_comm]; exact aLO hc Om) Om
  have hdig:(c+2 ^ s*x)/4294967296<2 ^ s:=by
   rw[bNR (by decide)]
   have:2 ^ s*(x+1)≤2 ^ s*4294967296:=bNF _ Om
   rw[bLM,Nat.mul_one] at this
   omega
  have hb1:(1:Nat)*1≤16777216:=by decide
  simp only[go_sem,μ,υ,γ,η,ζ,reduceCtorEq,c1',bjO,hax,ex,em,eu,esh,eor,bjP,cF,hb1]
  refine dC (src:=[[.int .u32 (((c+2 ^ s*x)%4294967296:Nat):Int)]]) hO rfl (pQ Om) fun v' H' hO' _=>?_
  rw[pR] at hO'
  simp only[go_sem,γ,reduceCtorEq,bjQ,wU,a3R,ws i]
  refine aE (P++[(c+2 ^ s*x)%4294967296],(c+2 ^ s*x)/4294967296,i+1,v',H') ⟨by simp only; omega,by simp; omega,bJR.app fun y hy=>by simp at hy; subst hy; exact bMJ _ (by decide),hdig,?_,hO'⟩ (by simp only; omega) ?_ PH.le_refl
  ·simp only
   have hp:4294967296 ^ P.length*(2 ^ s*x)=4294967296 ^ i*x*2 ^ n:=by
    rw[hP,Nat.pow_add,← hsp]
    rw[bLV,Nat.mul_left_comm (4294967296 ^ i),← bLV (4294967296 ^ z),bLY (4294967296 ^ z*2 ^ s),bLV,bLY x]
   rw[jK,bLC,bLH,bMR,bLV,bND,← bLM,Nat.mod_add_div,hta,bLM,bMB,← bND,bJN,hp]
  ·exact Lq
 ·have e:i=a.length:=by omega
  subst e
  have c1':¬ ((a.length:Nat):Int)<(a.length:Nat):=by omega
  have hb1:(1:Nat)*1≤16777216:=by decide
  have hV:val (P++[c])=val a*2 ^ n:=by
   rw[jK,bJN,bLZ]
  have hLc:Lim (P++[c]):=bJR.app fun x hx=>by simp at hx; omega
  have ec:IntKind.u32.wrap ((c:Nat):Int)=((c:Nat):Int):=by rw[cF,bMG Om]
  simp only[go_sem,υ,γ,η,ζ,reduceCtorEq,c1',a3S,ec,hb1]
  refine dC (src:=[[.int .u32 ((c:Nat):Int)]]) hO rfl (pQ Om) fun v' H' hO' _=>?_
  rw[pR] at hO'
  have hs:=L.trimM _ hLc (by simp; omega)
  rw[hV] at hs
  refine azT hs hO' rfl fun F1 H1 _ r H2 hr _=>?_
  simp only[go_sem]
  exact bhA (.inr rfl) hr rfl
def RC (a:List Nat) (n:Nat) (v:PV) (i:Nat):PF:=((((PF.nil.set 0 (aJ a)).set 1 (.int .i64 n)).set 5 (v)).set 6 (.int .i64 i))
theorem bqA {C:Ctx} (L:pI C) (a:List Nat) (n:Nat) (ha:Lim a) (h1:a.length≤8388608) (hn:n≤1000000000) :
  KG.wp C (aS aAV.res (bQ (aJ (aI (val a/2 ^ n))))) (PF.args [aJ a,.int .i64 n]) .nil:=by
 have ez:IntKind.i64.wrap (Int.tdiv (n:Int) 32)=((n/32:Nat):Int):=by rw[biJ,aaV Om]
 have em:=biO n
 have eu:IntKind.u64.wrap ((n%32:Nat):Int)=((n%32:Nat):Int):=bH Om
 have hsp:=asI n
 have hs:n%32<32:=bMJ _ (by decide)
 have hz:n/32≤1000000000:=by omega
 generalize hzz:n/32=z at *
 generalize hss:n%32=s at *
 simp only[go_sem,μ,γ,reduceCtorEq,KG,aQF,aQG,aAV,bKY,ez]
 by_cases c0:a.length≤z
 ·have c0':((z:Nat):Int)≥(a.length:Nat):=by omega
  have hq:val a/2 ^ n=0:=by
   refine bOC (Nat.lt_of_lt_of_le (eW ha) ?_)
   rw[← hsp]
   exact bNE (Nat.pow_le_pow_right (by decide) c0) (Nat.le_mul_of_pos_right _ (bNN (by decide)))
  simp only[go_sem,c0',aQH]
  rw[hq,fL]
  exact aV (vs:=[.bIU]) (.inr rfl) .nil rfl PH.nil_le ⟨.nil 1,rfl⟩
 have c0':¬ ((z:Nat):Int)≥(a.length:Nat):=by omega
 have hR:val a/2 ^ n=val (a.drop z)/2 ^ s:=by
  rw[uD ha Om,← hsp,Nat.div_div_eq_div_mul]
 have hLd:Lim (a.drop z):=ha.drop z
 simp only[go_sem,μ,γ,c0',aQI,aQJ,ez]
 refine wp_loop (α:=List Nat × PV × PH) (fun t=>RC a n t.2.1 (z+t.1.length)) (fun t=>t.2.2)
  (fun t=>z+t.1.length≤a.length∧t.1=dM t.1.length (val (a.drop z)/2 ^ s)∧aY t.2.2 1 t.2.1 (aK t.1)) (fun t=>a.length-t.1.length) ([],.bIU,.nil)
  ⟨by simp; omega,rfl,.nil⟩ ?_ PH.nil_le ?_
 ·unfold RC
  (repeat' (first|exact PF.nil_le|refine PF.aG ?_ ?_))<;>first|(simp only[go_sem,γ,reduceCtorEq,bNJ]<;>rfl)|rfl
 rintro⟨P,v,H0⟩ ⟨hP,hD,hO⟩
 simp only at hP hD hO ⊢
 simp only[go_sem,γ,reduceCtorEq,awV,aQK,RC]
 have hlimP:Lim P:=by rw[hD]; exact mK _ _
 by_cases c1:z+P.length<a.length
 ·have c1':((z+P.length:Nat):Int)<(a.length:Nat):=by omega
  have hai:=ha _ (bLF c1)
  have hax:=bP a c1
  have hkl:P.length≤(a.drop z).length:=by rw[bMY]; omega
  have hvd:=uD hLd hkl
  have hdrop:(a.drop z).drop P.length=a[z+P.length]::a.drop (z+P.length+1):=by
   rw[List.drop_drop,bMU c1]
  generalize hx:a[z+P.length]=x at *
  have ex:IntKind.u64.wrap ((x:Nat):Int)=((x:Nat):Int):=bH Om
  have hb1:(1:Nat)*1≤16777216:=by decide
  have ew:IntKind.i64.wrap (((z+P.length:Nat):Int)+1)=((z+P.length+1:Nat):Int):=cY Om
  have fin:∀ (t:Nat) (F:PF),t<18446744073709551616→val (a.drop z)/4294967296 ^ P.length%(4294967296*4294967296)=t→F 0=some (aJ a)→F 1=some (.int .i64 n)→F 5=some v→F 6=some (.int .i64 (z+P.length:Nat))→F 7=some (.int .u64 t) →
    ∀ K:bY,(∀ v' F2 H2,(RC a n v' (z+(P.length+1))).le F2→aY H2 1 v' (aK (P++[t/2 ^ s%4294967296]))→(P++[t/2 ^ s%4294967296])=dM (P.length+1) (val (a.drop z)/2 ^ s)→K .normal F2 H2) →
    aB.wp C (.region aaP) (dP 1 (jC C (aB.wp C (.region RD)) K)) F H0:=by
   intro t F ht hte f0 f1 f5 f6 f7 K hK
   have esh:shift .shr .u64 (t:Int) (s:Int)=some (.int .u64 ((t/2 ^ s:Nat):Int)):=bzA Om
   simp only[go_sem,μ,υ,γ,η,ζ,aaP,f5,f7,f1,em,eu,esh,cF,hb1]
   refine dC (src:=[[.int .u32 ((t/2 ^ s%4294967296:Nat):Int)]]) hO rfl (pQ Om) fun v' H' hO' _=>?_
   rw[pR] at hO'
   simp only[go_sem,γ,RD,f6,ew]
   refine hK v' _ H' ?_ hO' ?_
   ·unfold RC
    exact Lq
   ·rw[uX,← hD]
    congr 2
    have e:val (a.drop z)/4294967296 ^ P.length=t%4294967296+4294967296*(t/4294967296+4294967296*(val (a.drop z)/4294967296 ^ P.length/(4294967296*4294967296))):=by
     have:=Nat.mod_add_div (val (a.drop z)/4294967296 ^ P.length) (4294967296*4294967296)
     rw[hte] at this
     have h2:=Nat.mod_add_div t 4294967296
     rw[bLM,← bND,h2,← bLV]
     exact this.symm
    have:=VU hs e
    rw[this]
    congr 2
    have h2:=Nat.mod_add_div t 4294967296
    omega
  simp only[aB.wp,go_sem] at fin
  simp only[go_sem,γ,reduceCtorEq,c1',aQL,hax,ex,aQM,ew]
  by_cases c2:z+P.length+1<a.length
  ·have c2':((z+P.length+1:Nat):Int)<(a.length:Nat):=by omega
   have hai2:=ha _ (bLF c2)
   have hax2:=bP a c2
   rw[bMU c2] at hdrop
   generalize hy:a[z+P.length+1]=y at *
   have ey:IntKind.u64.wrap ((y:Nat):Int)=((y:Nat):Int):=bH Om
   have esh:shift .shl .u64 (y:Int) ((32:Nat):Int)=some (.int .u64 ((2 ^ 32*y:Nat):Int)):=JH (by decide) Om
   have eor:=orI (a:=x) (b:=2 ^ 32*y) (n:=x+2 ^ 32*y) Om Om (aLO Om Om) Om
   simp only[go_sem,γ,reduceCtorEq,c2',aQN,ew,hax2,ey,show shift .shl .u64 (y:Int) 32=_ from esh,eor]
   refine fin (x+2 ^ 32*y) _ Om ?_ rfl rfl rfl rfl rfl _ ?_
   ·rw[← hvd,hdrop]
    simp only[val]
    omega
   ·intro v' F2 H2 e1 e2 e3
    refine aE (α:=List Nat × PV × PH) (P++[(x+2 ^ 32*y)/2 ^ s%4294967296],v',H2) ⟨by simp; omega,by simpa using e3,e2⟩ (by simp; omega) ?_ PH.le_refl
    simp only[bLC,bLH]
    exact e1
  ·have c2':¬ ((z+P.length+1:Nat):Int)<(a.length:Nat):=by omega
   rw[bOG (l:=a) (i:=z+P.length+1) Om] at hdrop
   simp only[go_sem,c2']
   refine fin x _ Om ?_ rfl rfl rfl rfl rfl _ ?_
   ·rw[← hvd,hdrop]
    simp only[val]
    omega
   ·intro v' F2 H2 e1 e2 e3
    refine aE (α:=List Nat × PV × PH) (P++[x/2 ^ s%4294967296],v',H2) ⟨by simp; omega,by simpa using e3,e2⟩ (by simp; omega) ?_ PH.le_refl
    simp only[bLC,bLH]
    exact e1
 ·have e:z+P.length=a.length:=by omega
  have c1':¬ ((z+P.length:Nat):Int)<(a.length:Nat):=by omega
  have hV:val P=val (a.drop z)/2 ^ s:=by
   rw[hD]
   refine oG (Nat.lt_of_le_of_lt (bNY _ _) ?_)
   have:=eW hLd
   rw[bMY] at this
   rw[show P.length=a.length-z by omega]
   exact this
  have hs:=L.trim _ hlimP Om
  rw[hV,← hR] at hs
  simp only[go_sem,γ,reduceCtorEq,c1',awW]
  refine tD hs hO rfl fun F1 H1 _=>?_
  simp only[go_sem]
  exact aV (.inr rfl) .nil rfl PH.nil_le ⟨.refl _,rfl⟩
structure MT (C:Ctx):Prop extends abQ C where
 bits:∀ xs,Lim xs→xs.length≤35184372087808→aH C 31 [aJ xs] .nil (aF (.int .i64 (cG (val xs):Nat)))
 upM:∀ (a:List Nat) (n:Nat),Lim a→a.length≤8388608→n≤8388608→(a.length=0→val a=0)→aH C 45 [aJ a,.int .i64 n] .nil (mN 1 (aK (aI (val a*2 ^ n))))
 down:∀ (a:List Nat) (n:Nat),Lim a→a.length≤8388608→n≤1000000000→aH C 40 [aJ a,.int .i64 n] .nil (aF (aJ (aI (val a/2 ^ n))))
def udS:Spec:=fun name vs=>match name,vs with
 | 35,[.int _ v]=>some ([],fun _=>aF (aJ (aI v.toNat)))
 | 44,[x,y]=>some ([],fun _=>aF (aJ (aI (val (jE x)*val (jE y)))))
 | 32,[x,.osl q _ _ _]=>some ([q],fun H0 r H'=>H'=H0∧∀ xs,Lim xs→H0 q=some (.rows 1 (aK xs))→r=.int .i64 (dD (val (jE x)) (val xs)))
 | _,_=>none
theorem bpZ (v:Nat):udS 35 [.int .u64 v]=some ([],fun _=>aF (aJ (aI v))):=rfl
theorem biZ (x y:List Nat):udS 44 [aJ x,aJ y]=some ([],fun _=>aF (aJ (aI (val x*val y)))):=by
 show some ([],fun _=>aF (aJ (aI (val (jE (aJ x))*val (jE (aJ y))))))=_; rw[dZ,dZ]
theorem blA (q:Nat) (x L:List Nat):(PH.nil.set q (.rows 1 (aK L)))=(PH.nil.set q (.rows 1 (aK L)))∧∀ xs,Lim xs→(PH.nil.set q (.rows 1 (aK L))) q=some (.rows 1 (aK xs))→(PV.int .i64 (dD (val x) (val L)))=.int .i64 (dD (val (jE (aJ x))) (val xs)):=by
 refine⟨rfl,fun xs hx e=>?_⟩
 rw[iV] at e
 have:aK L=aK xs:=(cD.rows.inj (bNI.inj e)).2
 rw[OR this,dZ]
def duF (n o lx:Nat) (y:List Nat) (top oq lq:Nat) (k:Int):PF :=
 ((((((PF.nil.set 10 (.int .i64 n)).set 11 (.osl o 1 0 lx)).set 12 (aJ y)).set 13 (.int .u64 top)).set 14 (.osl oq 1 0 lq)).set 15 (.int .i64 k))
abbrev dR (X:List Nat) (Z:List (List PV)):List (List PV):=aK X++Z
theorem LD {X:List Nat} {Z:List (List PV)} {i:Nat} (h:i<X.length):(dR X Z)[i]?=some [.int .u32 ((X[i]:Nat):Int)]:=by
 rw[dR,bNV (by rw[bW]; exact h),bP X h]
theorem ayM {X:List Nat} {Z:List (List PV)} {i:Nat} (h:i<X.length) (v:Nat):(dR X Z).set i [.int .u32 (v:Int)]=dR (X.set i v) Z:=by
 rw[dR,List.set_append_left _ _ (by rw[bW]; exact h),fJ]
theorem ayL {X:List Nat} {Z:List (List PV)} {j m:Nat} (h:j+m≤X.length):((dR X Z).drop j).take m=aK ((X.drop j).take m):=by
 rw[dR,List.drop_append_of_le_length (by rw[bW]; omega),List.take_append_of_le_length (by rw[bMY,bW]; omega)]
 unfold aK
 rw[← List.map_drop,← List.map_take]
theorem bzE {C:Ctx} (L:MT C) (n o lx:Nat) (y:List Nat) (top oq lq j:Nat) (X:List Nat) (Z:List (List PV)) (hne:oq≠o) (hy:Lim y) (hX:Lim X) (hlx:X.length=lx) (hl:lx≤5000) (hj:j+(y.length+1)≤lx) (hy0:0<val y)
  (qv:cD) (g0:Nat) (hg:val ((X.drop j).take (y.length+1))/val y≤g0) (hg0:g0<4294967296) (K:bY) (F:PF) (H:PH) (hF:((duF n o lx y top oq lq j).set 17 (.int .u64 g0)).le F) (hH:((PH.nil.set o (.rows 1 (dR X Z))).set oq qv).le H)
  (hK:∀ F' H',((duF n o lx y top oq lq j).set 17 (.int .u64 (val ((X.drop j).take (y.length+1))/val y:Nat))).le F'→((PH.nil.set o (.rows 1 (dR X Z))).set oq qv).le H'→K .normal F' H') :
  aB.wp C (.block 4 (.loop uP)) K F H:=by
 have bJZ:¬ o=oq:=fun h=>hne h.symm
 have hWl:((X.drop j).take (y.length+1)).length=y.length+1:=by rw[bLR,bMY]; omega
 have hWL:Lim ((X.drop j).take (y.length+1)):=(hX.drop _).take _
 have hcut:=ayL (X:=X) (Z:=Z) (j:=j) (m:=y.length+1) Om
 have bKU:j+(y.length+1)≤(dR X Z).length:=by rw[dR,bLC,bW]; omega
 have hWn:aK ((X.drop j).take (y.length+1))≠[]:=fun h=>by
  have:=congrArg List.length h
  rw[bW,hWl] at this
  simp at this
 generalize hW:(X.drop j).take (y.length+1)=W at *
 generalize hqq:val W/val y=qq at *
 simp only[go_sem]
 refine wp_loop (α:=Nat) (fun g=>(duF n o lx y top oq lq j).set 17 (.int .u64 g)) (fun _=>(PH.nil.set o (.rows 1 (dR X Z))).set oq qv) (fun g=>qq≤g∧g<4294967296) (fun g=>g) g0 ⟨hg,hg0⟩ hF hH ?_
 rintro g ⟨hge,hlt⟩
 have e1:IntKind.i64.wrap ((j:Int)+((y.length:Nat):Int))=((j+y.length:Nat):Int):=gI Om
 have e2:IntKind.i64.wrap (((j+y.length:Nat):Int)+1)=((j+y.length+1:Nat):Int):=cY Om
 have b1:(j:Int)≤((j+y.length+1:Nat):Int):=by omega
 have b2:((j+y.length+1:Nat):Int)≤(lx:Nat):=by omega
 have b3:j+y.length+1-j=y.length+1:=by omega
 have mk:=L.make g Om
 have tm:=L.times y (aI g) hy (aU _) Om (by
  have h1:nl g≤1:=nL (by rw[Nat.pow_one]; exact hlt)
  rw[bA]; omega)
 rw[aR] at tm
 have hnt:(aI (val y*g)).length≤35184372087808:=by
  have h1:nl g≤1:=nL (by rw[Nat.pow_one]; exact hlt)
  have h2:=lH (a:=val y) (b:=g) (fI hy) h1
  rw[bA]; omega
 have cm:=L.cmp (aI (val y*g)) W (aU _) hWL hnt Om
 rw[aR] at cm
 simp only[go_sem,uP]
 refine bM .nil udS PH.nil_le ?_
 simp only[go_sem,γ,WI,duF]
 refine bE (bpZ g) mk Sq PH.nil_le ?_
 simp only[go_sem]
 have tS:=biZ y (aI g)
 rw[aR] at tS
 refine bE tS tm Sq PH.nil_le ?_
 simp only[go_sem,γ,reduceCtorEq,bKY,e1,e2,b1,b2,b3]
 refine zN (src:=aK W) ?_ ?_ (fun h=>absurd h hWn) fun _ o' ho'=>?_
 ·simp only[go_sem,bJZ,bKU,hcut]
 ·unfold roomFor
  rw[bW,hWl]
  simp only[maxLen]; omega
 refine⟨PH.nil_le,?_⟩
 rw[bW,hWl]
 have n1:¬ o'=oq:=(iU.1 ho').1
 refine blD (o:=o') (s:=1) (rs:=aK W) (vs:=[aJ (aI (val y*g)),.osl o' 1 0 (y.length+1)]) (v:=.int .i64 (dD (val y*g) (val W))) rfl (.int _ _) Sq ?_ ?_ ?_ Sq PH.nil_le ?_
 ·rw[bMI,bMI,bMZ,xO (by rw[bW,hWl]; exact bLG _),bLQ (by rw[bW,hWl]; exact bLG _)]
  exact cm
 ·have:=blA o' (aI (val y*g)) W
  rw[aR] at this
  exact this
 ·rintro r H' ⟨h1,h2⟩
  have:=h2 W hWL (by rw[iV])
  rw[dZ,aR] at this
  exact⟨this,h1⟩
 simp only[go_sem,γ]
 by_cases c:val W<val y*g
 ·have hc:dD (val y*g) (val W)=1:=by
   unfold dD
   rw[if_neg Om,if_pos c]
  have hq:qq<g:=by rw[← hqq]; exact (bNR hy0).2 (by rw[bLY]; exact c)
  have ew:IntKind.u64.wrap ((g:Int)-1)=((g-1:Nat):Int):=by rw[wrap_u64 Om Om]; omega
  simp only[go_sem,γ,hc,show (1:Int)>0 by decide,WJ,ew]
  refine aE (g-1) ⟨by omega,by omega⟩ Om ?_ ?_
  ·exact Lq
  ·refine PH.aG (PH.aG PH.nil_le ?_) ?_
   ·have n2:¬ o=o':=fun h=>by
     subst h
     rw[bB,if_neg bJZ,iV] at ho'
     cases ho'
    simp only[go_sem,n2,bJZ]
   ·have n3:¬ oq=o':=fun h=>n1 h.symm
    simp only[go_sem,n3]
 ·have hc:¬ dD (val y*g) (val W)>0:=by
   unfold dD
   rw[if_neg c]
   split<;>decide
  have hq:g=qq:=by
   have:g≤qq:=by rw[← hqq]; exact (Nat.le_div_iff_mul_le hy0).2 (by rw[bLY]; omega)
   omega
  simp only[go_sem,hc]
  refine hK _ _ ?_ ?_
  ·unfold duF
   (repeat' (first|exact PF.nil_le|refine PF.aG ?_ ?_))<;>first|(simp only[go_sem,γ,← hq]<;>rfl)|rfl
  ·refine PH.aG (PH.aG PH.nil_le ?_) ?_
   ·have n2:¬ o=o':=fun h=>by
     subst h
     rw[bB,if_neg bJZ,iV] at ho'
     cases ho'
    simp only[go_sem,n2,bJZ]
   ·have n3:¬ oq=o':=fun h=>n1 h.symm
    simp only[go_sem,n3]
theorem btX (R k:Nat) (h:k<nl R):∃ h':k<(aI R).length,(aI R)[k]=R/4294967296 ^ k%4294967296:=by
 have hl:k<(aI R).length:=by rw[bA]; exact h
 refine⟨hl,?_⟩
 have h1:=uD (aU R) (Nat.le_of_lt hl)
 rw[aR,bMU hl] at h1
 have h2:=aU R _ (bLF hl)
 simp only[val] at h1
 rw[← h1,Nat.add_mul_mod_self_left,bMG h2]
theorem bmW (R k:Nat) (h:nl R≤k):R/4294967296 ^ k%4294967296=0:=by
 rw[bOC ((jP R k).1 h)]
theorem bvQ {A P W Z:List Nat} {i:Nat} (hP:P.length=i) (hi:i<W.length) (v:Nat):(A++(P++W.drop i)++Z).set (A.length+i) v=A++((P++[v])++W.drop (i+1))++Z :=
 OR (by rw[← fJ]; exact FJ hP hi v)
theorem bBR {C:Ctx} (n o lx:Nat) (y:List Nat) (top oq lq j:Nat) (X:List Nat) (Z:List (List PV)) (hne:oq≠o) (hlx:X.length=lx) (hl:lx≤5000) (hj:j+(y.length+1)≤lx)
  (qv:cD) (g R:Nat) (K:bY) (F:PF) (H:PH) (hF:((((duF n o lx y top oq lq j).set 17 (.int .u64 g)).set 18 (aJ (aI R))).set 19 (.int .i64 0)).le F) (hH:((PH.nil.set o (.rows 1 (dR X Z))).set oq qv).le H)
  (hK:∀ F' H',((duF n o lx y top oq lq j).set 17 (.int .u64 g)).le F'→((PH.nil.set o (.rows 1 (dR (X.take j++dM (y.length+1) R++X.drop (j+(y.length+1))) Z))).set oq qv).le H'→K .normal F' H') :
  aB.wp C (.block 6 (.loop uQ)) K F H:=by
 have bJZ:¬ o=oq:=fun h=>hne h.symm
 have hA:(X.take j).length=j:=by rw[bLR]; omega
 have hWl:((X.drop j).take (y.length+1)).length=y.length+1:=by rw[bLR,bMY]; omega
 have hZl:(X.drop (j+(y.length+1))).length=lx-(j+(y.length+1)):=by rw[bMY,hlx]
 have hsplit:X.take j++(X.drop j).take (y.length+1)++X.drop (j+(y.length+1))=X:=by
  rw[bMA,← List.drop_drop,bNP,bNP]
 rw[← hsplit] at hH
 generalize hAA:X.take j=A at *
 generalize hWW:(X.drop j).take (y.length+1)=W at *
 generalize hZZ:X.drop (j+(y.length+1))=Zx at *
 simp only[go_sem]
 refine wp_loop (α:=List Nat) (fun P=>(((duF n o lx y top oq lq j).set 17 (.int .u64 g)).set 18 (aJ (aI R))).set 19 (.int .i64 P.length)) (fun P=>(PH.nil.set o (.rows 1 (dR (A++(P++W.drop P.length)++Zx) Z))).set oq qv)
  (fun P=>P.length≤y.length+1∧P=dM P.length R) (fun P=>y.length+1-P.length) [] ⟨bLE _,rfl⟩ hF (by simpa using hH) ?_
 rintro P ⟨hP,hD⟩
 simp only[go_sem,γ,uQ,WK,duF]
 by_cases c:P.length<y.length+1
 ·have c':(P.length:Int)≤(y.length:Nat):=by omega
  have ei:IntKind.i64.wrap ((j:Int)+(P.length:Int))=((j+P.length:Nat):Int):=gI Om
  have hlen:(A++(P++W.drop P.length)++Zx).length=lx:=by
   simp only[bLC,bMY]; omega
  have hi:j+P.length<(A++(P++W.drop P.length)++Zx).length:=by omega
  have b1:((j+P.length:Nat):Int)<(lx:Nat):=by omega
  have r1:=LD (Z:=Z) hi
  have s1:=ayM (Z:=Z) hi 0
  have hi2:j+P.length<((A++(P++W.drop P.length)++Zx).set (j+P.length) 0).length:=by rw[bNL]; exact hi
  have hput:=fun v=>bvQ (A:=A) (P:=P) (W:=W) (Z:=Zx) (i:=P.length) rfl Om v
  rw[hA] at hput
  generalize hXX:A++(P++W.drop P.length)++Zx=XX at *
  have r2:(dR (A++((P++[0])++W.drop (P.length+1))++Zx) Z)[j+P.length]?=some [.int .u32 ((0:Nat):Int)]:=by
   rw[← hput 0,LD hi2,List.getElem_set_self]
  have s2:∀ v,(dR (A++((P++[0])++W.drop (P.length+1))++Zx) Z).set (j+P.length) [.int .u32 ((v:Nat):Int)]=dR (A++((P++[v])++W.drop (P.length+1))++Zx) Z:=by
   intro v
   rw[← hput 0,ayM hi2,List.set_set,hput]
  have bJW:=uX P.length R
  rw[← hD] at bJW
  have ew:IntKind.i64.wrap ((P.length:Int)+1)=((P.length+1:Nat):Int):=cY Om
  simp only[go_sem,γ,c',WL,ei,b1,bJZ,r1,show ([PV.int .u32 (0:Int)])=[PV.int .u32 ((0:Nat):Int)] from rfl,s1,WM,bA]
  by_cases c2:P.length<nl R
  ·have c2':(P.length:Int)<(nl R:Nat):=by omega
   obtain⟨hl',hv⟩:=btX R P.length c2
   have hr:=bP (aI R) hl'
   rw[hv] at hr
   simp only[go_sem,γ,c2',WN,hr,ei,b1,bJZ,r2,s2,List.set_set,hput,DT,ew]
   refine aE (P++[R/4294967296 ^ P.length%4294967296]) ⟨by simp; omega,by rw[bLC,bLH]; exact bJW.symm⟩ (by simp; omega) ?_ ?_
   ·rw[bLC,bLH]
    exact Lq
   ·rw[bLC,bLH]
    refine PH.aG (PH.aG PH.nil_le ?_) ?_<;>simp only[go_sem,bJZ,show ¬ oq=o from hne]
  ·have c2':¬ (P.length:Int)<(nl R:Nat):=by omega
   have hv:=bmW R P.length Om
   rw[hv] at bJW
   simp only[go_sem,γ,c2',hput,DT,ew]
   refine aE (P++[0]) ⟨by simp; omega,by rw[bLC,bLH]; exact bJW.symm⟩ (by simp; omega) ?_ ?_
   ·rw[bLC,bLH]
    exact Lq
   ·rw[bLC,bLH]
    refine PH.aG (PH.aG PH.nil_le ?_) ?_<;>simp only[go_sem,bJZ,show ¬ oq=o from hne]
 ·have c':¬ (P.length:Int)≤(y.length:Nat):=by omega
  have e:P.length=y.length+1:=by omega
  simp only[go_sem,c']
  refine hK _ _ (by unfold duF; exact Lq) ?_
  have h2:A++dM (y.length+1) R++Zx=A++(P++W.drop P.length)++Zx:=by
   rw[bOG Om,bMP,← e,← hD]
  rw[h2]
  exact PH.le_refl
theorem bmJ {y W:List Nat} {m:Nat} (hy:Lim y) (hW:Lim W) (hly:y.length=m+1) (hlW:W.length=m+2) (ht:0<y[m]):val W/val y≤(4294967296*W[m+1]+W[m])/y[m]:=by
 have h1:=cB y (Om:m<y.length)
 rw[bLQ Om] at h1
 have h2:=cB W (Om:m+1<W.length)
 rw[bLQ Om,cB W (Om:m<W.length)] at h2
 have h3:=eW (hW.take m)
 rw[bLR,bNB Om] at h3
 have hp:0<4294967296 ^ m:=bNN (by decide)
 have hb:4294967296 ^ m*y[m]≤val y:=by omega
 have hpos:0<4294967296 ^ m*y[m]:=Nat.mul_pos hp ht
 have e:val W=val (W.take m)+4294967296 ^ m*(4294967296*W[m+1]+W[m]):=by
  rw[h2,bMR,bLM,bLV]; omega
 refine bNE (Nat.div_le_div_left hb hpos) ?_
 rw[← Nat.div_div_eq_div_mul,e,Nat.add_mul_div_left _ _ hp,bOC h3,bLX]
 exact bLG _
theorem bjA {C:Ctx} (L:MT C) (U0 n o lx lq oq m:Nat) (y z:List Nat) (hne:oq≠o) (hy:Lim y) (hly:y.length=m+1) (ht:0<y[m]) (hlu:lx=lq+(m+1)) (bKP:lx≤5000) (X:List Nat) (hI:oQ U0 (val y) (m+1) lx lq lq X (bLD lq 0)) (K:bY) (F:PF) (H:PH)
  (hF:(duF n o lx y (y[m]) oq lq ((lq:Int)-1)).le F) (hH:((PH.nil.set o (.rows 1 (dR X (aK z)))).set oq (.rows 1 (aK (bLD lq 0)))).le H)
  (hK:∀ X' Q' F' H',oQ U0 (val y) (m+1) lx lq 0 X' Q'→(duF n o lx y (y[m]) oq lq (-1)).le F'→((PH.nil.set o (.rows 1 (dR X' (aK z)))).set oq (.rows 1 (aK Q'))).le H'→K .normal F' H') :
  aB.wp C (.block 2 (.loop uR)) K F H:=by
 have bJZ:¬ o=oq:=fun h=>hne h.symm
 have hne2:¬ oq=o:=hne
 have hV:val y<4294967296 ^ (m+1):=by have:=eW hy; rw[hly] at this; exact this
 have hV0:0<val y:=by
  have h1:=cB y (Om:m<y.length)
  rw[bLQ Om] at h1
  have:0<4294967296 ^ m*y[m]:=Nat.mul_pos (bNN (by decide)) ht
  omega
 have htl:=hy _ (bLF (Om:m<y.length))
 generalize htop:y[m]=top at *
 simp only[go_sem]
 refine wp_loop (α:=Nat × List Nat × List Nat) (fun t=>duF n o lx y top oq lq ((t.1:Int)-1)) (fun t=>(PH.nil.set o (.rows 1 (dR t.2.1 (aK z)))).set oq (.rows 1 (aK t.2.2)))
  (fun t=>t.1≤lq∧oQ U0 (val y) (m+1) lx lq t.1 t.2.1 t.2.2) (fun t=>t.1) (lq,X,bLD lq 0) ⟨bLG _,hI⟩ hF hH ?_
 rintro⟨k,X,Q⟩ ⟨hk,hI⟩
 simp only at hk hI
 simp only[go_sem,γ,uR,WD,duF]
 by_cases h0:0<k
 ·obtain⟨j,rfl⟩:∃ j,k=j+1:=⟨k-1,by omega⟩
  have hz:((j+1:Nat):Int)-1=(j:Int):=by omega
  have hge:(j:Int)≥0:=by omega
  have dst:=aCP hI hV Om hlu
  rw[show m+1+1=m+2 from rfl] at dst
  obtain⟨hlt,hI'⟩:=dst
  have hXl:=hI.lu'
  have hQl:=hI.lq'
  have hWl:((X.drop j).take (m+2)).length=m+2:=by rw[bLR,bMY]; omega
  have hWL:Lim ((X.drop j).take (m+2)):=(hI.limU.drop _).take _
  have hg1:m+1<((X.drop j).take (m+2)).length:=by omega
  have hg0:m<((X.drop j).take (m+2)).length:=by omega
  have a1:j+(m+1)<X.length:=by omega
  have a0:j+m<X.length:=by omega
  have w1:((X.drop j).take (m+2))[m+1]=X[j+(m+1)]:=by simp
  have w0:((X.drop j).take (m+2))[m]=X[j+m]:=by simp
  have hgu:=bmJ hy hWL hly hWl (by rw[htop]; exact ht)
  rw[w1,w0,htop] at hgu
  have r1:=LD (Z:=aK z) a1
  have r0:=LD (Z:=aK z) a0
  have l1:=hI.limU _ (bLF a1)
  have l0:=hI.limU _ (bLF a0)
  generalize hx1:X[j+(m+1)]=x1 at *
  generalize hx0:X[j+m]=x0 at *
  have e1:IntKind.i64.wrap ((j:Int)+((y.length:Nat):Int))=((j+(m+1):Nat):Int):=by rw[hly]; exact gI Om
  have e0:IntKind.i64.wrap (((j+(m+1):Nat):Int)-1)=((j+m:Nat):Int):=by rw[wrap_i64 Om Om]; omega
  have b1:((j+(m+1):Nat):Int)<(lx:Nat):=by omega
  have b0:((j+m:Nat):Int)<(lx:Nat):=by omega
  have ex1:IntKind.u64.wrap ((x1:Nat):Int)=((x1:Nat):Int):=bH Om
  have ex0:IntKind.u64.wrap ((x0:Nat):Int)=((x0:Nat):Int):=bH Om
  have esh:shift .shl .u64 (x1:Int) 32=some (.int .u64 ((2 ^ 32*x1:Nat):Int)):=JH (s:=32) Om Om
  have e32:(2:Nat) ^ 32=4294967296:=by decide
  have eor:=orI (a:=2 ^ 32*x1) (b:=x0) (n:=2 ^ 32*x1+x0) Om Om (Nat.two_pow_add_eq_or_of_lt Om x1).symm Om
  rw[e32] at esh eor
  have hdd:¬ ((top:Nat):Int)=0:=by omega
  have hq64:(4294967296*x1+x0)/top<18446744073709551616:=Nat.lt_of_le_of_lt (bNY _ _) Om
  have equo:IntKind.u64.wrap (Int.tdiv ((4294967296*x1+x0:Nat):Int) ((top:Nat):Int))=(((4294967296*x1+x0)/top:Nat):Int):=by
   rw[show Int.tdiv ((4294967296*x1+x0:Nat):Int) ((top:Nat):Int)=(((4294967296*x1+x0)/top:Nat):Int) from rfl]
   exact bH hq64
  have hqB:val ((X.drop j).take (m+2))/val y<4294967296:=(bNR hV0).2 (by rw[bLY]; exact hlt)
  have hcut:=ayL (X:=X) (Z:=aK z) (j:=j) (m:=m+2) Om
  have bKU:j+(m+2)≤(dR X (aK z)).length:=by rw[dR,bLC,bW]; omega
  have hrest:val ((X.drop j).take (m+2))-val y*(val ((X.drop j).take (m+2))/val y)=val ((X.drop j).take (m+2))%val y:=by
   have:=bOB (val ((X.drop j).take (m+2))) (val y)
   omega
  have hmulle:val y*(val ((X.drop j).take (m+2))/val y)≤val ((X.drop j).take (m+2)):=Nat.mul_div_le _ _
  clear w1 w0
  have gu:=fun g0=>bzE (C:=C) L n o lx y top oq lq j X (aK z) hne hy hI.limU hXl bKP Om hV0 (.rows 1 (aK Q)) g0
  rw[hly,show m+1+1=m+2 from rfl] at gu
  generalize hW:(X.drop j).take (m+2)=W at *
  generalize hqq:val W/val y=qq at *
  have hWn:aK W≠[]:=fun h=>by
   have:=congrArg List.length h
   rw[bW,hWl] at this
   simp at this
  have tail:∀ (g0:Nat) (F:PF) (H:PH),qq≤g0→g0<4294967296→((duF n o lx y top oq lq j).set 17 (.int .u64 g0)).le F→((PH.nil.set o (.rows 1 (dR X (aK z)))).set oq (.rows 1 (aK Q))).le H →
    aB.wp C (.seq (.block 4 (.loop uP)) (.seq (.region DR) (.seq (.seq (.region DS) (.block 6 (.loop uQ))) (.region DU)))) (dP 3 (jC C (aB.wp C (.region DV)) (dV (fun (t:Nat × List Nat × List Nat)=>duF n o lx y top oq lq ((t.1:Int)-1)) (fun t=>(PH.nil.set o (.rows 1 (dR t.2.1 (aK z)))).set oq (.rows 1 (aK t.2.2))) (fun t=>t.1≤lq∧oQ U0 (val y) (m+1) lx lq t.1 t.2.1 t.2.2) (fun t=>t.1) (j+1) (dP 2 K)))) F H:=by
   intro g0 F H hg hgB hF hH
   have gu:=gu g0 hg hgB
   simp only[go_sem] at gu
   simp only[go_sem]
   refine gu _ F H hF hH ?_
   intro F1 H1 hF1 hH1
   have f11:F1 11=some (.osl o 1 0 lx):=hF1 11 _ (by unfold duF; simp only[go_sem,γ])
   have f12:F1 12=some (aJ y):=hF1 12 _ (by unfold duF; simp only[go_sem,γ])
   have f15:F1 15=some (.int .i64 j):=hF1 15 _ (by unfold duF; simp only[go_sem,γ])
   have f17:F1 17=some (.int .u64 (qq:Nat)):=hF1 17 _ (by unfold duF; simp only[go_sem,γ])
   have f10:F1 10=some (.int .i64 n):=hF1 10 _ (by unfold duF; simp only[go_sem,γ])
   have f13:F1 13=some (.int .u64 top):=hF1 13 _ (by unfold duF; simp only[go_sem,γ])
   have f14:F1 14=some (.osl oq 1 0 lq):=hF1 14 _ (by unfold duF; simp only[go_sem,γ])
   have ho:H1 o=some (.rows 1 (dR X (aK z))):=hH1 o _ (by simp only[go_sem,bJZ])
   have hoq:H1 oq=some (.rows 1 (aK Q)):=hH1 oq _ Sq
   have b3:(j:Int)≤((j+(m+1)+1:Nat):Int):=by omega
   have b4:((j+(m+1)+1:Nat):Int)≤(lx:Nat):=by omega
   have b5:j+(m+1)+1-j=m+2:=by omega
   have e2:IntKind.i64.wrap (((j+(m+1):Nat):Int)+1)=((j+(m+1)+1:Nat):Int):=cY Om
   simp only[go_sem,γ,reduceCtorEq,DR,f11,f15,f12,bKY,e1,e2,b3,b4,b5]
   refine zN (src:=aK W) ?_ ?_ (fun h=>absurd h hWn) fun _ o' ho'=>?_
   ·simp only[go_sem,ho,bKU,hcut]
   ·unfold roomFor
    rw[bW,hWl]
    simp only[maxLen]; omega
   rw[bW,hWl]
   have n1:¬ oq=o':=fun h=>by subst h; rw[hoq] at ho'; cases ho'
   have n2:¬ o=o':=fun h=>by subst h; rw[ho] at ho'; cases ho'
   have nq:nl qq≤1:=nL (by rw[Nat.pow_one]; exact hqB)
   have tm:=L.times y (aI qq) hy (aU _) Om (by rw[bA]; omega)
   rw[aR] at tm
   have nW:=fI hWL
   have mn:=L.minus W (aI (val y*qq)) hWL (aU _) (by rw[aR]; exact hmulle) (by rw[bA]; exact bNE (fP hmulle) nW) Om
   rw[aR,hrest] at mn
   have hWt:(aK W).take (m+2)=aK W:=bLQ (by rw[bW]; omega)
   simp only[go_sem,f17]
   refine aA (L.make qq Om) Sq ?_
   simp only[go_sem,f12]
   refine aA tm Sq ?_
   simp only[go_sem]
   refine qI (o:=o') (s:=1) (rs:=aK W) mn Sq (by simp only[go_sem,γ,show m+2≤W.length by omega,hWt]) ?_
   simp only[go_sem,γ,DS]
   have hfx:(dR X (aK z)).map (fun r=>r.map (PV.dN o' 1 (aK W)))=dR X (aK z):=by
    have:dR X (aK z)=aK (X++z):=by simp[dR,aK]
    rw[this]; exact rG _ _ _ _
   have hfq:(aK Q).map (fun r=>r.map (PV.dN o' 1 (aK W)))=aK Q:=rG _ _ _ _
   have ur:=bBR (C:=C) n o lx y top oq lq j X (aK z) hne hXl bKP Om (.rows 1 (aK Q)) qq (val W%val y)
   rw[hly,show m+1+1=m+2 from rfl] at ur
   simp only[go_sem] at ur
   refine ur _ _ _ ?_ ?_ ?_
   ·unfold duF
    (repeat' (first|exact PF.nil_le|refine PF.aG ?_ ?_))<;>first|(simp only[go_sem,γ,f10,f11,f12,f13,f14,f15,f17,n1,n2]<;>rfl)|rfl
   ·refine PH.aG (PH.aG PH.nil_le ?_) ?_
    ·simp only[go_sem,bJZ,n2,ho,cD.frz,hfx]
    ·simp only[go_sem,n1,hoq,cD.frz,hfq]
   intro F3 H3 hF3 hH3
   have k10:F3 10=some (.int .i64 n):=hF3 10 _ (by unfold duF; simp only[go_sem,γ])
   have k11:F3 11=some (.osl o 1 0 lx):=hF3 11 _ (by unfold duF; simp only[go_sem,γ])
   have k12:F3 12=some (aJ y):=hF3 12 _ (by unfold duF; simp only[go_sem,γ])
   have k13:F3 13=some (.int .u64 top):=hF3 13 _ (by unfold duF; simp only[go_sem,γ])
   have k14:F3 14=some (.osl oq 1 0 lq):=hF3 14 _ (by unfold duF; simp only[go_sem,γ])
   have k15:F3 15=some (.int .i64 j):=hF3 15 _ (by unfold duF; simp only[go_sem,γ])
   have k17:F3 17=some (.int .u64 qq):=hF3 17 _ (by unfold duF; simp only[go_sem,γ])
   have ho3:H3 o=some (.rows 1 (dR (X.take j++dM (m+2) (val W%val y)++X.drop (j+(m+2))) (aK z))):=hH3 o _ (by simp only[go_sem,bJZ])
   have hq3:H3 oq=some (.rows 1 (aK Q)):=hH3 oq _ Sq
   have hjq:j<Q.length:=by omega
   have rq:=bP Q hjq
   have hjl:(j:Int)<(lq:Nat):=by omega
   have sq:=fJ Q j qq
   have ec:IntKind.u32.wrap ((qq:Nat):Int)=((qq:Nat):Int):=by rw[cF,bMG hqB]
   have ej:IntKind.i64.wrap ((j:Int)-1)=(j:Int)-1:=wrap_i64 Om Om
   simp only[go_sem,γ,DU,k14,k15,k17,hjl,hq3,rq,ec,sq,DV,ej]
   refine aE (α:=Nat × List Nat × List Nat) (j,_,_) ⟨by simp only; omega,hI'⟩ (by simp only; omega) ?_ ?_
   ·unfold duF
    (repeat' (first|exact PF.nil_le|refine PF.aG ?_ ?_))<;>first|(simp only[go_sem,γ,k10,k11,k12,k13,k14]<;>rfl)|rfl
   ·refine PH.aG (PH.aG PH.nil_le ?_) ?_
    ·simp only[go_sem,bJZ,ho3]
    ·simp only[go_sem]
  simp only[aB.wp,go_sem] at tail
  simp only[go_sem,hz,hge]
  refine bM .nil dK PH.nil_le ?_
  simp only[go_sem,γ,reduceCtorEq,WE,e1,e0,b1,b0,bJZ,r1,r0,ex1,ex0,esh,eor,WF,hdd,equo,WG]
  by_cases c:(4294967296*x1+x0)/top>4294967295
  ·have c':(((4294967296*x1+x0)/top:Nat):Int)>4294967295:=by omega
   simp only[go_sem,c',WH]
   exact tail 4294967295 _ _ Om (by decide) (by unfold duF; exact Lq) PH.le_refl
  ·have c':¬ (((4294967296*x1+x0)/top:Nat):Int)>4294967295:=by omega
   simp only[go_sem,c']
   exact tail _ _ _ hgu Om (by unfold duF; exact Lq) PH.le_refl
 ·have:k=0:=by omega
  subst this
  have hz:¬ ((0:Nat):Int)-1≥0:=by decide
  simp only[go_sem,hz]
  refine hK X Q _ _ hI ?_ PH.le_refl
  unfold duF
  (repeat' (first|exact PF.nil_le|refine PF.aG ?_ ?_))<;>first|(simp only[go_sem,ο,γ,show ((0:Nat):Int)-1=-1 from rfl]<;>rfl)|rfl
def bpY (a:List Nat) (d q k r:Nat):PF:=(((((PF.nil.set 0 (aJ a)).set 1 (aJ [d])).set 6 (.osl q 1 0 a.length)).set 7 (.int .u64 r)).set 8 (.int .i64 ((k:Int)-1)))
theorem bbI {C:Ctx} (L:MT C) (a:List Nat) (d:Nat) (ha:Lim a) (hd0:0<d) (hd:d<4294967296) (h1:a.length≤1000) (F:PF) (f0:F 0=some (aJ a)) (f1:F 1=some (aJ [d])) :
  aB.wp C (.seq (.region KD) (.seq (.region KE) (.seq (.seq (.region KF) (.block 0 (.loop DL))) (.seq (.region DM) .ret)))) (aS [.tmp 4,.tmp 5] (bQ (pZ (val a) d))) F .nil:=by
 have hm1:((a.length:Nat):Int)*((4:Nat):Int)≤140737488355328:=by omega
 have hm2:((a.length:Nat):Int)≤9223372036854775807:=by omega
 have hz:bLD a.length [PV.int .u32 0]=aK (bLD a.length 0++[]):=by
  simp[aK]
 simp only[go_sem,γ,KD,f0,bKY,hm1,hm2,hz]
 refine aN fun o ho=>?_
 simp only[go_sem,γ,reduceCtorEq,KE,KF,f0,bKY]
 refine wp_loop (α:=Nat × List Nat × Nat) (fun t=>bpY a d o t.1 t.2.2) (fun t=>PH.nil.set o (.rows 1 (aK (bLD t.1 0++t.2.1))))
  (fun t=>t.1+t.2.1.length=a.length∧Lim t.2.1∧t.2.2<d∧val t.2.1*d+t.2.2=val (a.drop t.1)) (fun t=>t.1) (a.length,[],0) ⟨by simp,by simp[Lim],hd0,by simp[val]⟩ ?_ ?_ ?_
 ·unfold bpY
  (repeat' (first|exact PF.nil_le|refine PF.aG ?_ ?_))<;>first|(simp only[go_sem,γ,reduceCtorEq,f0,f1,wrap_i64 (Om:-9223372036854775808≤((a.length:Nat):Int)-1) (Om:((a.length:Nat):Int)-1≤9223372036854775807)]<;>rfl)|rfl
 ·exact PH.aG PH.nil_le Sq
 rintro⟨k,S,r⟩ ⟨hk,bJR,hr,bJN⟩
 simp only at hk bJR hr bJN
 simp only[go_sem,γ,reduceCtorEq,DL,aiJ,bpY]
 by_cases h0:0<k
 ·obtain⟨m,rfl⟩:∃ m,k=m+1:=⟨k-1,by omega⟩
  have hzz:((m+1:Nat):Int)-1=(m:Int):=by omega
  have hge:(m:Int)≥0:=by omega
  have hml:m<a.length:=by omega
  have hlt:(m:Int)<(a.length:Nat):=by omega
  have hai:=ha _ (bLF hml)
  have hdrop:val (a.drop m)=a[m]+4294967296*val (a.drop (m+1)):=by rw[bMU hml]; rfl
  have hax:=bP a hml
  generalize hx:a[m]=x at *
  have ex:IntKind.u64.wrap ((x:Nat):Int)=((x:Nat):Int):=bH Om
  have ed:IntKind.u64.wrap ((d:Nat):Int)=((d:Nat):Int):=bH Om
  have esh:shift .shl .u64 (r:Int) 32=some (.int .u64 ((2 ^ 32*r:Nat):Int)):=JH (s:=32) Om Om
  have e32:(2:Nat) ^ 32=4294967296:=by decide
  have eor:=orI (a:=2 ^ 32*r) (b:=x) (n:=2 ^ 32*r+x) Om Om (Nat.two_pow_add_eq_or_of_lt Om r).symm Om
  rw[e32] at esh eor
  have hq:(4294967296*r+x)/d<4294967296:=by
   rw[bNR hd0]
   have:4294967296*(r+1)≤4294967296*d:=bNF _ hr
   omega
  have hdd:¬ ((d:Nat):Int)=0:=by omega
  have equo:IntKind.u64.wrap (Int.tdiv ((4294967296*r+x:Nat):Int) ((d:Nat):Int))=(((4294967296*r+x)/d:Nat):Int):=by
   rw[show Int.tdiv ((4294967296*r+x:Nat):Int) ((d:Nat):Int)=(((4294967296*r+x)/d:Nat):Int) from rfl]
   exact bH Om
  have erem:Int.tmod ((4294967296*r+x:Nat):Int) ((d:Nat):Int)=(((4294967296*r+x)%d:Nat):Int):=rfl
  have ec:IntKind.u32.wrap (((4294967296*r+x)/d:Nat):Int)=(((4294967296*r+x)/d:Nat):Int):=by rw[cF,bMG hq]
  have bKT:bLD (m+1) 0++S=bLD m 0++(0::S):=by
   rw[List.replicate_succ',bMA]; rfl
  have hin:(aK (bLD m 0++(0::S)))[m]?=some [.int .u32 ((0:Nat):Int)]:=by
   rw[bP _ (by simp)]; simp
  have bJH:(aK (bLD m 0++(0::S))).set m [.int .u32 (((4294967296*r+x)/d:Nat):Int)]=aK (bLD m 0++(((4294967296*r+x)/d)::S)):=by
   rw[fJ,bOA _ _ (by simp)]; simp
  simp only[go_sem,ν,γ,reduceCtorEq,hzz,hge,aiK,esh,hax,ex,eor,aiL,ed,hdd,equo,ec,hlt,bKT,hin,bJH,VZ,erem,WA]
  refine aE (m,((4294967296*r+x)/d)::S,(4294967296*r+x)%d) ⟨by simp only[bNM]; omega,fun y hy=>?_,bMJ _ hd0,?_⟩ (by simp only; omega) ?_ (PH.aG PH.nil_le Sq)
  ·rw[bLO] at hy
   rcases hy with rfl | hy
   ·exact hq
   ·exact bJR y hy
  ·simp only[val]
   rw[hdrop,← bJN,bMB,bLM,bLV]
   have:=bOB (4294967296*r+x) d
   rw[bLY d] at this
   omega
  ·(repeat' (first|exact PF.nil_le|refine PF.aG ?_ ?_))<;>first|(simp only[go_sem,γ,reduceCtorEq,wrap_i64 (Om:-9223372036854775808≤(m:Int)-1) (Om:(m:Int)-1≤9223372036854775807)]<;>rfl)|rfl
 ·have:k=0:=by omega
  subst this
  have hzz:¬ ((0:Nat):Int)-1≥0:=by decide
  rw[bMD] at bJN
  have hS:S.length=a.length:=by omega
  have hq:val S=val a/d:=by
   rw[← bJN,bLY,Nat.mul_add_div hd0,bOC hr,bMV]
  have hrm:r=val a%d:=by rw[← bJN,bLY,Nat.mul_add_mod,bMG hr]
  have hn0:bLD 0 0++S=S:=by simp
  have hl:=L.trim S bJR Om
  have hSt:(aK S).take a.length=aK S:=bLQ (by rw[bW]; omega)
  simp only[go_sem,υ,γ,reduceCtorEq,hzz,DM,List.nil_append]
  refine qI (o:=o) (s:=1) (rs:=aK S) hl Sq (by simp only[go_sem,γ,reduceCtorEq,hSt,show a.length≤S.length by omega]) ?_
  simp only[go_sem,γ,reduceCtorEq]
  refine aA (L.make r Om) Sq ?_
  simp only[go_sem,γ,reduceCtorEq]
  refine aV (vs:=[aJ (aI (val S)),aJ (aI r)]) (.inr rfl) .nil Ev PH.nil_le ⟨?_,rfl⟩
  rw[hq,hrm]
  exact .refl _
theorem brW {B m:Nat} (h:nl B=m+1):32*m<cG B∧cG B≤32*(m+1):=by
 refine⟨?_,(lO B (m+1)).2 Om⟩
 rcases bLS (32*m) (cG B) with h1 | h1
 ·exact h1
 ·have:=(lO B m).1 h1
  omega
theorem brX {B:Nat} (h:B≠0):2 ^ (cG B-1)≤B:=by
 rcases bLS B (2 ^ (cG B-1)) with h1 | h1
 ·have h2:=(lN B _).2 h1
  have h3:cG B≠0:=fun e=>h (jX.1 e)
  omega
 ·exact h1
theorem bbJ {C:Ctx} (L:MT C) (A B:Nat) (hB:B≠0) (hA:nl A≤512) (hBl:nl B≤512) :
  zG.wp C (aS TJ.res (bQ (pZ A B))) (PF.args [aJ (aI A),aJ (aI B)]) .nil:=by
 have LA:=aU A
 have LB:=aU B
 have vA:=aR A
 have vB:=aR B
 have lA:(aI A).length=nl A:=rfl
 have lB:(aI B).length=nl B:=rfl
 simp only[go_sem,γ,reduceCtorEq,zG,aiF,aiG,TJ]
 refine aA (L.cmp _ _ LA LB Om Om) rfl ?_
 rw[vA,vB]
 by_cases c1:A<B
 ·have hc:dD A B<0:=by simp[dD,c1]
  simp only[go_sem,γ,reduceCtorEq,hc,aiH]
  refine aA (L.trim _ LA Om) rfl ?_
  rw[vA]
  simp only[go_sem,γ]
  refine aV (vs:=[.bIU,aJ (aI A)]) (.inr rfl) .nil rfl PH.nil_le ⟨?_,rfl⟩
  rw[pZ,bOC c1,bMG c1,fL]
  exact CoL.tup (CoL.cons (.nil 1) (CoL.cons (.refl _) .nil))
 have hc:¬ dD A B<0:=by
  unfold dD
  rw[if_neg c1]
  split<;>decide
 have hB0:0<B:=bNG hB
 have hnB:nl B≠0:=fun h=>hB (iH.1 h)
 simp only[go_sem,γ,hc,aiI,bKY,lB]
 by_cases c2:nl B=1
 ·have hBB:B<4294967296:=by have:=(jP B 1).1 Om; simpa using this
  have hlb:aI B=[B]:=nZ hB hBB
  have sh:=bbI (C:=C) L (aI A) B LA hB0 hBB Om
  rw[vA] at sh
  simp only[aB.wp,go_sem] at sh
  simp only[go_sem,bN (Om:((nl B:Nat):Int)=1)]
  exact sh _ rfl (by simp only[go_sem,γ,hlb])
 obtain⟨m,hm⟩:∃ m,nl B=m+1:=⟨nl B-1,by omega⟩
 have hm1:1≤m:=by omega
 obtain⟨hb1,hb2⟩:=brW hm
 obtain⟨n,hn⟩:∃ n,n+cG B=32*(m+1):=⟨32*(m+1)-cG B,by omega⟩
 have hn32:n<32:=by omega
 have hp2:0<2 ^ n:=bNN (by decide)
 have hBlt:B<2 ^ cG B:=(lN B _).1 (bLG _)
 have hBge:=brX hB
 have hVhi:B*2 ^ n<4294967296 ^ (m+1):=by
  have:B*2 ^ n<2 ^ cG B*2 ^ n:=Nat.mul_lt_mul_of_pos_right hBlt hp2
  rw[← Nat.pow_add,show cG B+n=32*(m+1) by omega,Nat.pow_mul] at this
  exact this
 have hVlo:4294967296 ^ m*2147483648≤B*2 ^ n:=by
  have:2 ^ (cG B-1)*2 ^ n≤B*2 ^ n:=bMC _ hBge
  rw[← Nat.pow_add,show cG B-1+n=32*m+31 by omega,Nat.pow_add,Nat.pow_mul] at this
  exact this
 have nV:nl (B*2 ^ n)=m+1:=by
  have h1:=(jP (B*2 ^ n) (m+1)).2 hVhi
  rcases bLS (nl (B*2 ^ n)) (m+1) with h | h
  ·have:=(jP (B*2 ^ n) m).1 Om
   have hpp:0<4294967296 ^ m:=bNN (by decide)
   omega
  ·omega
 have hV0:B*2 ^ n≠0:=Nat.mul_ne_zero hB Om
 have nU1:nl (A*2 ^ n)≤nl A+1:=lH (bLG _) (nL (by rw[Nat.pow_one]; exact Nat.pow_lt_pow_right (a:=2) (m:=n) (n:=32) (by decide) hn32))
 have hUV:B*2 ^ n≤A*2 ^ n:=bMC _ Om
 have nUV:m+1≤nl (A*2 ^ n):=by rw[← nV]; exact fP hUV
 have hU0:A*2 ^ n≠0:=by omega
 have e32:IntKind.i64.wrap (32*((nl B:Nat):Int))=((32*(m+1):Nat):Int):=by rw[wrap_i64 Om Om]; omega
 have en:IntKind.i64.wrap (((32*(m+1):Nat):Int)-((cG B:Nat):Int))=(n:Int):=by rw[wrap_i64 Om Om]; omega
 have bt:=L.bits (aI B) LB Om
 rw[vB] at bt
 have ua:=L.upM (aI A) n LA Om Om (fun h=>by have:=eW LA; rw[h] at this; omega)
 have ub:=(L.upM (aI B) n LB Om Om (fun h=>by have:=eW LB; rw[h] at this; omega)).freeze
 rw[vA] at ua
 rw[vB] at ub
 have tail:∀ (o:Nat) (F:PF) (H:PH),F 0=some (aJ (aI A))→F 1=some (aJ (aI B))→F 10=some (.int .i64 n)→F 11=some (.osl o 1 0 (nl (A*2 ^ n)+2))→F 12=some (aJ (aI (B*2 ^ n)))→H o=some (.rows 1 (aK (aI (A*2 ^ n))++[[.int .u32 0],[.int .u32 0]])) →
   aB.wp C (.seq (.region DN) (.seq (.region DO) (.seq (.region DP) (.seq (.seq (.region DQ) (.block 2 (.loop uR))) (.seq (.region DW) .ret))))) (aS [.tmp 4,.tmp 5] (bQ (pZ A B))) F H:=by
  intro o F H f0 f1 f10 f11 f12 hH
  have LU:=aU (A*2 ^ n)
  have LV:=aU (B*2 ^ n)
  have vU:=aR (A*2 ^ n)
  have vV:=aR (B*2 ^ n)
  have lU:(aI (A*2 ^ n)).length=nl (A*2 ^ n):=rfl
  have lV:(aI (B*2 ^ n)).length=m+1:=nV
  have eu:IntKind.i64.wrap (((nl (A*2 ^ n):Nat):Int)+1)=((nl (A*2 ^ n)+1:Nat):Int):=cY Om
  have b1:((nl (A*2 ^ n)+1:Nat):Int)≤((nl (A*2 ^ n)+2:Nat):Int):=by omega
  simp only[go_sem,γ,reduceCtorEq,DN,f11,f0,f10]
  refine aA ua.freeze rfl ?_
  obtain⟨lq,hlq⟩:∃ lq,nl (A*2 ^ n)+1-(m+1)=lq:=⟨_,rfl⟩
  have hlx:nl (A*2 ^ n)+1=lq+(m+1):=by omega
  have em:IntKind.i64.wrap (((m+1:Nat):Int)-1)=((m:Nat):Int):=by rw[wrap_i64 Om Om]; omega
  have hmV:m<(aI (B*2 ^ n)).length:=by omega
  have rm:=bP (aI (B*2 ^ n)) hmV
  have tl:=LV _ (bLF hmV)
  have htop:0<(aI (B*2 ^ n))[m]:=by
   have h1:=cB (aI (B*2 ^ n)) hmV
   rw[bLQ Om,vV] at h1
   have h2:=eW (LV.take m)
   rw[bLR,bNB Om] at h2
   have hpp:0<4294967296 ^ m:=bNN (by decide)
   rcases bNA (aI (B*2 ^ n))[m] with h | h
   ·rw[h] at h1; omega
   ·exact h
  have htop31:2147483648≤(aI (B*2 ^ n))[m]:=by
   have h1:=cB (aI (B*2 ^ n)) hmV
   rw[bLQ Om,vV] at h1
   have h2:=eW (LV.take m)
   rw[bLR,bNB Om] at h2
   rcases bLS (aI (B*2 ^ n))[m] 2147483648 with h | h
   ·exfalso
    have h3:4294967296 ^ m*((aI (B*2 ^ n))[m]+1)≤4294967296 ^ m*2147483648:=bNF _ h
    rw[bLM,Nat.mul_one] at h3
    omega
   ·exact h
  have key0:=bjA (C:=C) L (A*2 ^ n) n o (nl (A*2 ^ n)+1) lq
  have hI:oQ (A*2 ^ n) (val (aI (B*2 ^ n))) (m+1) (nl (A*2 ^ n)+1) lq lq (aI (A*2 ^ n)++[0]) (bLD lq 0):=by
   refine⟨by rw[bLC,lU]; rfl,List.length_replicate,LU.app fun x hx=>by simp at hx; omega,vD _,?_,?_,fun i x _ hx=>aSC hx⟩
   ·rw[fV,vU,rP]; simp[val]
   ·have hlen:(aI (A*2 ^ n)++[0]).length=nl (A*2 ^ n)+1:=by rw[bLC,lU]; rfl
    have hv0:val (aI (A*2 ^ n)++[0])=A*2 ^ n:=by rw[fV,vU]; simp[val]
    rw[uD (LU.app fun x hx=>by simp at hx; omega) Om,hv0,vV,bNR (bNN (by decide))]
    have h1:A*2 ^ n<4294967296 ^ nl (A*2 ^ n):=(jP _ _).1 (bLG _)
    have hx:nl (A*2 ^ n)=m+lq:=by omega
    rw[hx,Nat.pow_add] at h1
    have h2:4294967296 ^ m*4294967296 ^ lq≤(B*2 ^ n)*4294967296 ^ lq:=bMC _ Om
    omega
  have hrows:aK (aI (A*2 ^ n))++[[PV.int .u32 0],[PV.int .u32 0]]=dR (aI (A*2 ^ n)++[0]) (aK [0]):=by
   simp[dR,aK]
  rw[hrows] at hH
  generalize htp:(aI (B*2 ^ n))[m]=top at *
  have et:IntKind.u64.wrap ((top:Nat):Int)=((top:Nat):Int):=bH Om
  have k2:IntKind.i64.wrap (((nl (A*2 ^ n)+1:Nat):Int)-((m+1:Nat):Int))=((lq:Nat):Int):=by rw[wrap_i64 Om Om]; omega
  have k3:((lq:Nat):Int)*((4:Nat):Int)≤140737488355328:=by omega
  have k4:((lq:Nat):Int)≤9223372036854775807:=by omega
  have hz:bLD lq [PV.int .u32 0]=aK (bLD lq 0):=by simp[aK]
  have jq:IntKind.i64.wrap ((lq:Int)-1)=(lq:Int)-1:=wrap_i64 Om Om
  simp only[go_sem,ν,γ,reduceCtorEq,bKY,lU,eu,b1,DO,f12,lV,em,rm,et,DP,k2,k3,k4,hz]
  refine aN fun oq hoq=>?_
  have hne:oq≠o:=by rintro rfl; rw[hH] at hoq; cases hoq
  have bJZ:¬ o=oq:=fun h=>hne h.symm
  have key:=key0 oq m (aI (B*2 ^ n)) [0] hne LV lV (by rw[htp]; exact htop) hlx Om _ hI
  rw[htp] at key
  simp only[go_sem,ο] at key
  simp only[go_sem,γ,DQ,jq]
  refine key _ _ _ ?_ ?_ ?_
  ·unfold duF
   exact Lq
  ·refine PH.aG (PH.aG PH.nil_le ?_) ?_
   ·simp only[go_sem,bJZ,hH]
   ·simp only[go_sem]
  clear key key0
  intro X Q F1 H1 hI1 hF1 hH1
  have g10:F1 10=some (.int .i64 n):=hF1 10 _ (by unfold duF; simp only[go_sem,ο,γ])
  have g11:F1 11=some (.osl o 1 0 (nl (A*2 ^ n)+1)):=hF1 11 _ (by unfold duF; simp only[go_sem,ο,γ])
  have g14:F1 14=some (.osl oq 1 0 lq):=hF1 14 _ (by unfold duF; simp only[go_sem,ο,γ])
  have ho1:H1 o=some (.rows 1 (dR X (aK [0]))):=hH1 o _ (by simp only[go_sem,bJZ])
  have hq1:H1 oq=some (.rows 1 (aK Q)):=hH1 oq _ Sq
  have hu:val X<val (aI (B*2 ^ n)):=by have:=hI1.r; rwa [bMD] at this
  have hv':=hI1.v
  rw[vV] at hu hv'
  have hQv:val Q=A/B:=by
   have:A*2 ^ n/(B*2 ^ n)=val Q:=by
    rw[← hv',Nat.add_mul_div_right _ _ Om,bOC hu,bLX]
   rw[← this,Nat.mul_div_mul_right _ _ hp2]
  have hUv:val X/2 ^ n=A%B:=by
   have:A*2 ^ n%(B*2 ^ n)=val X:=by rw[← hv',Nat.add_mul_mod_self_right,bMG hu]
   rw[← this,Nat.mul_mod_mul_right,Nat.mul_div_cancel _ hp2]
  have lX:=hI1.lu'
  have lQ:=hI1.lq'
  have hQt:(aK Q).take lq=aK Q:=bLQ (by rw[bW]; omega)
  have hXt:(dR X (aK [0])).take (nl (A*2 ^ n)+1)=aK X:=by
   rw[dR,List.take_append_of_le_length (by rw[bW]; omega),bLQ (by rw[bW]; omega)]
  have hXl:nl (A*2 ^ n)+1≤(dR X (aK [0])).length:=by rw[dR,bLC,bW]; omega
  have hfx:(dR X (aK [0])).map (fun r=>r.map (PV.dN oq 1 (aK Q)))=dR X (aK [0]):=by
   have:dR X (aK [0])=aK (X++[0]):=by simp[dR,aK]
   rw[this]; exact rG _ _ _ _
  have nX:=fI hI1.limU
  have t1:=L.trim Q hI1.limQ Om
  have t2:=L.trim X hI1.limU Om
  have dn:=L.down (aI (val X)) n (aU _) (by rw[bA]; omega) Om
  rw[aR,hUv] at dn
  rw[hQv] at t1
  generalize aK [0]=Z0 at ho1 hXt hXl hfx
  simp only[go_sem,DW,g14]
  refine qI (o:=oq) (s:=1) (rs:=aK Q) t1 hq1 (by simp only[go_sem,hQt,show lq≤Q.length by omega]) ?_
  simp only[go_sem,γ,g11,bJZ]
  refine qI (o:=o) (s:=1) (rs:=dR X Z0) t2 (by simp only[go_sem,bJZ,ho1,cD.frz,hfx]) (by simp only[go_sem,γ,hXt,hXl]) ?_
  simp only[go_sem,γ,g10]
  refine aA dn rfl ?_
  simp only[go_sem,γ]
  exact aV (vs:=[aJ (aI (A/B)),aJ (aI (A%B))]) (.inr rfl) .nil rfl PH.nil_le ⟨.refl _,rfl⟩
 simp only[aB.wp,go_sem] at tail
 simp only[go_sem,γ,bC (Om:¬ ((nl B:Nat):Int)=1),WB,bKY,lB]
 refine aA bt rfl ?_
 simp only[go_sem,γ,reduceCtorEq,e32,en,WC]
 refine mI ua rfl PH.nil_le fun r H1 hr _=>?_
 have hb2:(2:Nat)*1≤16777216:=by decide
 rcases hr with ⟨h0,_⟩ | ⟨o,rs,rfl,rfl,hrl,hrt⟩
 ·exfalso
  have:=congrArg List.length h0
  rw[bW,bA] at this
  simp at this
  omega
 rw[PH.mZ]
 rw[bW,bA] at hrl hrt
 simp only[go_sem,υ,δ,γ,η,ζ,hb2,bW,bA]
 refine aRZ (src:=[[.int .u32 0],[.int .u32 0]]) (rs:=rs) rfl ?_ Sq hrl ?_ fun o' ho'=>?_
 ·unfold roomFor
  simp only[maxLen,bNM,bNJ]; omega
 ·rw[hrt]
  simp only[go_sem,δ]
  refine aA ub rfl ?_
  simp only[go_sem,γ]
  exact tail o _ _ rfl rfl rfl rfl rfl Sq
 ·rw[hrt]
  simp only[go_sem,δ]
  refine aA ub rfl ?_
  simp only[go_sem,γ]
  exact tail o' _ _ rfl rfl rfl rfl rfl Sq
def aL (C:Ctx) (k:Nat) (pf:aT):Prop:=∀ (args:List PV) (H:PH) (R:PV→PH→Prop),args.length≤pf.ntmps→pf.body.wp C (aS pf.res R) (PF.args args) H→aH C k args H R
theorem aL.go {C:Ctx} {k:Nat} {pf:aT} (r:aL C k pf) {args:List PV} {H:PH} {R:PV→PH→Prop} (h:pf.body.wp C (aS pf.res R) (PF.args args) H) (hl:Nat.ble args.length pf.ntmps=true):aH C k args H R:=r args H R (Nat.le_of_ble_eq_true hl) h
theorem bG {C:Ctx} (T:Tbl) (hP:C.P=T.P) (hN:C.num=T.num) {k:Nat} {fn:Func} {pf:aT} (hf:C.P.funcs[C.num k]?=some fn) (hm:(fn.name=="runtime.NumGoroutine")=false) (hc:T.func fn=some pf):aL C k pf:=fun _ _ _ hl h=>bdB hP hN hf hm hc hl h
structure eH (C:Ctx):Prop where
 r0:aL C 0 adT
 r1:aL C 1 aAI
 r2:aL C 2 a8Z
 r4:aL C 4 aeZ
 r5:aL C 5 a9F
 r7:aL C 7 aeQ
 r20:aL C 20 adL
 r23:aL C 23 adP
 r27:aL C 27 adQ
 r28:aL C 28 a9E
 r29:aL C 29 aAJ
 r30:aL C 30 bbF
 r31:aL C 31 aAU
 r32:aL C 32 bbG
 r33:aL C 33 udiv
 r34:aL C 34 bbL
 r35:aL C 35 aAW
 r36:aL C 36 bbN
 r37:aL C 37 bbP
 r38:aL C 38 aAY
 r39:aL C 39 TJ
 r40:aL C 40 aAV
 r41:aL C 41 aiM
 r42:aL C 42 aiN
 r43:aL C 43 aAX
 r44:aL C 44 aiR
 r45:aL C 45 uup
 r47:aL C 47 bbU
 r50:aL C 50 ajE
 r58:aL C 58 TM
 r59:aL C 59 aBJ
 r95:aL C 95 a6W
 r96:aL C 96 a7C
 r97:aL C 97 acX
 r98:aL C 98 azZ
 r99:aL C 99 aAA
 r100:aL C 100 aAB
 r101:aL C 101 gone
 r102:aL C 102 aAC
 r103:aL C 103 acY
 r104:aL C 104 gin
 r105:aL C 105 a6X
 r106:aL C 106 a6Y
 r107:aL C 107 aAD
 r108:aL C 108 aAE
 r109:aL C 109 adB
 r110:aL C 110 aAF
 r111:aL C 111 aET
 r112:aL C 112 a6Z
 r113:aL C 113 XB
 r114:aL C 114 a6H
 r115:aL C 115 acM
 r116:aL C 116 EV
 r117:aL C 117 amE
 r118:aL C 118 acW
 r119:aL C 119 a6G
 r120:aL C 120 rF
 r121:aL C 121 acV
 r122:aL C 122 azY
 r123:aL C 123 adN
 r124:aL C 124 NX
 r125:aL C 125 OA
 r126:aL C 126 EX
 r127:aL C 127 a9H
 r128:aL C 128 aAL
 r129:aL C 129 a9J
 r130:aL C 130 a9L
 r131:aL C 131 a9Q
 r132:aL C 132 aAM
 r133:aL C 133 a9W
 r134:aL C 134 baA
 r135:aL C 135 aAN
 r136:aL C 136 SX
 r137:aL C 137 afM
 r138:aL C 138 xV
 r139:aL C 139 IP
 r140:aL C 140 afN
 r141:aL C 141 afP
 r142:aL C 142 AC
 r143:aL C 143 nup
 r147:aL C 147 tat
 r148:aL C 148 ahL
 r149:aL C 149 TG
 r150:aL C 150 ahW
 r151:aL C 151 ahA
 r152:aL C 152 AP
 r153:aL C 153 TF
 r154:aL C 154 aAT
 r155:aL C 155 ahJ
 r156:aL C 156 aAS
 r157:aL C 157 ahX
 r158:aL C 158 bbE
 r159:aL C 159 aiE
 r160:aL C 160 FM
 r161:aL C 161 aiD
theorem wR {C:Ctx} (c:eH C):qJ C :=
 have len:∀ xs,Lim xs→xs.length≤35184372087808→aH C 138 [aJ xs] .nil (aF (.int .i64 (nl (val xs):Nat))):=fun xs h l=>c.r138.go (a9U xs h l) rfl
 {length:=len
  large:=fun xs h l=>c.r137.go (bfS xs (len xs h l)) rfl
  sized:=fun xs h l=>(c.r141.go (bfX xs h (len xs h l)) rfl).seen
  trim:=fun xs h l=>(c.r135.go (boE xs h l (len xs h l)) rfl).seen
  make:=fun v h=>c.r132.go (boB v h len) rfl
  cmp:=fun xs ys hx hy lx ly=>c.r129.go (buR xs ys hx hy lx ly (len xs hx lx) (len ys hy ly)) rfl }
theorem bBO {C:Ctx} (c:eH C):azV C :=
 {subtract:=fun A W Z v f o hW hv hl h1 hf bKJ=>c.r142.go (aLF A W Z v f hW hv hl h1 hf bKJ o) rfl
  restore:=fun A W Z v o hW hv hl h1=>c.r139.go (aUU A W Z v hW hv hl h1 o) rfl }
theorem bnY {C:Ctx} (c:eH C):aBR C :=
 {L:=wR c
  D:=bBO c
  up:=fun a s ha hs h1=>c.r143.go (byJ a s ha hs h1) rfl
  short:=fun a d ha h0 hd h1=>c.r140.go (bfV (wR c) a d ha h0 hd h1) rfl
  lengthO:=fun xs o hx hl=>c.r138.go (aUT xs hx hl o) rfl }
theorem aJQ {C:Ctx} (c:eH C) (A B:Nat) (hB:B≠0) (hA:nl A≤900) (hBl:nl B≤900):aH C 136 [aJ (aI A),aJ (aI B)] .nil (aF (pZ A B)) :=
 (c.r136.go (a9O (bnY c) A B hB hA hBl) rfl).seen
theorem yU {C:Ctx} (c:eH C):rY C :=
 {wR c with
  bits:=fun xs h l=>c.r128.go (bnZ xs h l ((wR c).length xs h l)) rfl
  add:=fun xs ys hx hy lx ly=>(c.r127.go (buO (wR c) xs ys hx hy lx ly) rfl).seen
  sub:=fun xs ys hx hy lx ly=>(c.r134.go (bvA (wR c) xs ys hx hy lx ly) rfl).seen
  mul:=fun xs ys hx hy lx ly=>(c.r133.go (buY (wR c) xs ys hx hy lx ly) rfl).seen
  gcd:=fun xs ys hx hy lx ly=>(c.r131.go (buW (wR c) (aJQ c) xs ys hx hy lx ly) rfl).seen
  div:=fun xs ys hx hy lx ly=>(c.r130.go (buT (wR c) (aJQ c) xs ys hx hy lx ly) rfl).seen }
theorem SK {C:Ctx} (c:eH C):FQ C :=
 {yU c with
  times:=fun a b ha hb la lb na nb=>c.r121.go (bdM (yU c) a b ha hb la lb na nb) rfl
  zero:=fun neg a b ha la=>c.r122.go (blU (yU c) neg a b ha la) rfl
  valid:=fun neg a b ha hb la lb=>c.r118.go (bdO (yU c) neg a b ha hb la lb) rfl
  abs:=fun v h1 h2=>c.r119.go (bsI (yU c) v h1 h2) rfl
  lowest:=fun neg a b ha hb la lb na nb h0=>(c.r120.go (a6N (yU c) neg a b ha hb la lb na nb h0) rfl).seen }
theorem bdL {C:Ctx} (c:eH C) (x y:RF) (hx:x.Ok) (hy:y.Ok):aH C 113 [.agg x.cells,.agg y.cells] .nil (aF (frV (gT x.v y.v))) :=
 (c.r113.go (bsK (SK c) x.neg y.neg x.num x.den y.num y.den hx.1 hx.2.1 hy.1 hy.2.1 hx.2.2.1 hx.2.2.2 hy.2.2.1 hy.2.2.2) rfl).seen
theorem a6P {C:Ctx} (c:eH C):azU C :=
 {SK c with
  frac:=fun n d hn hd=>(c.r115.go (blS (SK c) n d hn.1 hn.2 hd.1 hd.2) rfl).seen
  red:=fun x hx=>by
   rw[← baH]
   exact (c.r116.go (a6Q (SK c) x.neg x.num x.den hx.1 hx.2.1 hx.2.2.1 hx.2.2.2) rfl).seen
  ord:=fun x y hx hy=>(c.r114.go (bsM (SK c) x.neg y.neg x.num x.den y.num y.den hx.1 hx.2.1 hy.1 hy.2.1 hx.2.2.1 hx.2.2.2 hy.2.2.1 hy.2.2.2) rfl).seen
  plus:=bdL c
  tot:=fun l hl=>(c.r117.go (bsT (SK c) (bdL c) l hl.all hl.fits) rfl).seen }
theorem SJ {C:Ctx} (c:eH C):rS C :=
 have inn:∀ n lo hi:Int,aH C 104 [.int .i64 n,.int .i64 lo,.int .i64 hi] .nil (aF (.bool (within n lo hi))):=fun n lo hi=>(c.r104.go (bxW n lo hi) rfl).seen
 have kN:∀ x:RF,x.Ok→aH C 97 [.agg x.cells] .nil (aF (.bool (bL x))):=fun x hx=>(c.r97.go (bdQ (yU c) x hx) rfl).seen
 have lim:∀ x:RF,x.Ok→aH C 105 [.agg x.cells] .nil (aF (.bool (cM x))):=fun x hx=>(c.r105.go (bsZ (a6P c) x hx) rfl).seen
 have letter:∀ n:Nat,aH C 126 [.int .u8 n] .nil (aF (.bool (eO n))):=fun n=>c.r126.go (a8F n) rfl
 have digit:∀ n:Nat,aH C 124 [.int .u8 n] .nil (aF (.bool (lW n))):=fun n=>c.r124.go (beD n) rfl
 {a6P c with
  inn:=inn
  kN:=kN
  lim:=lim
  one:=fun x hx=>(c.r101.go (btD (a6P c) x hx) rfl).seen
  allf:=fun p fn l hl h=>(c.r99.go (blY p fn l hl h) rfl).seen
  alli:=fun p fn l hl h=>(c.r100.go (bmA p fn l hl h) rfl).seen
  allb:=fun p fn l hl h=>(c.r98.go (blW p fn l hl h) rfl).seen
  ends1:=fun b=>(c.r103.go (bdS b) rfl).seen
  num1:=fun n=>(c.r107.go (bmF inn n) rfl).seen
  rate1:=fun x hx=>(c.r109.go (bdV lim kN x hx) rfl).seen
  name:=fun s=>c.r123.go (bnE letter (fun n=>c.r125.go (beO letter digit n) rfl) s) rfl }
theorem bdJ {C:Ctx} (c:eH C):aBM C :=
 {SJ c with
  num:=fun p hp=>(c.r106.go (btB (SJ c) p hp) rfl).seen
  rate:=fun p hp=>(c.r108.go (bmH (SJ c) p hp) rfl).seen
  uniq:=fun l hl=>(c.r110.go (bmK (SJ c) l hl) rfl).seen }
theorem bdK {C:Ctx} (c:eH C):abJ C :=
 {bdJ c with
  ends:=fun l hl he=>(c.r102.go (bmD (SJ c) l hl he) rfl).seen }
theorem bxU {C:Ctx} (c:eH C):kJ C :=
 {bdK c with
  law:=fun l hl=>(c.r95.go (bsX (bdK c) l hl) rfl).seen
  pol:=fun p n hp hn=>(c.r112.go (btF (bdJ c) p hp n hn) rfl).seen
  bJF:=fun f hf=>(c.r111.go (bsV (SJ c) f hf) rfl).seen }
theorem bsQ {C:Ctx} (c:eH C) (f:aD) (hf:f.Ok):aH C 96 [.agg f.cells] .nil (aF (.int .i64 (KR f))):=(c.r96.go (btI (bxU c) f hf) rfl).seen
theorem TH {C:Ctx} (c:eH C):SC C :=
 {valid:=fun f hf=>(c.r161.go (biV (bsQ c) f hf) rfl).seen
  kN:=fun f d level hv hd h0 h4=>(c.r155.go (biC f hv d hd level h0 h4) rfl).seen
  frag:=fun f v hv h=>(c.r156.go (bpK f hv v h) rfl).seen }
theorem aiA {C:Ctx} (c:eH C):abT C :=
 {TH c with
  room:=fun f room hf=>(c.r152.go (aOL (TH c) f hf room) rfl).freeze
  loads:=fun f l hd hl=>(c.r157.go (biM f hd l hl) rfl).seen }
theorem biP {C:Ctx} (c:eH C):aBX C :=
 {aiA c with
  shape:=fun f l v hV hl hv hvf=>(c.r160.go (biT (aiA c) f hV l hl v hv hvf) rfl).seen }
theorem biQ {C:Ctx} (c:eH C):EP C :=
 {biP c with
  bad:=fun o5 v k w=>c.r159.go (biX o5 v k w) rfl }
theorem biR {C:Ctx} (c:eH C):aBY C :=
 {biQ c with
  row:=fun f l v hV bKJ hv hvf hr=>(c.r158.go (bpT (biQ c) f hV bKJ l v hv hvf hr) rfl).seen }
theorem brQ {C:Ctx} (c:eH C):brJ C :=
 {biR c with
  viol:=fun f l room hf hl=>(c.r154.go (bpR (biR c) f hf l hl room) rfl).seen }
theorem uO {C:Ctx} (c:eH C):pI C:={ trimM:=fun xs h l=>c.r38.go (bqL xs h l) rfl }
theorem bgU {C:Ctx} (c:eH C):aBT C :=
 {uO c with
  make:=fun v h=>(c.r35.go (bqC (uO c) v h) rfl).seen
  large:=fun xs h l=>(c.r41.go (bjB (uO c) xs h l) rfl).seen
  cmp:=fun xs ys hx hy lx ly=>c.r32.go (bwB (uO c) xs ys hx hy lx ly) rfl }
theorem bgW {C:Ctx} (c:eH C):aBV C :=
 {bgU c with
  minus:=fun a b ha hb hle hl h1=>(c.r42.go (bjD (uO c) a b ha hb hle hl h1) rfl).seen
  times:=fun a b ha hb h1 h2=>(c.r44.go (bjF (uO c) a b ha hb h1 h2) rfl).seen }
theorem aLZ {C:Ctx} (c:eH C):abQ C :=
 {bgW c with
  plus:=fun a b ha hb h1 h2=>(c.r43.go (bqI (uO c) a b ha hb h1 h2) rfl).seen }
theorem byP {C:Ctx} (c:eH C):MT C :=
 {aLZ c with
  bits:=fun xs h l=>c.r31.go (bpW (uO c) xs h l) rfl
  upM:=fun a n ha h1 hn h0=>c.r45.go (bzF (uO c) a n ha h1 hn h0) rfl
  down:=fun a n ha h1 hn=>(c.r40.go (bqA (uO c) a n ha h1 hn) rfl).seen }
theorem aLY {C:Ctx} (c:eH C):abO C :=
 {bgU c with
  divide:=fun A B hB hA hBl=>(c.r39.go (bbJ (byP c) A B hB hA hBl) rfl).seen }
theorem bgV {C:Ctx} (c:eH C):aBU C :=
 {aLY c with
  gcd:=fun a b ha hb la lb=>(c.r34.go (bwF (aLY c) a b ha hb la lb) rfl).seen
  div:=fun a b ha hb la lb=>(c.r33.go (bwD (aLY c) a b ha hb la lb) rfl).seen }
theorem brO {C:Ctx} (c:eH C):a5K C :=
 {bgV c with
  lowest:=fun neg a b ha hb la lb na nb h0=>(c.r58.go (bbW (bgV c) neg a b ha hb la lb na nb h0) rfl).seen
  size:=fun v hv=>c.r59.go (bqZ v hv.1 hv.2) rfl }
theorem afU {C:Ctx} (c:eH C):abP C :=
 {brO c with
  fmk:=fun n d hn hd=>(c.r50.go (bqT (brO c) n d hn hd) rfl).seen }
abbrev rU (C:Ctx):Prop:=∀ n:Nat,n<100→aH C 195 [.int .i64 n] .nil (aF (.str (bV n)))
theorem aeR {C:Ctx} (c:eH C) (hi:rU C):rW C :=
 {afU c with
  int:=fun n hn=>(c.r47.go (a4C (afU c) n hn) rfl).seen
  itoa:=hi
  next:=fun l v T o n a hn ha=>c.r4.go (bnU T o n a hn ha) rfl }
theorem bfK {C:Ctx} (c:eH C) (hi:rU C):aBP C :=
 {aeR c hi with
  frac:=fun l v T o a ha=>c.r1.go (bnL (aeR c hi) T o a ha) rfl }
theorem bfL {C:Ctx} (c:eH C) (hi:rU C):rX C :=
 {bfK c hi with
  rep:=fun l v T o a m hm ha=>c.r5.go (buM (bfK c hi) T o a m hm ha) rfl
  name:=fun s n hs hn=>c.r29.go (bnS (aeR c hi) s n hs hn) rfl }
theorem bfM {C:Ctx} (c:eH C) (hi:rU C):mT C :=
 {bfL c hi with
  law:=fun l v T o dX a hm hm2 ha=>c.r2.go (buG (bfL c hi) T o dX a hm hm2 ha) rfl }
theorem pA {f:aD} (h:VF f) {i:Nat} (hi:i<f.bIW.length):0≤lvl f i∧lvl f i≤4:=by
 rcases bNA i with e | e
 ·rw[e,h.root.2.1]; omega
 ·have:=h.dom i e hi; omega


theorem buF (a b:Nat):mkT (a:Int) (b:Int)=⟨false,aI (a/bLA a b),aI (b/bLA a b)⟩:=by
 have h1:decide ((a:Int)<0)=false:=decide_eq_false Om
 have h2:decide ((b:Int)<0)=false:=decide_eq_false Om
 unfold mkT mL FV.rf
 rw[h1,h2,Int.natAbs_natCast,Int.natAbs_natCast]
 rfl
structure SmF (x:RF) (p q:Nat):Prop where
 eq:x=⟨false,aI (p/bLA p q),aI (q/bLA p q)⟩
 a:p≤64
 b:q≤64
 pos:0<q
theorem SmF.mk' {a b:Nat} (ha:a≤64) (hb:b≤64) (h:0<b):SmF (mkT (a:Int) (b:Int)) a b:=⟨buF a b,ha,hb,h⟩
theorem SmF.num {x:RF} {a b:Nat} (h:SmF x a b):val x.num=a/bLA a b:=by rw[h.eq,aR]
theorem SmF.den {x:RF} {a b:Nat} (h:SmF x a b):val x.den=b/bLA a b:=by rw[h.eq,aR]
theorem SmF.v {x:RF} {a b:Nat} (h:SmF x a b):x.v=(false,a/bLA a b,b/bLA a b):=by
 unfold RF.v
 rw[h.num,h.den,h.eq]
theorem SmF.aLJ {x:RF} {a b:Nat} (_:SmF x a b):a/bLA a b≤a:=bNY ..
theorem SmF.aCL {x:RF} {a b:Nat} (_:SmF x a b):b/bLA a b≤b:=bNY ..
theorem SmF.den_pos {x:RF} {a b:Nat} (h:SmF x a b):0<b/bLA a b:=Nat.div_pos (Nat.le_of_dvd h.pos (Nat.gcd_dvd_right a b)) (Nat.gcd_pos_of_pos_right a h.pos)
theorem xL {n:Nat} (h:n≤4096):cG n≤32:=(lN n 32).2 Om
theorem aSP {n:Nat} (h:0<n):0<cG n:=by
 rcases bNA (cG n) with e | e
 ·rw[jX] at e; omega
 ·exact e
theorem tB {a b:Nat} (ha:a≤4096) (hb:b≤4096) (h:0<b):cO a b=true:=by
 have h1:=xL ha
 have h2:=xL hb
 have h3:=aSP h
 unfold cO
 rw[decide_eq_true h3,decide_eq_true (Om:cG b≤4096),decide_eq_true (Om:cG a≤4096)]
 rfl
theorem aYN {n:Bool} {a b:Nat} (ha:a≤4096) (hb:b≤4096):iJ n a b=.ok (n&&decide (a/bLA a b≠0),a/bLA a b,b/bLA a b):=by
 have h1:=xL (bNE (bNY a (bLA a b)) ha)
 have h2:=xL (bNE (bNY b (bLA a b)) hb)
 unfold iJ
 rw[if_neg Om]
theorem SmF.lim {x:RF} {a b:Nat} (h:SmF x a b):cM x=true:=by
 have h1:=h.aLJ
 have h2:=h.aCL
 have h3:=h.den_pos
 have:=h.a
 have:=h.b
 have hn:x.neg=false:=by rw[h.eq]
 unfold cM oI
 rw[h.num,h.den,hn,tB Om Om h3,if_pos rfl,aYN Om Om]
 have e1:=bNY (a/bLA a b) (bLA (a/bLA a b) (b/bLA a b))
 have e2:=bNY (b/bLA a b) (bLA (a/bLA a b) (b/bLA a b))
 simp only[bLI,bLK,bLN,bLT,decide_eq_true_eq]
 exact⟨xL Om,xL Om⟩
theorem SmF.kN {x:RF} {a b:Nat} (h:SmF x a b) (ha:0<a):bL x=true:=by
 unfold bL
 rw[h.num]
 exact decide_eq_true (Nat.ne_of_gt (Nat.div_pos (Nat.le_of_dvd ha (Nat.gcd_dvd_left a b)) (Nat.gcd_pos_of_pos_right a h.pos)))
theorem SmF.zero {x:RF} {b:Nat} (h:SmF x 0 b):bL x=false:=by
 unfold bL
 rw[h.num,Nat.zero_div]
 rfl
theorem SmF.one {x:RF} {a b:Nat} (h:SmF x a b) (hab:a≤b):vY x=true:=by
 have h1:=h.aLJ
 have h2:=h.aCL
 have h3:=h.den_pos
 have:=h.a
 have:=h.b
 have hn:x.neg=false:=by rw[h.eq]
 unfold vY
 rw[h.num,h.den,hn,tB Om Om h3]
 have:a/bLA a b≤b/bLA a b:=Nat.div_le_div_right hab
 show (true&&decide (dD (a/bLA a b*1) (1*(b/bLA a b))≤0))=true
 rw[Nat.mul_one,Nat.one_mul,bLN]
 refine decide_eq_true ?_
 unfold dD
 split
 ·decide
 ·split
  ·omega
  ·decide
theorem SmF.ok {x:RF} {a b:Nat} (h:SmF x a b):x.Ok:=by
 have h1:=h.aLJ
 have h2:=h.aCL
 have:=h.a
 have:=h.b
 have k1:nl (a/bLA a b)≤1:=(jP _ _).2 Om
 have k2:nl (b/bLA a b)≤1:=(jP _ _).2 Om
 rw[h.eq]
 refine⟨aU _,aU _,?_,?_⟩
 ·show (aI _).length≤_
  rw[bA]; omega
 ·show (aI _).length≤_
  rw[bA]; omega
theorem bsG:∀ c:Fin 9,∀ k:Fin 9,c.val+k.val≤8 →
  (c.val/bLA c.val 8*(8/bLA k.val 8)+k.val/bLA k.val 8*(8/bLA c.val 8))/bLA (c.val/bLA c.val 8*(8/bLA k.val 8)+k.val/bLA k.val 8*(8/bLA c.val 8)) (8/bLA c.val 8*(8/bLA k.val 8))=(c.val+k.val)/bLA (c.val+k.val) 8 ∧
  8/bLA c.val 8*(8/bLA k.val 8)/bLA (c.val/bLA c.val 8*(8/bLA k.val 8)+k.val/bLA k.val 8*(8/bLA c.val 8)) (8/bLA c.val 8*(8/bLA k.val 8))=8/bLA (c.val+k.val) 8:=by decide +kernel
abbrev eV (c:Nat):FV:=(false,c/bLA c 8,8/bLA c 8)
theorem TY (c:Nat):0<8/bLA c 8:=Nat.div_pos (Nat.le_of_dvd (by decide) (Nat.gcd_dvd_right c 8)) (Nat.gcd_pos_of_pos_right c (by decide))
theorem aCB {c k:Nat} (h:c+k≤8):gT (eV c) (eV k)=.ok (eV (c+k)):=by
 obtain⟨e1,e2⟩:=bsG ⟨c,by omega⟩ ⟨k,by omega⟩ h
 simp only at e1 e2
 have a1:=bNY c (bLA c 8)
 have a2:=bNY k (bLA k 8)
 have a3:=bNY 8 (bLA c 8)
 have a4:=bNY 8 (bLA k 8)
 have p1:=TY c
 have p2:=TY k
 simp only[gT]
 rw[tB Om Om p1,tB Om Om p2,Bool.and_self,if_pos rfl,if_pos trivial]
 have b1:c/bLA c 8*(8/bLA k 8)≤8*8:=Nat.mul_le_mul Om a4
 have b2:k/bLA k 8*(8/bLA c 8)≤8*8:=Nat.mul_le_mul Om a3
 have b3:8/bLA c 8*(8/bLA k 8)≤8*8:=Nat.mul_le_mul a3 a4
 rw[aYN Om Om,e1,e2]
 rfl
theorem QF:∀ (l:List Nat) (c:Nat),c+l.sum≤8→(l.map eV).foldlM gT (eV c)=.ok (eV (c+l.sum))
 | [],c,_=>rfl
 | k::l,c,h=>by
  rw[List.sum_cons] at h
  rw[bMI,List.foldlM_cons,aCB Om,List.sum_cons,← bND]
  exact QF l (c+k) Om
theorem bsF:eV 0=(false,0,1):=by decide +kernel
theorem blI:eV 8=(false,1,1):=by decide +kernel
theorem bvX (l:List Nat) (h:l.sum=8):(match nE (l.map eV) with
  | .ok (n,a,b)=>decide (pC n a b false 1 1=0)
  | .error _=>false)=true:=by
 unfold nE
 rw[← bsF,QF l 0 Om,bLX,h,blI]
 rfl
def dig (k:Nat):List UInt8:=if k<10 then [UInt8.ofNat (48+k)] else [UInt8.ofNat (48+k/10),UInt8.ofNat (48+k%10)]
def TL:List UInt8→Nat
 | [a]=>a.toNat-48
 | [a,b]=>(a.toNat-48)*10+(b.toNat-48)
 | _=>0
theorem NW {k:Nat} (h:k<100):bV k=dig k:=by
 unfold bV dig
 by_cases h1:k<10
 ·rw[if_pos h1]; exact Lib.decDigits_one h1
 ·rw[if_neg h1]; exact Lib.decDigits_two h1 h
theorem aCN:∀ k:Fin 100,TL (dig k.val)=k.val∧(dig k.val).length≤2∧((dig k.val).all fun c=>fG c.toNat)=true:=by decide +kernel
theorem anC {p:List UInt8} {c:UInt8} {t:List UInt8} (e:p=c::t) (hc:eO c.toNat=true) (ht:(t.all fun c=>fG c.toNat)=true) (hl:p.length≤8) {k:Nat} (hk:k<100):isName (p++bV k)=true:=by
 obtain⟨-,h2,h3⟩:=aCN ⟨k,hk⟩
 simp only at h2 h3
 subst e
 rw[NW hk]
 show (decide ((c::t++dig k).length≤16)&&eO c.toNat&&(c::t++dig k).all fun c=>fG c.toNat)=true
 have hi:fG c.toNat=true:=by unfold fG; rw[hc]; rfl
 rw[decide_eq_true (by rw[bLC]; omega),hc,List.all_append,h3,List.all_cons,ht,hi]
 rfl
theorem TX {l:List (List UInt8)} (h1:∀ x∈l,isName x=true) (h2:l.Nodup):distinct l=true:=by
 unfold distinct
 rw[bLU]
 intro i hi
 rw[bMQ] at hi
 have e:l.getD i []=l[i]:=by simp[bLP,hi]
 rw[e,h1 _ (bLF hi),bLN]
 have:¬ l[i]∈l.take i:=by
  intro hm
  obtain⟨j,hj,e⟩:=bMO hm
  rw[bLR] at hj
  rw[List.getElem_take] at e
  have:=(List.nodup_iff_pairwise_ne.1 h2)
  rw[List.pairwise_iff_getElem] at this
  exact this j i Om hi Om e
 simp[this]
theorem OQ {l:List (List UInt8)} {g:List UInt8→Nat} (h:∀ i (hi:i<l.length),g l[i]=i):l.Nodup:=by
 rw[List.nodup_iff_pairwise_ne,List.pairwise_iff_getElem]
 intro i j hi hj hlt e
 have h1:=h i hi
 have h2:=h j hj
 rw[e] at h1
 omega
theorem sE {l:List (List UInt8)} {p:List UInt8} {c:UInt8} {t:List UInt8} (e:p=c::t) (hc:eO c.toNat=true) (ht:(t.all fun c=>fG c.toNat)=true) (hl:p.length≤8) (hn:l.length≤100) (h:∀ i (hi:i<l.length),l[i]=p++bV i):distinct l=true:=by
 refine TX ?_ (OQ (g:=fun s=>TL (s.drop p.length)) ?_)
 ·intro x hx
  obtain⟨i,hi,rfl⟩:=bMO hx
  rw[h i hi]
  exact anC e hc ht hl Om
 ·intro i hi
  rw[h i hi]
  simp only[List.drop_left]
  rw[NW Om]
  exact (aCN ⟨i,by omega⟩).1
structure rV (x:RF):Prop where
 lim:cM x=true
 ok:x.Ok
theorem SmF.o {x:RF} {a b:Nat} (h:SmF x a b):rV x:=⟨h.lim,h.ok⟩
theorem pG:SmF kE 0 1:=SmF.mk' (a:=0) (b:=1) (by decide) (by decide) (by decide)
theorem qT (l:List Nat) (a:Nat):rV (fA l a).1∧bL (fA l a).1=true:=by
 have h1:=bT l (show 0<6 by decide) a
 have h2:=bT l (show 0<8 by decide) (aC l 6 a).2
 have:=SmF.mk' (a:=1+(aC l 6 a).1) (b:=1+(aC l 8 (aC l 6 a).2).1) Om Om Om
 exact⟨this.o,this.kN Om⟩
theorem bkY (l:List Nat) (i j a:Nat):rV (iY l i j a).1∧(j=i→bL (iY l i j a).1=false)∧(j=i+1→bL (iY l i j a).1=true):=by
 unfold iY
 by_cases h1:j=i+1
 ·rw[if_pos h1]
  exact⟨(qT l a).1,fun h=>by omega,fun _=>(qT l a).2⟩
 ·rw[if_neg h1]
  by_cases h2:j=i
  ·rw[if_pos h2]
   exact⟨pG.o,fun _=>pG.zero,fun h=>absurd h h1⟩
  ·rw[if_neg h2]
   simp only
   split
   ·exact⟨(qT l _).1,fun h=>absurd h h2,fun h=>absurd h h1⟩
   ·exact⟨pG.o,fun h=>absurd h h2,fun h=>absurd h h1⟩
theorem a1J (l:List Nat) (i a:Nat):∀ n,(dJ l i a n).1.length=n∧∀ j (hj:j<(dJ l i a n).1.length),rV (dJ l i a n).1[j]∧(j=i→bL (dJ l i a n).1[j]=false)∧(j=i+1→bL (dJ l i a n).1[j]=true)
 | 0=>⟨rfl,fun j hj=>absurd hj (by simp[dJ])⟩
 | n+1=>by
  obtain⟨h1,h2⟩:=a1J l i a n
  have e:(dJ l i a (n+1)).1=(dJ l i a n).1++[(iY l i n (dJ l i a n).2).1]:=rfl
  rw[e]
  refine⟨by simp[h1],fun j hj=>?_⟩
  by_cases hlt:j<(dJ l i a n).1.length
  ·rw[List.getElem_append_left hlt]; exact h2 j hlt
  ·rw[bLC,bLH] at hj
   have:j=n:=by omega
   subst this
   rw[List.getElem_append_right Om]
   simp only[List.getElem_singleton]
   exact bkY l i j _
theorem a1I (l:List Nat) (a:Nat):∀ n,(kB l a n).1.length=n∧∀ x∈(kB l a n).1,rV x∧bL x=true
 | 0=>⟨rfl,fun x hx=>by cases hx⟩
 | n+1=>by
  obtain⟨h1,h2⟩:=a1I l a n
  have e:(kB l a (n+1)).1=(kB l a n).1++[(fA l (kB l a n).2).1]:=rfl
  rw[e]
  refine⟨by simp[h1],fun x hx=>?_⟩
  rw[bMT,List.mem_singleton] at hx
  rcases hx with hx | rfl
  ·exact h2 x hx
  ·exact qT l _
theorem blQ (l:List Nat) (n i a:Nat):rV (eS l n i a).1∧(i+1=n→bL (eS l n i a).1=true):=by
 unfold eS
 by_cases h:i+1<n
 ·simp only[if_pos h]
  refine⟨?_,fun h2=>by omega⟩
  split
  ·exact pG.o
  ·exact (qT l a).1
 ·simp only[if_neg h]
  exact⟨(qT l a).1,fun _=>(qT l a).2⟩
def bxL (n:Nat) (bIY:List (List RF)):Prop:=∀ i (hi:i<bIY.length),bIY[i].length=n∧∀ j (hj:j<bIY[i].length),rV bIY[i][j]∧(j=i→bL bIY[i][j]=false)∧(j=i+1→bL bIY[i][j]=true)
def bxJ (n:Nat) (exit:List RF):Prop:=∀ i (hi:i<exit.length),rV exit[i]∧(i+1=n→bL exit[i]=true)
structure bDK (n i:Nat) (s:BH) (cs:List Nat):Prop where
 start:s.start=cs.map fun c=>mkT ((c:Nat):Int) ((8:Nat):Int)
 lens:s.exit.length=i∧s.bIY.length=i∧cs.length=i
 left:cs.sum+s.left=8∧(i=n→0<n→s.left=0)
 exit:bxJ n s.exit
 bIY:bxL n s.bIY
theorem qY {α:Type} {P:Nat→α→Prop} {xs:List α} {x:α} (h:∀ i (hi:i<xs.length),P i xs[i]) (hx:P xs.length x):∀ i (hi:i<(xs++[x]).length),P i (xs++[x])[i]:=by
 intro i hi
 by_cases hlt:i<xs.length
 ·rw[List.getElem_append_left hlt]; exact h i hlt
 ·rw[bLC,bLH] at hi
  have:i=xs.length:=by omega
  subst this
  rw[List.getElem_append_right Om]
  simpa using hx
theorem apU (l:List Nat) (n a:Nat):∀ i,i≤n→∃ cs,bDK n i (fO l n a i) cs
 | 0,_=>⟨[],rfl,⟨rfl,rfl,rfl⟩,⟨rfl,fun h h2=>by omega⟩,fun i hi=>absurd hi (by simp[fO]),fun i hi=>absurd hi (by simp[fO])⟩
 | i+1,hi=>by
  obtain⟨cs,h1,⟨h2,h3,h4⟩,⟨h5,-⟩,h6,h7⟩:=apU l n a i Om
  generalize hs:fO l n a i=s at *
  have e:fO l n a (i+1)=⟨s.start++[mkT ((dH l n i s).1:Nat) 8],s.exit++[(eS l n i (dH l n i s).2).1],s.bIY++[(dJ l i (eS l n i (dH l n i s).2).2 n).1],s.left-(dH l n i s).1,(dJ l i (eS l n i (dH l n i s).2).2 n).2⟩:=by
   simp only[fO,hs]
  rw[e]
  have hk:(dH l n i s).1≤s.left∧(i+1=n→(dH l n i s).1=s.left):=by
   unfold dH
   split
   ·exact⟨by have:=bT l (Om:0<s.left+1) s.a; omega,fun h=>by omega⟩
   ·exact⟨bLG _,fun _=>rfl⟩
  refine⟨cs++[(dH l n i s).1],?_,⟨by simp[h2],by simp[h3],by simp[h4]⟩,⟨?_,fun h _=>?_⟩,?_,?_⟩
  ·simp only[h1,bMW,bMI,bMZ]; rfl
  ·simp only[List.sum_append,List.sum_cons,List.sum_nil]; omega
  ·have:=hk.2 h
   simp only; omega
  ·refine qY (P:=fun i x=>rV x∧(i+1=n→bL x=true)) h6 ?_
   rw[h2]; exact blQ l n i _
  ·refine qY (P:=fun i (r:List RF)=>r.length=n∧∀ j (hj:j<r.length),rV r[j]∧(j=i→bL r[j]=false)∧(j=i+1→bL r[j]=true)) h7 ?_
   rw[h3]; exact a1J l i _ n
theorem blO {x:bZ} {e r:RF} (h1:x.exit=[e]) (h2:x.bIY=[[r]]) (h3:bL e=true):oK x=true:=by
 unfold oK
 rw[h1]
 show ((cS x 2).all id)=true
 simp only[cS,cQ,kG,cE,h1,h2,bNM,bNJ,List.getD_cons_zero,bMI,bMZ,h3]
 cases bL r<;>rfl
theorem PL {x:bZ} {e0 e1 r00 r01 r10 r11:RF} (h1:x.exit=[e0,e1]) (h2:x.bIY=[[r00,r01],[r10,r11]]) (h3:bL e1=true) (h4:bL r01=true) (a b:Bool) :
  ∃ c,cQ x [a,b] 2=[c,true]∧(b=true→c=true)∧(a=true→c=true):=by
 have q1:kG x [a,b] 0=[((a||bL e0)||bL r00&&(a||bL e0))||b,b]:=by
  unfold kG
  rw[h1,h2]
  simp only[List.getD_cons_zero,bMI,List.set_cons_zero]
  generalize (a||bL e0)=c
  show cE [c,b] 0 [r00,r01] 2=_
  have:cE [c,b] 0 [r00,r01] 1=[c||bL r00&&c,b]:=rfl
  show (let R':=cE [c,b] 0 [r00,r01] 1; R'.set 0 (R'.getD 0 false||([r00,r01].map bL).getD 1 false&&R'.getD 1 false))=_
  rw[this]
  show [(c||bL r00&&c)||(bL r01&&b),b]=_
  rw[h4,bLN]
 have q2:∀ c,kG x [c,b] 1=[c,true]:=by
  intro c
  unfold kG
  rw[h1,h2]
  have:cE [c,true] 1 [r10,r11] 1=[c,true||bL r10&&c]:=rfl
  show cE [c,b||bL e1] 1 [r10,r11] 2=_
  rw[h3,Bool.or_true]
  show (let R':=cE [c,true] 1 [r10,r11] 1; R'.set 1 (R'.getD 1 false||([r10,r11].map bL).getD 1 false&&R'.getD 1 false))=_
  rw[this,Bool.true_or]
  show [c,true||bL r11&&true]=_
  rw[Bool.true_or]
 refine⟨_,by rw[show cQ x [a,b] 2=kG x (kG x [a,b] 0) 1 from rfl,q1,q2],?_,?_⟩
 ·rintro rfl; rw[Bool.or_true]
 ·rintro rfl; simp
theorem blP {x:bZ} {e0 e1 r00 r01 r10 r11:RF} (h1:x.exit=[e0,e1]) (h2:x.bIY=[[r00,r01],[r10,r11]]) (h3:bL e1=true) (h4:bL r01=true):oK x=true:=by
 unfold oK
 rw[h1]
 show ((cS x 3).all id)=true
 have e:∀ r,cS x (r+1)=cQ x (cS x r) 2:=fun r=>by rw[cS,h1]; rfl
 have e0:cS x 0=[false,false]:=by rw[cS,h1]; rfl
 obtain⟨c1,k1,-,-⟩:=PL h1 h2 h3 h4 false false
 obtain⟨c2,k2,k3,-⟩:=PL h1 h2 h3 h4 c1 true
 obtain⟨c3,k4,k5,-⟩:=PL h1 h2 h3 h4 c2 true
 rw[e,e,e,e0,k1,k2,k4,k5 rfl]
 rfl
theorem aGY {c:Nat}:∀ {cs:List Nat},c∈cs→c≤cs.sum
 | k::t,h=>by
  rw[List.sum_cons]
  rcases bLO.1 h with rfl | h
  ·omega
  ·have:=aGY h; omega
theorem SR {α:Type} {l:List α} (h:l.length=2):∃ a b,l=[a,b]:=by
 match l,h with
 | [a,b],_=>exact⟨a,b,rfl⟩
theorem bzB (cs:List Nat) (h:cs.sum=8):(match nE ((cs.map fun c=>mkT ((c:Nat):Int) ((8:Nat):Int)).map RF.v) with
  | .ok (n,a,b)=>decide (pC n a b false 1 1=0)
  | .error _=>false)=true:=by
 have hle:∀ c∈cs,c≤8:=fun c hc=>by
  have:=aGY hc
  omega
 have e:((cs.map fun c=>mkT ((c:Nat):Int) ((8:Nat):Int)).map RF.v)=cs.map eV:=by
  rw[List.map_map]
  refine List.map_congr_left fun c hc=>?_
  have:=hle c hc
  exact (SmF.mk' (a:=c) (b:=8) Om (by decide) (by decide)).v
 rw[e]
 exact bvX cs h
theorem xK {α:Type} {p:α→Bool} {l:List α} (h:∀ i (hi:i<l.length),p l[i]=true):l.all p=true:=by
 rw[bLU]
 intro x hx
 obtain⟨i,hi,rfl⟩:=bMO hx
 exact h i hi
theorem a7R (l:List Nat) (a:Nat) (nm:List UInt8):jZ { (qA l 2 a).1 with name:=nm }=true∧({ (qA l 2 a).1 with name:=nm }:bZ).Ok:=by
 obtain⟨n,hn⟩:∃ n,n=1+(aC l 2 a).1:=⟨_,rfl⟩
 have hn2:n=1∨n=2:=by have:=bT l (show 0<2 by decide) a; omega
 obtain⟨cs,h1,⟨h2,h3,h4⟩,⟨h5,h5'⟩,h6,h7⟩:=apU l n (aC l 2 a).2 n (bLG _)
 generalize hs:fO l n (aC l 2 a).2 n=s at *
 have e:({ (qA l 2 a).1 with name:=nm }:bZ)=⟨nm,s.start,s.bIY,s.exit⟩:=by
  simp only[qA,← hn,hs]
 rw[e]
 have hsum:cs.sum=8:=by have:=h5' rfl Om; omega
 have hle:∀ c∈cs,c≤8:=fun c hc=>by
  have:=aGY hc
  omega
 have hstart:∀ x∈s.start,rV x:=by
  intro x hx
  rw[h1] at hx
  obtain⟨c,hc,rfl⟩:=bMF.1 hx
  have:=hle c hc
  exact (SmF.mk' (a:=c) (b:=8) Om (by decide) (by decide)).o
 have hsl:s.start.length=n:=by rw[h1,bKY,h4]
 have hends:oK ⟨nm,s.start,s.bIY,s.exit⟩=true:=by
  rcases hn2 with rfl | rfl
  ·obtain⟨e,he⟩:=List.length_eq_one_iff.1 h2
   obtain⟨rw_,hr⟩:=List.length_eq_one_iff.1 h3
   have hrl:=(h7 0 Om).1
   obtain⟨r,hr2⟩:=List.length_eq_one_iff.1 hrl
   have hx:=(h6 0 Om).2 rfl
   simp only[hr,List.getElem_cons_zero] at hr2
   simp only[he,List.getElem_cons_zero] at hx
   exact blO he (by rw[hr,hr2]) hx
  ·obtain⟨e0,e1,he⟩:=SR h2
   obtain⟨r0,r1,hr⟩:=SR h3
   have hr0:=(h7 0 Om).1
   have hr1:=(h7 1 Om).1
   have hx:=(h6 1 Om).2 rfl
   have hy:=((h7 0 Om).2 1 Om).2.2 rfl
   simp only[he,List.getElem_cons_succ,List.getElem_cons_zero] at hx
   simp only[hr,List.getElem_cons_succ,List.getElem_cons_zero] at hr0 hr1 hy
   obtain⟨r00,r01,h00⟩:=SR hr0
   obtain⟨r10,r11,h10⟩:=SR hr1
   simp only[h00,List.getElem_cons_succ,List.getElem_cons_zero] at hy
   exact blP he (by rw[hr,h00,h10]) hx hy
 constructor
 ·unfold jZ
  simp only[bLT]
  refine⟨⟨⟨⟨⟨⟨⟨?_,?_⟩,?_⟩,?_⟩,?_⟩,?_⟩,?_⟩,hends⟩
  ·rw[within_iff]; omega
  ·exact decide_eq_true Om
  ·exact decide_eq_true Om
  ·exact bLU.2 fun x hx=>(hstart x hx).lim
  ·exact xK fun i hi=>(h6 i hi).1.lim
  ·rw[bLU]
   intro i hi
   rw[bMQ] at hi
   obtain⟨k1,k2⟩:=h7 i hi
   have eg:s.bIY.getD i []=s.bIY[i]:=by simp[bLP,hi]
   rw[eg,bLT,bLT]
   refine⟨⟨decide_eq_true Om,xK fun j hj=>(k2 j hj).1.lim⟩,?_⟩
   have hij:i<s.bIY[i].length:=by omega
   rw[getD_at hij,(k2 i hij).2.1 rfl]
   rfl
  ·rw[h1]; exact bzB cs hsum
 ·have hf:∀ m:Nat,m≤2→m≤9223372036854775807:=fun m hm=>by omega
  have hnl:n≤2:=by omega
  refine⟨⟨?_,fun x hx=>(hstart x hx).ok⟩,⟨?_,fun x hx=>?_⟩,?_,fun r hr=>⟨?_,fun x hx=>?_⟩⟩
  ·exact hf s.start.length Om
  ·exact hf s.exit.length Om
  ·obtain⟨i,hi,rfl⟩:=bMO hx
   exact (h6 i hi).1.ok
  ·exact hf s.bIY.length Om
  ·obtain⟨i,hi,rfl⟩:=bMO hr
   have:=(h7 i hi).1
   exact hf (s.bIY[i]'hi).length Om
  ·obtain⟨i,hi,rfl⟩:=bMO hr
   obtain⟨j,hj,rfl⟩:=bMO hx
   exact ((h7 i hi).2 j hj).1.ok
theorem UF (l:List Nat) (a:Nat):∀ n,(gP l a n).1.length=n∧∀ i (hi:i<(gP l a n).1.length),(gP l a n).1[i].name=[108,97,119]++bV i∧jZ (gP l a n).1[i]=true∧(gP l a n).1[i].Ok
 | 0=>⟨rfl,fun i hi=>absurd hi (by simp[gP])⟩
 | n+1=>by
  obtain⟨h1,h2⟩:=UF l a n
  have e:(gP l a (n+1)).1=(gP l a n).1++[{ (qA l 2 (gP l a n).2).1 with name:=[108,97,119]++bV n }]:=rfl
  rw[e]
  refine⟨by simp[h1],qY (P:=fun i (x:bZ)=>x.name=[108,97,119]++bV i∧jZ x=true∧x.Ok) h2 ?_⟩
  rw[h1]
  exact⟨rfl,a7R l _ _⟩
theorem ML (l:List Nat) (bJD:Nat) (hl:0<bJD) (a:Nat):∀ n,(eE l bJD a n).1.length=n∧∀ i (hi:i<(eE l bJD a n).1.length),(eE l bJD a n).1[i].name=[109]++bV i∧∃ e p w:Nat,(eE l bJD a n).1[i].bJO=e∧1≤e∧e≤4∧(eE l bJD a n).1[i].port=p∧1≤p∧p≤8∧(eE l bJD a n).1[i].law=w∧w<bJD
 | 0=>⟨rfl,fun i hi=>absurd hi (by simp[eE])⟩
 | n+1=>by
  obtain⟨h1,h2⟩:=ML l bJD hl a n
  obtain⟨s,hs⟩:∃ s,s=eE l bJD a n:=⟨_,rfl⟩
  have e:(eE l bJD a (n+1)).1=(eE l bJD a n).1++[⟨[109]++bV n,(1+(aC l 4 s.2).1:Nat),(1+(aC l 8 (aC l 4 s.2).2).1:Nat),((aC l bJD (aC l 8 (aC l 4 s.2).2).2).1:Nat)⟩]:=by rw[hs]; rfl
  rw[e]
  refine⟨by simp[h1],qY (P:=fun i (x:cL)=>x.name=[109]++bV i∧∃ e p w:Nat,x.bJO=e∧1≤e∧e≤4∧x.port=p∧1≤p∧p≤8∧x.law=w∧w<bJD) h2 ?_⟩
  rw[h1]
  have k1:=bT l (show 0<4 by decide) s.2
  have k2:=bT l (show 0<8 by decide) (aC l 4 s.2).2
  have k3:=bT l hl (aC l 8 (aC l 4 s.2).2).2
  exact⟨rfl,_,_,_,rfl,by omega,by omega,rfl,by omega,by omega,rfl,k3⟩
end Go.PM
