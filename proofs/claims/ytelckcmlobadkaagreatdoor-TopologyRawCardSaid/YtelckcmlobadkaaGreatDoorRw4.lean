/-
  Texts of ours, joined: MkPlain MkW1 Pm35 Pm36 MkW2 MkW3 MkW4 MkW5 MkW6 MkW7 MkW8 MkW9 MkW10 MkW11 MkW12 MkW13 MkW14 MkW15 MkW16 L11W1 R2Code R2W1 R2W2 R2W3 R2W4 R2W5 R2W6 R2W7 R2W8 Jn1 Jn2 L11P1 L11W2 L11W3 Mv1 Mv2 Mv3 Mv4 . No condition.
-/
import Derived.Test.YtelckcmlobadkaaGreatDoorRw1
import Derived.Test.YtelckcmlobadkaaGreatDoorRw2
import Derived.Test.YtelckcmlobadkaaGreatDoorRw3
import Derived.Lib.ItoaNum
set_option linter.unusedSimpArgs false
set_option linter.unusedVariables false
open Nat renaming reduceEqDiff → γ, reduceAdd → δ, reduceSub → ε, reduceMul → ζ, reduceLT → η, reduceLeDiff → θ, reduceBEq → τ
open Int renaming reduceLT → ι, reduceLE → κ, reduceEq → μ, reduceToNat → ν, reduceAdd → ξ, reduceNeg → ο, reduceBEq → ρ, reduceBNe → σ
open List renaming reduceReplicate → υ
open List renaming length_map → bIM, range → bIN, replicate → bIP, length_append → bIQ, getElem_mem → bIS, length_singleton → bIX, getElem?_eq_getElem → bIZ, mem_cons → bJB, take_of_length_le → bJD, getD_eq_getElem?_getD → bJE, length_take → bJF, not_mem_nil → bJI, all_eq_true → bJL, take_length → bJN, append_assoc → bJO, drop_zero → bJR, getElem?_map → bJU, mem_map → bJV, getElem?_eq_none → bJY, append_nil → bJZ, getElem?_eq_some_iff → bKA, map_cons → bKD, drop_eq_getElem_cons → bKE, Sublist → bKH, getElem_map → bKI, mem_append → bKL, take_succ_eq_append_getElem → bKM, length_drop → bKQ, mem_range → bKR, length_set → bKU, map_append → bKV, map_nil → bKW, mem_of_getElem? → bKX, length_nil → bLA, take_append_drop → bLB, getElem?_append_left → bLF, length_cons → bLG, nodup_append → bLH, ext_getElem → bLI, getElem?_append_right → bLJ, getElem?_take → bLK, getElem_of_mem → bLL, set_append_right → bLM, drop_of_length_le → bLT
open Bool renaming not_true → bIO, false_and → bIV, not_false → bIY, true_and → bJC, and_eq_true → bJK, and_false → bJW, and_true → bKZ, and_assoc → bLE, false_eq_true → bLS
open Nat renaming gcd → bIR, zero_le → bIT, le_refl → bIU, mul_add → bJA, lt_or_ge → bJG, mul_assoc → bJH, zero_add → bJJ, mul_comm → bJM, add_mul → bJP, mul_le_mul_right → bJQ, mod_eq_of_lt → bJT, mod_lt → bJX, pow_succ → bKB, add_zero → bKF, le_trans → bKG, min_eq_left → bKJ, eq_zero_or_pos → bKN, mul_le_mul_left → bKO, pos_of_ne_zero → bKP, add_assoc → bKS, pow_pos → bKY, div_lt_iff_lt_mul → bLC, div_add_mod → bLN, div_eq_of_lt → bLO
open Option renaming map_eq_some_iff → bIW, map_some → bJS, getD_some → bKK, some → bKT, bind_eq_some_iff → bLP, bind_some → bLQ
open Array renaming replicate → bKC, length_toList → bLD, getElem?_eq_getElem → bLR, getElem?_eq_some_iff → bLU
namespace Go.PM
open Go Go.Na
def aJ (l:List Nat) (n a:Nat):Nat × Nat:=if l.length≤a∨n<2 then (0,a) else (l.getD a 0%n,a+1)
theorem eO (l:List Nat) {n:Nat} (h:0<n) (a:Nat):(aJ l n a).1<n:=by
 unfold aJ
 split
 ·exact h
 ·exact bJX _ h
theorem bM (l:List Nat) (n:Nat) {a:Nat} (h:a≤l.length):(aJ l n a).2≤l.length:=by
 unfold aJ
 split
 ·exact h
 ·simp only; omega
def fD (l:List Nat) (a:Nat):RF × Nat :=
 let x:=aJ l 6 a
 let y:=aJ l 8 x.2
 (mkT ((1+x.1:Nat):Int) ((1+y.1:Nat):Int),y.2)
abbrev mA:RF:=mkT 0 1
def jU (l:List Nat) (i j a:Nat):RF × Nat :=
 if j=i+1 then fD l a
 else if j=i then (mA,a)
 else let t:=aJ l 3 a
  if t.1=0 then fD l t.2 else (mA,t.2)
def eD (l:List Nat) (i a:Nat):Nat→List RF × Nat
 | 0=>([],a)
 | j+1=>let s:=eD l i a j
  let z:=jU l i j s.2
  (s.1++[z.1],z.2)
structure EJ where
 start:List RF
 exit:List RF
 bGM:List (List RF)
 left:Nat
 a:Nat
def dZ (l:List Nat) (n i:Nat) (s:EJ):Nat × Nat:=if i+1<n then aJ l (s.left+1) s.a else (s.left,s.a)
def fI (l:List Nat) (n i a:Nat):RF × Nat :=
 let e:=fD l a
 if i+1<n then (let t:=aJ l 3 e.2; (if t.1=0 then mA else e.1,t.2)) else e
def gP (l:List Nat) (n a:Nat):Nat→EJ
 | 0=>⟨[],[],[],8,a⟩
 | i+1=>let s:=gP l n a i
  let k:=dZ l n i s
  let e:=fI l n i k.2
  let r:=eD l i e.2 n
  ⟨s.start++[mkT (k.1:Nat) 8],s.exit++[e.1],s.bGM++[r.1],s.left-k.1,r.2⟩
def xX (l:List Nat) (dS a:Nat):bZ × Nat :=
 let t:=aJ l dS a
 let s:=gP l (1+t.1) t.2 (1+t.1)
 (⟨[],s.start,s.bGM,s.exit⟩,s.a)
def mH (l:List Nat) (a:Nat):Nat→List RF × Nat
 | 0=>([],a)
 | k+1=>let s:=mH l a k
  let z:=fD l s.2
  (s.1++[z.1],z.2)
abbrev cN (n:Nat):List UInt8:=Lib.decDigits n
def mS (l:List Nat) (a:Nat):Nat→List bZ × Nat
 | 0=>([],a)
 | k+1=>let s:=mS l a k
  let z:=xX l 2 s.2
  (s.1++[{ z.1 with name:=[108,97,119]++cN k }],z.2)
def gV (l:List Nat) (bGR a:Nat):Nat→List cH × Nat
 | 0=>([],a)
 | k+1=>let s:=gV l bGR a k
  let x:=aJ l 4 s.2
  let y:=aJ l 8 x.2
  let z:=aJ l bGR y.2
  (s.1++[⟨[109]++cN k,(1+x.1:Nat),(1+y.1:Nat),(z.1:Nat)⟩],z.2)
structure GS where
 bGT:List cG
 bHH:List dD
 a:Nat
def kT (l:List Nat) (mc bGG domain:Nat) (s:GS):Nat→GS
 | 0=>s
 | i+1=>let s:=kT l mc bGG domain s i
  if s.bHH.length<bGG then
   let t:=aJ l mc s.a
   { s with bHH:=s.bHH++[⟨[100]++cN s.bHH.length,(t.1:Nat),(domain:Nat)⟩],a:=t.2 }
  else s
def nD (level:Nat):UInt8:=match level with
 | 0=>45
 | 1=>115
 | 2=>114
 | 3=>107
 | _=>109
def sN (l:List Nat) (level domain:Nat) (s:GS):GS :=
 let u:=aJ l 16 s.a
 let t:=aJ l 3 u.2
 let k:=aJ l 6 t.2
 let sh:RF × Nat:=if t.1=0 then (mkT 1 ((2+k.1:Nat):Int),k.2) else (mA,t.2)
 { s with bGT:=s.bGT++[⟨[nD level]++cN s.bGT.length,(level:Nat),(domain:Nat),(1+u.1:Nat),sh.1⟩],a:=sh.2 }
def rM (bGG:Nat) (s:GS):Bool:=decide (bGG≤s.bHH.length)||decide (35≤s.bGT.length)
def iR (l:List Nat) (level bGG domain:Nat) (rec:Nat→GS→GS) (s:GS):Nat→GS
 | 0=>s
 | i+1=>let s:=iR l level bGG domain rec s i
  if rM bGG s then s else (let s':=sN l level domain s; rec (s'.bGT.length-1) s')
def eZ (l:List Nat) (mc bGG:Nat):Nat→Nat→GS→GS
 | 0,domain,s=>let t:=aJ l 2 s.a
  kT l mc bGG domain { s with a:=t.2 } (1+t.1)
 | k+1,domain,s=>let t:=aJ l 2 s.a
  iR l (4-k) bGG domain (eZ l mc bGG k) { s with a:=t.2 } (if 4-k=2 then 1 else 1+t.1)
def wA:cG:=⟨[],0,-1,0,mA⟩
def kF (l:List Nat) (a:Nat):Int × Nat :=
 let t:=aJ l 3 a
 let k:=aJ l 3 t.2
 if t.1=0 then ((1+k.1:Nat),k.2) else (0,t.2)
def tB (l:List Nat) (bGH i a:Nat):cF × Nat :=
 let k:=aJ l 2 a
 let m:=aJ l 3 k.2
 let h:=aJ l 4 m.2
 let q:=aJ l (m.1+1) h.2
 let r:=mH l q.2 (max m.1 1)
 let g:=aJ l 9 r.2
 let s1:=kF l g.2
 let s2:=kF l s1.2
 let s3:=kF l s2.2
 let s4:=kF l s3.2
 let f:=aJ l bGH s4.2
 let b:=aJ l 2 f.2
 let ms:List Int × Nat:=if 1<bGH then (if b.1=0 then ([(f.1:Int),1-(f.1:Int)],b.2) else ([(f.1:Int)],b.2)) else ([(f.1:Int)],f.2)
 (⟨[112]++cN i,(1+k.1:Nat),(m.1:Nat),(1+k.1+q.1:Nat),0,s1.1,s2.1,s3.1,s4.1,ms.1,r.1,mkT (g.1:Nat) 8,mkT ((1+h.1:Nat):Int) 1⟩,ms.2)
def fP (l:List Nat) (bGH a:Nat):Nat→List cF × Nat
 | 0=>([],a)
 | k+1=>let s:=fP l bGH a k
  let z:=tB l bGH k s.2
  (s.1++[z.1],z.2)
def gR (l:List Nat) (pols a:Nat):Nat→List eF × Nat
 | 0=>([],a)
 | k+1=>let s:=gR l pols a k
  let z:=aJ l pols s.2
  (s.1++[⟨[118]++cN k,(z.1:Nat)⟩],z.2)
def kK (l:List Nat) (bGG bGJ a:Nat):aE × Nat :=
 let e:=aJ l 2 a
 let lw:=aJ l 2 e.2
 let bGR:=mS l lw.2 (1+lw.1)
 let md:=aJ l 2 bGR.2
 let bGH:=gV l (1+lw.1) md.2 (1+md.1)
 let g:=eZ l (1+md.1) bGG 4 0 ⟨[wA],[],bGH.2⟩
 let pl:=aJ l 2 g.a
 let pols:=fP l (1+md.1) pl.2 (1+pl.1)
 let vo:=aJ l (bGJ+1) pols.2
 let vols:=gR l (1+pl.1) vo.2 vo.1
 (⟨(1+e.1:Nat),bGR.1,bGH.1,g.bGT,g.bHH,pols.1,vols.1⟩,vols.2)
abbrev mV (l:List Nat):List (List PV):=l.map fun (n:Nat)=>[PV.int .u8 (n:Int)]
theorem PW (l:List Nat):(mV l).length=l.length:=by simp
theorem boH (l:List Nat) {i:Nat} (h:i<l.length):(mV l)[i]?=some [.int .u8 (l[i]:Nat)]:=by simp[h]
abbrev bJ (v:PV) (a:Nat):cE:=.rows 2 [[v,.int .i64 a]]
structure Tp (l:List Nat) (v:PV):Prop where
 seen:Seen 1 v (mV l)
 byte:∀ x∈l,x<256
 len:l.length≤400
def a2K (l:List Nat) (r:PV) (H:PH):Prop:=∃ o v,r=.ptr o 2 0 0∧Tp (l.take 400) v∧H=PH.nil.set o (bJ v 0)
theorem axB {t q s:Nat} {rs:List (List PV)} {F:PF} {H H2:PH} {R:PV→PH→Prop} {v:PV} {e:lP} (he:e=.normal∨e=.ret) (ht:F t=some v) (hq:H q=some (.rows s rs)) (hH:H2.le (H.frz q s rs)) (hR:R (PV.frz q s rs v) H2):aR [.tmp t] R e F H:=by
 have key:∃ vs,dW.evs F H [.tmp t]=some vs∧∃ F1 H1 H2,jI (PF.nil.set 0 (bH vs)) H F1 H1∧H2.le H1∧∃ u,F1 0=some u∧R u H2:=by
  refine⟨[v],by rw[kP,nH,ht,pC],_,_,H2,.step q hq (.refl _ _),hH,PV.frz q s rs v,?_,hR⟩
  rw[rL,mJ,if_pos rfl,bJS]
  rfl
 rcases he with rfl | rfl<;>exact key
theorem bsD {C:Ctx} (l:List Nat) (hb:∀ x∈l,x<256) (hl:l.length≤9223372036854775807):MT.wp C (aR a6N.res (a2K l)) (PF.args [.sl 1 (mV l)]) .nil:=by
 simp only[go_sem,γ,reduceCtorEq,MT,aVX,aVY,a6N,bIM]
 have fin:∀ F:PF,F 0=some (.sl 1 (mV (l.take 400)))→aB.wp C (.seq (.region akQ) .ret) (aR [.tmp 2] (a2K l)) F .nil:=by
  intro F f0
  have htl:(l.take 400).length≤400:=by rw[bJF]; omega
  have hbt:∀ x∈l.take 400,x<256:=fun x hx=>hb x (List.mem_of_mem_take hx)
  have hR:∀ o v,Seen 1 v (mV (l.take 400))→a2K l (.ptr o 2 0 0) (PH.nil.set o (bJ v 0)):=fun o v hv=>⟨o,v,rfl,⟨hv,hbt,htl⟩,rfl⟩
  generalize hL:l.take 400=L at *
  simp only[go_sem,δ,γ,θ,akQ,f0]
  refine yV (src:=mV L) rfl ?_ (fun h=>?_) fun h o ho=>?_
  ·unfold roomFor
   rw[PW]
   simp only[maxLen]; omega
  ·simp only[go_sem,δ,γ,bJB,bJI,or_false,forall_eq]
   refine aO fun o ho=>?_
   simp only[go_sem,γ]
   exact aV (vs:=[.ptr o 2 0 0]) (.inr rfl) (PH.nil.set o (bJ .bGI 0)) rfl PH.le_refl (hR o .bGI (.inl ⟨h,rfl⟩))
  ·simp only[go_sem,δ,γ,bJB,bJI,or_false,forall_eq]
   refine aO fun p hp=>?_
   have hne:¬ p=o:=(gT.1 hp).1
   have bHN:¬ o=p:=fun h=>hne h.symm
   simp only[go_sem,γ]
   refine axB (v:=.ptr p 2 0 0) (q:=o) (s:=1) (rs:=mV L) (H2:=PH.nil.set p (bJ (.sl 1 (mV L)) 0)) (.inr rfl) rfl (by simp only[go_sem,bHN]) (PH.aF PH.nil_le ?_) (hR p _ (.inr rfl))
   have h2:(mV L).take L.length=mV L:=bJD (by rw[PW]; exact bIU _)
   simp only[go_sem,hne,cE.frz,PV.dP,bIM,h2]
   rfl
 simp only[aB.wp,go_sem] at fin
 by_cases c:l.length>400
 ·have c':((l.length:Nat):Int)>400:=by omega
  have c2:(400:Int)≤((l.length:Nat):Int):=by omega
  simp only[go_sem,κ,ν,γ,reduceCtorEq,c',aVZ,bIM,c2]
  refine fin _ ?_
  rw[mJ,if_pos rfl]
  simp[mV]
 ·have c':¬ ((l.length:Nat):Int)>400:=by omega
  simp only[go_sem,c']
  refine fin _ ?_
  rw[bJD Om]
  simp only[go_sem,reduceCtorEq]
def ZQ (l:List Nat) (v:PV) (o n a:Nat) (r:PV) (H:PH):Prop:=r=.int .i64 ((aJ l n a).1:Nat)∧H=PH.nil.set o (bJ v (aJ l n a).2)
theorem blJ {C:Ctx} {l:List Nat} {v:PV} (T:Tp l v) (o n a:Nat) (hn:n≤1000000) (ha:a≤l.length):vY.wp C (aR acU.res (ZQ l v o n a)) (PF.args [.ptr o 2 0 0,.int .i64 n]) (PH.nil.set o (bJ v a)):=by
 obtain⟨hv,hb,hl⟩:=T
 have zero:(l.length≤a∨n<2)→∀ F,aB.wp C (.seq (.region WZ) .ret) (aR [.tmp 4] (ZQ l v o n a)) F (PH.nil.set o (bJ v a)):=by
  intro h F
  have e:aJ l n a=(0,a):=by unfold aJ; rw[if_pos h]
  simp only[go_sem,WZ]
  exact aV (vs:=[.int .i64 0]) (.inr rfl) _ rfl PH.le_refl ⟨by rw[e]; rfl,by rw[e]⟩
 simp only[aB.wp,go_sem] at zero
 rcases hv with ⟨h1,rfl⟩ | rfl
 ·have h0:l.length=0:=by rw[← PW,h1]; rfl
  have hge:(a:Int)≥0:=by omega
  simp only[go_sem,vY,WY,acU]
  refine bK .nil dC PH.nil_le ?_
  simp only[go_sem,δ,γ,θ,reduceCtorEq,GT,hge]
  exact zero (.inl Om) _
 simp only[go_sem,vY,WY,acU]
 refine bK .nil dC PH.nil_le ?_
 by_cases c1:l.length≤a
 ·have c1':(a:Int)≥(l.length:Nat):=by omega
  simp only[go_sem,δ,γ,θ,reduceCtorEq,GT,bIM,c1']
  exact zero (.inl c1) _
 have c1':¬ (a:Int)≥(l.length:Nat):=by omega
 simp only[go_sem,δ,γ,θ,reduceCtorEq,GT,bIM,c1']
 by_cases c2:n<2
 ·have c2':(n:Int)<2:=by omega
  simp only[go_sem,c2']
  exact zero (.inr c2) _
 have c2':¬ (n:Int)<2:=by omega
 have hal:a<l.length:=by omega
 have e:aJ l n a=(l[a]%n,a+1):=by
  unfold aJ
  rw[if_neg Om]
  simp[bJE,hal]
 have ew:IntKind.i64.wrap ((a:Int)+1)=((a+1:Nat):Int):=cS Om
 have ep:IntKind.i64.wrap (((a+1:Nat):Int)-1)=((a:Nat):Int):=by rw[wrap_i64 Om Om]; omega
 have hr:=boH l hal
 have hx:=hb _ (bIS hal)
 have eb:IntKind.i64.wrap ((l[a]:Nat):Int)=((l[a]:Nat):Int):=yX Om
 have hn0:¬ ((n:Nat):Int)=0:=by omega
 have em:Int.tmod ((l[a]:Nat):Int) ((n:Nat):Int)=((l[a]%n:Nat):Int):=rfl
 simp only[go_sem,δ,γ,reduceCtorEq,c2',aGC,ew]
 refine bK .nil dC PH.nil_le ?_
 simp only[go_sem,δ,γ,θ,reduceCtorEq,aGD,ep,hr,eb,hn0,em]
 exact aV (vs:=[.int .i64 (l[a]%n:Nat)]) (.inr rfl) _ rfl PH.le_refl ⟨by rw[e]; rfl,by rw[e]⟩
def PV.oid:PV→Option Nat
 | .osl q _ _ _=>some q
 | _=>none
abbrev LI:=PV × Nat × List (List PV)
abbrev BX:=Nat × cE
def eC (B:List BX):List Nat:=B.map (·.1)
def dR (L:List LI):List Nat:=L.filterMap fun x=>x.1.oid
structure aT (H:PH) (B:List BX) (L:List LI):Prop where
 box:∀ b∈B,H b.1=some b.2
 lst:∀ x∈L,aX H x.2.1 x.1 x.2.2
 nd:(eC B++dR L).Nodup
section
variable {C:Ctx} {H:PH} {B:List BX} {L:List LI} {K:PV→PH→Prop}
theorem aX.id {s q:Nat} {v:PV} {rows:List (List PV)} (h:aX H s v rows) (hq:v.oid=some q):∃ rs,H q=some (.rows s rs)∧v=.osl q s 0 rows.length∧rows.length≤rs.length∧rs.take rows.length=rows:=by
 rcases h with ⟨_,rfl⟩ | ⟨p,rs,rfl,h1,h2,h3⟩
 ·cases hq
 ·cases hq
  exact⟨rs,h1,rfl,h2,h3⟩
theorem aX.same {s:Nat} {v:PV} {rows:List (List PV)} {H':PH} (h:aX H s v rows) (hk:∀ q,v.oid=some q→H' q=H q):aX H' s v rows:=by
 rcases h with h | ⟨p,rs,rfl,h1,h2,h3⟩
 ·exact .inl h
 ·exact .inr ⟨p,rs,rfl,by rw[hk p rfl]; exact h1,h2,h3⟩
theorem kN {x:LI} {q:Nat} (h:x∈L) (hq:x.1.oid=some q):q∈dR L:=List.mem_filterMap.2 ⟨x,h,hq⟩
theorem sY {b:BX} (h:b∈B):b.1∈eC B:=bJV.2 ⟨b,h,rfl⟩
theorem aT.nil:aT H [] []:=⟨by simp,by simp,by simp[eC,dR]⟩
theorem aT.at (h:aT H B L) (i:Nat) {o:Nat} {x:cE} (hi:B[i]?=some (o,x)):H o=some x:=h.box _ (bKX hi)
theorem aT.own (h:aT H B L) (i:Nat) {s:Nat} {v:PV} {rows:List (List PV)} (hi:L[i]?=some (v,s,rows)):aX H s v rows:=h.lst _ (bKX hi)
theorem aT.ndB (h:aT H B L):(eC B).Nodup:=(bLH.1 h.nd).1
theorem aT.ndL (h:aT H B L):(dR L).Nodup:=(bLH.1 h.nd).2.1
theorem aT.ndX (h:aT H B L) {o q:Nat} (ho:o∈eC B) (hq:q∈dR L):o≠q:=(bLH.1 h.nd).2.2 o ho q hq
theorem aT.ne (h:aT H B L) (i j:Nat) {o p:Nat} {x y:cE} (hi:B[i]?=some (o,x)) (hj:B[j]?=some (p,y)) (hij:i≠j):o≠p:=by
 intro e
 have h1:(eC B)[i]?=some o:=by unfold eC; rw[bJU,hi]; rfl
 have h2:(eC B)[j]?=some p:=by unfold eC; rw[bJU,hj]; rfl
 obtain⟨li,e1⟩:=bKA.1 h1
 obtain⟨lj,e2⟩:=bKA.1 h2
 have hp:=List.pairwise_iff_getElem.1 h.ndB
 rcases Nat.lt_or_gt_of_ne hij with g | g
 ·exact hp i j li lj g (by rw[e1,e2,e])
 ·exact hp j i lj li g (by rw[e1,e2,e])
theorem aT.neL (h:aT H B L) (i j:Nat) {o q:Nat} {x:cE} {y:LI} (hi:B[i]?=some (o,x)) (hj:L[j]?=some y) (hq:y.1.oid=some q):o≠q :=
 h.ndX (sY (bKX hi)) (kN (bKX hj) hq)
theorem aT.fresh (h:aT H B L) {o:Nat} (ho:H o=none):o ∉ eC B∧o ∉ dR L:=by
 refine⟨fun hm=>?_,fun hm=>?_⟩
 ·obtain⟨b,hb,rfl⟩:=bJV.1 hm
  rw[h.box b hb] at ho; cases ho
 ·obtain⟨x,hx,e⟩:=List.mem_filterMap.1 hm
  obtain⟨rs,h1,_⟩:=(h.lst x hx).id e
  rw[h1] at ho; cases ho
theorem aT.keep (h:aT H B L) {H':PH} (hk:∀ q,q∈eC B∨q∈dR L→H' q=H q):aT H' B L :=
 ⟨fun b hb=>by rw[hk _ (.inl (sY hb))]; exact h.box b hb,fun x hx=>(h.lst x hx).same fun q hq=>hk q (.inr (kN hx hq)),h.nd⟩
theorem bkD {i:Nat} {o:Nat} {x y:cE} (hi:B[i]?=some (o,x)):eC (B.set i (o,y))=eC B:=by
 unfold eC
 rw[List.map_set]
 refine List.ext_getElem? fun j=>?_
 rw[List.getElem?_set]
 split
 ·rename_i e
  subst e
  rw[bJU,hi]
  have:=(bKA.1 hi).1
  simp[this]
 ·rfl
theorem aT.set (h:aT H B L) (i:Nat) {o:Nat} {x:cE} (hi:B[i]?=some (o,x)) (y:cE):aT (H.set o y) (B.set i (o,y)) L:=by
 have hoB:o∈eC B:=sY (bKX hi)
 refine⟨fun b hb=>?_,fun z hz=>(h.lst z hz).same fun q hq=>?_,by rw[bkD hi]; exact h.nd⟩
 ·obtain⟨j,hj⟩:=List.mem_iff_getElem?.1 hb
  rw[List.getElem?_set] at hj
  split at hj
  ·split at hj
   ·cases hj; simp only[bA,if_true]
   ·cases hj
  ·rename_i hne
   have:b.1≠o:=fun e=>h.ne i j hi (show B[j]?=some (b.1,b.2) from hj) hne e.symm
   rw[bA,if_neg this]
   exact h.box b (bKX hj)
 ·have:q≠o:=fun e=>h.ndX hoB (kN hz hq) e.symm
  rw[bA,if_neg this]
theorem aT.new (h:aT H B L) {o:Nat} (ho:H o=none) (y:cE):aT (H.set o y) (B++[(o,y)]) L:=by
 obtain⟨f1,f2⟩:=h.fresh ho
 refine⟨fun b hb=>?_,fun z hz=>(h.lst z hz).same fun q hq=>?_,?_⟩
 ·rw[bKL,List.mem_singleton] at hb
  rcases hb with hb | rfl
  ·have:b.1≠o:=fun e=>f1 (e ▸ sY hb)
   rw[bA,if_neg this]; exact h.box b hb
  ·simp only[bA,if_true]
 ·have:q≠o:=fun e=>f2 (e ▸ kN hz hq)
  rw[bA,if_neg this]
 ·have:=h.nd
  simp only[eC,bKV,bKD,bKW] at *
  rw[bJO,bLH] at *
  obtain⟨a,b,c⟩:=this
  refine⟨a,?_,fun p hp q hq=>?_⟩
  ·rw[List.singleton_append,List.nodup_cons]; exact⟨f2,b⟩
  ·rw[List.singleton_append,bJB] at hq
   rcases hq with rfl | hq
   ·intro e; subst e; exact f1 hp
   ·exact c p hp q hq
theorem kD (L1 L2:List LI):dR (L1++L2)=dR L1++dR L2:=List.filterMap_append ..
theorem aT.qD (h:aT H B L) (s:Nat):aT H B (L++[(.bGI,s,[])]):=by
 refine⟨h.box,fun z hz=>?_,?_⟩
 ·rw[bKL,List.mem_singleton] at hz
  rcases hz with hz | rfl
  ·exact h.lst z hz
  ·exact .nil
 ·rw[kD,show dR [((.bGI:PV),s,([]:List (List PV)))]=[] from rfl,bJZ]; exact h.nd
theorem aT.bvY (h:aT H B L) {o s:Nat} {rows:List (List PV)} (ho:H o=none):aT (H.set o (.rows s rows)) B (L++[(.osl o s 0 rows.length,s,rows)]):=by
 obtain⟨f1,f2⟩:=h.fresh ho
 have hk:=h.keep (H':=H.set o (.rows s rows)) fun q hq=>by
  have:q≠o:=by rintro rfl; exact hq.elim f1 f2
  rw[bA,if_neg this]
 refine⟨hk.box,fun z hz=>?_,?_⟩
 ·rw[bKL,List.mem_singleton] at hz
  rcases hz with hz | rfl
  ·exact hk.lst z hz
  ·exact .inr ⟨o,rows,rfl,by simp only[bA,if_true],bIU _,bJN⟩
 ·rw[kD,show dR [((.osl o s 0 rows.length:PV),s,rows)]=[o] from rfl,← bJO,bLH]
  refine⟨h.nd,by simp,fun p hp q hq=>?_⟩
  rw[List.mem_singleton] at hq
  subst hq
  rintro rfl
  rcases bKL.1 hp with hp | hp
  ·exact f1 hp
  ·exact f2 hp
theorem aDU {i:Nat} {v v':PV} {s s':Nat} {rows rows':List (List PV)} (hi:L[i]?=some (v,s,rows)):∃ L1 L2,L=L1++(v,s,rows)::L2∧L.set i (v',s',rows')=L1++(v',s',rows')::L2:=by
 obtain⟨hl,he⟩:=bKA.1 hi
 refine⟨L.take i,L.drop (i+1),?_,?_⟩
 ·rw[← he,← bKE hl,bLB]
 ·rw[List.set_eq_take_append_cons_drop,if_pos hl]
theorem aT.RS (h:aT H B L) (i:Nat) {s:Nat} {v:PV} {rows:List (List PV)} (hi:L[i]?=some (v,s,rows)) {s':Nat} {v':PV} {rows':List (List PV)} {H':PH} (ho:aX H' s' v' rows')
  (hid:∀ q,v'.oid=some q→v.oid=some q∨H q=none) (hk:∀ q,q∈eC B∨q∈dR L→(∀ p,v.oid=some p→q≠p)→H' q=H q):aT H' B (L.set i (v',s',rows')):=by
 obtain⟨L1,L2,e1,e2⟩:=aDU (v':=v') (s':=s') (rows':=rows') hi
 rw[e2]
 subst e1
 have hnd:=h.nd
 have eL:dR (L1++(v,s,rows)::L2)=dR L1++(v.oid.toList++dR L2):=by
  rw[kD]
  congr 1
  unfold dR
  rw[List.filterMap_cons]
  cases e:v.oid<;>simp
 have eL':dR (L1++(v',s',rows')::L2)=dR L1++(v'.oid.toList++dR L2):=by
  rw[kD]
  congr 1
  unfold dR
  rw[List.filterMap_cons]
  cases e:v'.oid<;>simp
 rw[eL] at hnd
 have other:∀ q,q∈eC B∨q∈dR L1∨q∈dR L2→∀ p,v.oid=some p→q≠p:=by
  intro q hq p hp e
  subst e
  rw[hp] at hnd
  simp only[Option.toList_some] at hnd
  rw[bLH] at hnd
  obtain⟨a,b,c⟩:=hnd
  rw[bLH] at b
  obtain⟨b1,b2,b3⟩:=b
  rw[List.singleton_append,List.nodup_cons] at b2
  rcases hq with hq | hq | hq
  ·exact c q hq q (by simp) rfl
  ·exact b3 q hq q (by simp) rfl
  ·exact b2.1 hq
 have keepq:∀ q,q∈eC B∨q∈dR L1∨q∈dR L2→H' q=H q:=by
  intro q hq
  refine hk q ?_ (other q hq)
  rw[eL]
  simp only[bKL]
  rcases hq with hq | hq | hq
  ·exact .inl hq
  ·exact .inr (.inl hq)
  ·exact .inr (.inr (.inr hq))
 refine⟨fun b hb=>by rw[keepq _ (.inl (sY hb))]; exact h.box b hb,fun z hz=>?_,?_⟩
 ·rw[bKL,bJB] at hz
  rcases hz with hz | rfl | hz
  ·exact (h.lst z (by simp[hz])).same fun q hq=>keepq q (.inr (.inl (kN hz hq)))
  ·exact ho
  ·exact (h.lst z (by simp[hz])).same fun q hq=>keepq q (.inr (.inr (kN hz hq)))
 ·rw[eL']
  cases e:v'.oid with
  | none =>
   simp only[Option.toList_none,List.nil_append]
   refine List.Nodup.sublist ?_ hnd
   exact bKH.append (bKH.refl _) (bKH.append (bKH.refl _) (List.sublist_append_right _ _))
  | some q =>
   rcases hid q e with hv | hn
   ·rw[hv] at hnd
    exact hnd
   ·obtain⟨f1,f2⟩:=h.fresh hn
    rw[eL] at f2
    simp only[bKL,not_or] at f2
    have hnd':(eC B++(dR L1++dR L2)).Nodup:=List.Nodup.sublist (bKH.append (bKH.refl _) (bKH.append (bKH.refl _) (List.sublist_append_right _ _))) hnd
    simp only[Option.toList_some]
    rw[bLH] at hnd' ⊢
    obtain⟨a,b,c⟩:=hnd'
    rw[bLH] at b
    obtain⟨b1,b2,b3⟩:=b
    refine⟨a,?_,?_⟩
    ·rw[bLH]
     refine⟨b1,by rw[List.singleton_append,List.nodup_cons]; exact⟨f2.2.2,b2⟩,fun p hp r hr=>?_⟩
     rw[List.singleton_append,bJB] at hr
     rcases hr with rfl | hr
     ·rintro rfl; exact f2.1 hp
     ·exact b3 p hp r hr
    ·intro p hp r hr
     rw[bKL,List.singleton_append,bJB] at hr
     rcases hr with hr | rfl | hr
     ·exact c p hp r (by simp[hr])
     ·rintro rfl; exact f1 hp
     ·exact c p hp r (by simp[hr])
theorem aT.append (h:aT H B L) (i:Nat) {s b:Nat} {v y:PV} {rows src:List (List PV)} (hi:L[i]?=some (v,s,rows)) (hy:dT H s y=some src) (hr:roomFor rows.length src.length b)
  (hk:∀ v' H',aT H' B (L.set i (v',s,rows++src))→(src≠[]→∃ q,v'=.osl q s 0 (rows++src).length)→K v' H'):mW H s b v y K:=by
 rcases h.own i hi with ⟨rfl,rfl⟩ | ⟨q,rs,rfl,h1,h2,h3⟩
 ·refine⟨src,hy,hr,fun e=>?_,fun e o ho=>?_⟩
  ·subst e
   refine hk _ _ ?_ fun h=>absurd rfl h
   exact h.RS i hi (.inl ⟨rfl,rfl⟩) (fun q hq=>by cases hq) fun q _ _=>rfl
  ·refine hk _ _ (h.RS i hi (.inr ⟨o,src,rfl,by simp only[bA,if_true],bIU _,bJN⟩) (fun q hq=>by cases hq; exact .inr ho) fun q hq _=>?_) fun _=>⟨o,rfl⟩
   obtain⟨f1,f2⟩:=h.fresh ho
   have:q≠o:=by rintro rfl; exact hq.elim f1 f2
   rw[bA,if_neg this]
 ·have hlen:(rows++src).length=rows.length+src.length:=bIQ
  refine⟨src,hy,rfl,rfl,hr,rs,h1,h2,?_,fun o ho=>?_⟩
  ·rw[h3]
   refine hk _ _ (h.RS i hi (.inr ⟨q,rows++src,by rw[hlen],by simp only[bA,if_true],bIU _,bJN⟩) (fun p hp=>by cases hp; exact .inl rfl) fun p _ hp=>?_) fun _=>⟨q,by rw[hlen]⟩
   rw[bA,if_neg (hp q rfl)]
  ·rw[h3]
   refine hk _ _ (h.RS i hi (.inr ⟨o,rows++src,by rw[hlen],by simp only[bA,if_true],bIU _,bJN⟩) (fun p hp=>by cases hp; exact .inr ho) fun p hpm hp=>?_) fun _=>⟨o,by rw[hlen]⟩
   obtain⟨f1,f2⟩:=h.fresh ho
   have n1:p≠o:=by rintro rfl; exact hpm.elim f1 f2
   rw[bA,if_neg n1]
theorem aT.sub (h:aT H B L) {B':List BX} {L':List LI} (hB:B'.Sublist B) (hL:L'.Sublist L):aT H B' L' :=
 ⟨fun b hb=>h.box b (hB.subset hb),fun x hx=>h.lst x (hL.subset hx),List.Nodup.sublist (bKH.append (hB.map _) (hL.filterMap _)) h.nd⟩
theorem aT.byX (h:aT H B L) (i:Nat):aT H (B.eraseIdx i) L:=h.sub (List.eraseIdx_sublist ..) (bKH.refl _)
theorem aT.byY (h:aT H B L) (i:Nat):aT H B (L.eraseIdx i):=h.sub (bKH.refl _) (List.eraseIdx_sublist ..)
end
section
variable {C:Ctx} {F:PF} {H:PH} {B:List BX} {L:List LI}
theorem aT.RO (h:aT H B L) {q:Nat} (hq:q∈eC B∨q∈dR L):∃ x,H q=some x:=by
 rcases hq with hq | hq
 ·obtain⟨b,hb,rfl⟩:=bJV.1 hq
  exact⟨_,h.box b hb⟩
 ·obtain⟨x,hx,e⟩:=List.mem_filterMap.1 hq
  obtain⟨rs,h1,_⟩:=(h.lst x hx).id e
  exact⟨_,h1⟩
theorem aT.perm (h:aT H B L) {B':List BX} {L':List LI} (hB:B.Perm B') (hL:L.Perm L'):aT H B' L' :=
 ⟨fun b hb=>h.box b (hB.mem_iff.2 hb),fun x hx=>h.lst x (hL.mem_iff.2 hx),(List.Perm.nodup_iff ((hB.map _).append (hL.filterMap _))).1 h.nd⟩
theorem aT.only (h:aT H B L) {B1:List BX} {L1:List LI} (hB:B1.Sublist B) (hL:L1.Sublist L):aT (H.only (eC B1++dR L1)) B1 L1:=by
 refine (h.sub hB hL).keep fun q hq=>?_
 rw[qR]
 rw[if_pos (bKL.2 hq)]
theorem bvZ {a b c d:List Nat} (h1:(a++c).Nodup) (h2:(b++d).Nodup) (h3:∀ q,q∈a∨q∈c→q∈b∨q∈d→False):((a++b)++(c++d)).Nodup:=by
 have e:List.Perm ((a++b)++(c++d)) ((a++c)++(b++d)):=by
  rw[bJO,bJO]
  exact List.Perm.append_left a (by rw[← bJO,← bJO]; exact List.Perm.append_right d List.perm_append_comm)
 rw[e.nodup_iff,bLH]
 refine⟨h1,h2,fun p hp q hq=>?_⟩
 rintro rfl
 exact h3 p (bKL.1 hp) (bKL.1 hq)
theorem aT.frame {H':PH} {B1 B2 B':List BX} {L1 L2 L':List LI} (h:aT H (B1++B2) (L1++L2)) (h':aT H' B' L') (ha:mM H (H.only (eC B1++dR L1)) H'):aT (H.over (H.only (eC B1++dR L1)) H') (B'++B2) (L'++L2):=by
 have h2:aT H B2 L2:=h.sub (List.sublist_append_right ..) (List.sublist_append_right ..)
 have dis:∀ q,q∈eC B2∨q∈dR L2→¬ (q∈eC B1++dR L1):=by
  intro q hq hm
  have hnd:=h.nd
  rw[show eC (B1++B2)=eC B1++eC B2 from bKV,kD] at hnd
  have e:List.Perm ((eC B1++eC B2)++(dR L1++dR L2)) ((eC B1++dR L1)++(eC B2++dR L2)):=by
   rw[bJO,bJO]
   exact List.Perm.append_left _ (by rw[← bJO,← bJO]; exact List.Perm.append_right _ List.perm_append_comm)
  rw[e.nodup_iff,bLH] at hnd
  exact hnd.2.2 q hm q (bKL.2 hq) rfl
 have new:∀ q,q∈eC B'∨q∈dR L'→(H.over (H.only (eC B1++dR L1)) H') q=H' q:=by
  intro q hq
  obtain⟨x,hx⟩:=h'.RO hq
  rw[nG,hx]
 have old:∀ q,q∈eC B2∨q∈dR L2→(H.over (H.only (eC B1++dR L1)) H') q=H q:=by
  intro q hq
  obtain⟨x,hx⟩:=h2.RO hq
  have h0:(H.only (eC B1++dR L1)) q=none:=by rw[qR,if_neg (dis q hq)]
  rw[nG]
  cases e:H' q with
  | none=>simp only[h0]
  | some y =>
   have:=ha q y e h0
   rw[hx] at this; cases this
 have k1:=h'.keep new
 have k2:=h2.keep old
 refine⟨fun b hb=>?_,fun x hx=>?_,?_⟩
 ·rcases bKL.1 hb with hb | hb
  ·exact k1.box b hb
  ·exact k2.box b hb
 ·rcases bKL.1 hx with hx | hx
  ·exact k1.lst x hx
  ·exact k2.lst x hx
 ·rw[show eC (B'++B2)=eC B'++eC B2 from bKV,kD]
  refine bvZ h'.nd h2.nd fun q hq hq2=>?_
  obtain⟨x,hx⟩:=h'.RO hq
  obtain⟨y,hy⟩:=h2.RO hq2
  have h0:(H.only (eC B1++dR L1)) q=none:=by rw[qR,if_neg (dis q hq2)]
  have:=ha q x hx h0
  rw[hy] at this; cases this
theorem DC {name:Nat} {vs:List PV} {args:List aP} {d:Option Nat} {K:PF→PH→Prop} {B1 B2:List BX} {L1 L2:List LI} {Q:PV→List BX→List LI→Prop} (h:aT H (B1++B2) (L1++L2))
  (hc:∀ H0,aT H0 B1 L1→aH C name vs H0 (fun r H'=>∃ B' L',Q r B' L'∧aT H' B' L')) (ha:aP.evs F args=some vs)
  (hk:∀ r B' L' H',Q r B' L'→aT H' (B'++B2) (L'++L2)→K (F.put d r) H'):gW C name args [] d K F H:=by
 refine mX (hc (H.only (eC B1++dR L1)) (h.only (List.sublist_append_left ..) (List.sublist_append_left ..))) ha (alK H _) ?_
 rintro r H' ⟨B',L',hq,h'⟩ hap
 exact hk r B' L' _ hq (h.frame h' hap)
theorem aT.LC {B:List BX} {o:Nat} {x:cE} (h:aT H (B++[(o,x)]) L):H o=some x:=h.box (o,x) (by simp)
theorem aT.alS {B:List BX} {o:Nat} {x:cE} (h:aT H (B++[(o,x)]) L) (y:cE):aT (H.set o y) (B++[(o,y)]) L:=by
 have:=h.set B.length (o:=o) (x:=x) (by simp) y
 rwa [bLM _ _ (bIU _),Nat.sub_self] at this
theorem aT.dropLast {B:List BX} {b:BX} (h:aT H (B++[b]) L):aT H B L:=h.sub (List.sublist_append_left ..) (bKH.refl _)
theorem aT.btK {B:List BX} {o:Nat} {x:cE} (h:aT H ((o,x)::B) L) (y:cE):aT (H.set o y) ((o,y)::B) L:=h.set 0 rfl y
theorem aT.bvF {B:List BX} {o:Nat} {x:cE} (h:aT H ((o,x)::B) L):H o=some x:=h.at 0 rfl
theorem lO {name o:Nat} {x y:cE} {r:PV} {vs:List PV} {args:List aP} {d:Option Nat} {K:PF→PH→Prop} (h:aH C name vs (PH.nil.set o x) (fun r' H'=>r'=r∧H'=PH.nil.set o y)) (ho:H o=some x) (ha:aP.evs F args=some vs)
  (hk:K (F.put d r) (H.set o y)):gW C name args [] d K F H:=by
 refine mX h ha (PH.aF PH.nil_le ho) ?_
 rintro r' H' ⟨rfl,rfl⟩ -
 rw[PH.rX]
 exact hk
theorem biX {Hs:PH} {S:Spec} {name o:Nat} {x y:cE} {r:PV} {vs:List PV} {R:PH→PV→PH→Prop} {args:List aP} {st:Bool} {d:Option Nat} {K:PF→PH→Prop} (hS:S name vs=some ([o],R)) (ho:H o=some x)
  (h:aH C name vs (PH.nil.set o x) (fun r' H'=>r'=r∧H'=PH.nil.set o y)) (hR1:R (PH.nil.set o x) r (PH.nil.set o y)) (hR2:∀ r' H',R (PH.nil.set o x) r' H'→r'=r∧H'=PH.nil.set o y) (ha:aP.evs F args=some vs)
  (hle:Hs.le (H.set o y)) (hk:K (F.put d r) (H.set o y)):dOp C Hs S st (.call name args) d K F H:=by
 have e:=aIB ho
 refine⟨vs,[o],_,ha,hS,fun q hq=>?_,?_,fun G=>⟨r,_,by rw[e]; exact hR1,fun q z hz hn=>?_⟩,fun r' H' hr _=>?_⟩
 ·simp at hq; subst hq; exact⟨x,ho⟩
 ·rw[e]
  exact h.post fun r' H' hr=>⟨r',.refl _,by rw[hr.1,hr.2]; exact hR1⟩
 ·rw[e] at hn
  rw[bA] at hz hn
  split at hn
  ·cases hn
  ·rename_i hne
   rw[if_neg hne] at hz; cases hz
 ·rw[e] at hr
  obtain⟨rfl,rfl⟩:=hR2 r' H' hr
  rw[e,PH.rX]
  exact⟨hle,hk⟩
theorem bnH {s:Nat} {q z:Nat} {rs:List (List PV)} {v:PV} {rows:List (List PV)} (h:aX H s v rows) (hv:v.oid≠some q):aX (H.frz q z rs) s v (rows.map fun r=>r.map (PV.dP q z rs)):=by
 rcases h with ⟨rfl,rfl⟩ | ⟨p,rs',rfl,h1,h2,h3⟩
 ·exact .inl ⟨rfl,rfl⟩
 ·have hne:¬ p=q:=fun e=>hv (by rw[e]; rfl)
  refine .inr ⟨p,rs'.map fun r=>r.map (PV.dP q z rs),by rw[bIM],?_,by simpa using h2,?_⟩
  ·rw[RB,if_neg hne,h1]; rfl
  ·rw[bIM,← List.map_take,h3]
theorem aT.frz (h:aT H B L) (i:Nat) {q s k:Nat} {rows:List (List PV)} (hi:L[i]?=some (.osl q s 0 k,s,rows)):∃ rs,H q=some (.rows s rs)∧PV.dP q s rs (.osl q s 0 k)=.sl s rows∧PV.frz q s rs (.osl q s 0 k)=.sl s rows∧(∀ j x,j≠i→L[j]?=some x→PV.dP q s rs x.1=x.1) ∧
  aT (H.frz q s rs) (B.map fun b=>(b.1,b.2.frz q s rs)) ((L.eraseIdx i).map fun x=>(x.1,x.2.1,x.2.2.map fun r=>r.map (PV.dP q s rs))):=by
 obtain⟨rs,h1,h2,h3,h4⟩:=(h.own i hi).id rfl
 injection h2 with _ _ _ hk
 subst hk
 have e:PV.frz q s rs (.osl q s 0 rows.length)=.sl s rows:=by rw[wV h3,h4]
 refine⟨rs,h1,e,e,?_⟩
 refine⟨fun j x hji hj=>?_,?_⟩
 ·have hxq:x.1.oid≠some q:=by
   intro hxq
   obtain⟨hl,he⟩:=bKA.1 hi
   obtain⟨hl2,he2⟩:=bKA.1 hj
   have hmem:x∈L.eraseIdx i:=List.mem_eraseIdx_iff_getElem?.2 ⟨j,hji,hj⟩
   have hnd:=h.ndL
   have hs:L=L.take i++(L[i]::L.drop (i+1)):=by rw[← bKE hl,bLB]
   rw[List.eraseIdx_eq_take_drop_succ] at hmem
   rw[hs,kD] at hnd
   have e3:dR (L[i]::L.drop (i+1))=q::dR (L.drop (i+1)):=by rw[he]; rfl
   rw[e3,bLH] at hnd
   obtain⟨a,b,c⟩:=hnd
   rcases bKL.1 hmem with hx | hx
   ·exact c q (kN hx hxq) q (by simp) rfl
   ·exact (List.nodup_cons.1 b).1 (kN hx hxq)
  cases hx:x.1<;>try rfl
  rename_i p z off len
  have:¬ p=q:=fun e=>hxq (by rw[hx,e]; rfl)
  simp only[PV.dP,if_neg this]
 obtain⟨L1,L2,e1,e2⟩:=aDU (v':=.bGI) (s':=s) (rows':=rows) hi
 have hil:i=L1.length∨True:=.inr trivial
 have ers:(L.eraseIdx i).Sublist L:=List.eraseIdx_sublist ..
 have hqn:∀ x∈L.eraseIdx i,x.1.oid≠some q:=by
  intro x hx hxq
  obtain⟨hl,he⟩:=bKA.1 hi
  have hnd:=h.ndL
  have hs:L=L.take i++(L[i]::L.drop (i+1)):=by rw[← bKE hl,bLB]
  rw[List.eraseIdx_eq_take_drop_succ] at hx
  rw[hs,kD] at hnd
  have e3:dR (L[i]::L.drop (i+1))=q::dR (L.drop (i+1)):=by
   rw[he]; rfl
  rw[e3,bLH] at hnd
  obtain⟨a,b,c⟩:=hnd
  rcases bKL.1 hx with hx | hx
  ·exact c q (kN hx hxq) q (by simp) rfl
  ·exact (List.nodup_cons.1 b).1 (kN hx hxq)
 refine⟨fun b hb=>?_,fun x hx=>?_,?_⟩
 ·obtain⟨b0,hb0,rfl⟩:=bJV.1 hb
  have:¬ b0.1=q:=h.ndX (sY hb0) (kN (bKX hi) rfl)
  simp only
  rw[RB,if_neg this,h.box b0 hb0]; rfl
 ·obtain⟨x0,hx0,rfl⟩:=bJV.1 hx
  exact bnH (h.lst x0 (ers.subset hx0)) (hqn x0 hx0)
 ·have i1:eC (B.map fun b=>(b.1,b.2.frz q s rs))=eC B:=by unfold eC; rw[List.map_map]; rfl
  have i2:dR ((L.eraseIdx i).map fun x=>(x.1,x.2.1,x.2.2.map fun r=>r.map (PV.dP q s rs)))=dR (L.eraseIdx i):=by unfold dR; rw[List.filterMap_map]; rfl
  rw[i1,i2]
  exact List.Nodup.sublist (bKH.append (bKH.refl _) (ers.filterMap _)) h.nd
def Flat (rows:List (List PV)):Prop:=∀ q s rs,rows.map (fun r=>r.map (PV.dP q s rs))=rows
theorem Flat.nil:Flat []:=fun _ _ _=>rfl
theorem Flat.of {rows:List (List PV)} (h:∀ r∈rows,∀ c∈r,∀ q s rs,PV.dP q s rs c=c):Flat rows:=fun q s rs=>by
 conv=>rhs; rw[← List.map_id rows]
 refine List.map_congr_left fun r hr=>?_
 conv=>rhs; rw[id,← List.map_id r]
 exact List.map_congr_left fun c hc=>h r hr c hc q s rs
theorem Flat.map {α:Type} {f:α→List PV} (l:List α) (h:∀ x,∀ c∈f x,∀ q s rs,PV.dP q s rs c=c):Flat (l.map f):=Flat.of fun r hr=>by
 obtain⟨x,_,rfl⟩:=bJV.1 hr
 exact h x
theorem Flat.append {r1 r2:List (List PV)} (h1:Flat r1) (h2:Flat r2):Flat (r1++r2):=fun q s rs=>by rw[bKV,h1,h2]
theorem aT.flat {φ:PV→List (List PV)} (h:aT H B L):aT H B L:=h
def zA (v:PV) (H:PH) (R:PV→PH→Prop):Prop:=∃ F1 H1 H2,jI (PF.nil.set 0 v) H F1 H1∧H2.le H1∧∃ u,F1 0=some u∧R u H2
theorem zA.done {v:PV} {H2:PH} {R:PV→PH→Prop} (hR:R v H2) (hle:H2.le H):zA v H R:=⟨_,_,H2,.refl _ _,hle,v,by rw[mJ,if_pos rfl],hR⟩
theorem zA.step {v:PV} {q s:Nat} {rs:List (List PV)} {R:PV→PH→Prop} (hq:H q=some (.rows s rs)) (h:zA (PV.frz q s rs v) (H.frz q s rs) R):zA v H R:=by
 obtain⟨F1,H1,H2,h1,h2,h3⟩:=h
 have e:(PF.nil.set 0 v).frz q s rs=PF.nil.set 0 (PV.frz q s rs v):=by
  funext i
  rw[rL,mJ,mJ]
  split<;>rfl
 exact⟨F1,H1,H2,.step q hq (by rw[e]; exact h1),h2,h3⟩
theorem alO {res:List dW} {R:PV→PH→Prop} {vs:List PV} {e:lP} (he:e=.normal∨e=.ret) (h:dW.evs F H res=some vs) (hf:zA (bH vs) H R):aR res R e F H:=by
 have key:∃ vs,dW.evs F H res=some vs∧∃ F1 H1 H2,jI (PF.nil.set 0 (bH vs)) H F1 H1∧H2.le H1∧∃ u,F1 0=some u∧R u H2:=⟨vs,h,hf⟩
 rcases he with rfl | rfl<;>exact key
theorem aaY {u:PV} (h:u.oid=none) (q s:Nat) (rs:List (List PV)):PV.dP q s rs u=u:=by
 cases u<;>first | rfl | (simp[PV.oid] at h)
theorem Seen.co {s:Nat} {v:PV} {rows:List (List PV)} (h:Seen s v rows):Co v (.sl s rows):=by
 rcases h with ⟨rfl,rfl⟩ | rfl
 ·exact .nil s
 ·exact .refl _
theorem aT.giveUp:∀ (L:List LI) {H:PH} {B:List BX},aT H B L→(∀ x∈L,Flat x.2.2)→(∀ b∈B,∀ q s rs,cE.frz q s rs b.2=b.2) →
  ∃ (φ:PV→PV) (H1:PH),(∀ x∈L,Seen x.2.1 (φ x.1) x.2.2)∧(∀ u,u.oid=none→φ u=u)∧aT H1 B []∧∀ cs R,zA (.agg (cs.map φ)) H1 R→zA (.agg cs) H R
 | [],H,B,h,_,_=>⟨id,H,by simp,fun _ _=>rfl,h,fun cs R hf=>by rwa [List.map_id] at hf⟩
 | (w,s,rows)::L,H,B,h,hL,hB=>by
  have hflat:∀ q z rs,(L.map fun x=>(x.1,x.2.1,x.2.2.map fun r=>r.map (PV.dP q z rs)))=L:=fun q z rs=>by
   conv=>rhs; rw[← List.map_id L]
   refine List.map_congr_left fun x hx=>?_
   rw[hL x (by simp[hx]) q z rs]; rfl
  rcases h.own 0 rfl with ⟨h1,h2⟩ | ⟨q,rs,h1,_⟩
  ·obtain⟨φ,H1,k1,k2,k3,k4⟩:=aT.giveUp L (h.byY 0) (fun x hx=>hL x (by simp[hx])) hB
   refine⟨φ,H1,fun x hx=>?_,k2,k3,k4⟩
   rw[bJB] at hx
   rcases hx with rfl | hx
   ·exact .inl ⟨h1,by simp only; rw[h2]; exact k2 _ rfl⟩
   ·exact k1 x hx
  ·subst h1
   obtain⟨rs,z1,z2,z3,z4,z5⟩:=h.frz 0 rfl
   have z6:aT (H.frz q s rs) B L:=by
    have eB:(B.map fun b=>(b.1,b.2.frz q s rs))=B:=by
     conv=>rhs; rw[← List.map_id B]
     refine List.map_congr_left fun b hb=>?_
     rw[hB b hb q s rs]; rfl
    rw[eB] at z5
    have:=z5
    simp only[List.eraseIdx_cons_zero] at this
    rwa [hflat q s rs] at this
   obtain⟨φ,H1,k1,k2,k3,k4⟩:=aT.giveUp L z6 (fun x hx=>hL x (by simp[hx])) hB
   refine⟨fun u=>φ (PV.dP q s rs u),H1,fun x hx=>?_,fun u hu=>?_,k3,fun cs R hf=>?_⟩
   ·rw[bJB] at hx
    rcases hx with rfl | hx
    ·simp only
     rw[z2]
     exact .inr (k2 _ rfl)
    ·obtain⟨j,hj⟩:=List.mem_iff_getElem?.1 hx
     have:=z4 (j+1) x Om (by simpa using hj)
     simp only
     rw[this]
     exact k1 x hx
   ·simp only
    rw[aaY hu,k2 u hu]
   ·refine .step z1 ?_
    have e:PV.frz q s rs (.agg cs)=.agg (cs.map (PV.dP q s rs)):=rfl
    rw[e]
    refine k4 _ R ?_
    rw[List.map_map]
    exact hf
theorem anY {K:bX} {α:Type} {Fs:α→PF} {Hs:α→PH} {Pr:α→Prop} {m:α→Nat} {n q s:Nat} {rs:List (List PV)} (a:α) (hq:H q=some (.rows s rs)) (h0:Pr a) (hm:m a<n) (hF:(Fs a).le (F.frz q s rs)) (hH:(Hs a).le (H.frz q s rs)):dQ Fs Hs Pr m n K .normal F H :=
 ⟨a,_,_,.step q hq (.refl _ _),h0,hm,hF,hH⟩
end
structure EL (C:Ctx):Prop extends ZT C where
 int:∀ n:Int,dA n→aH C 47 [.int .i64 n] .nil (aD (.agg (mkT n 1).cells))
 itoa:∀ n:Nat,n<100→aH C 195 [.int .i64 n] .nil (aD (.str (cN n)))
 next:∀ (l:List Nat) (v:PV),Tp l v→∀ (o n a:Nat),n≤1000000→a≤l.length→aH C 4 [.ptr o 2 0 0,.int .i64 n] (PH.nil.set o (bJ v a)) (ZQ l v o n a)
section
variable {C:Ctx} {F:PF} {H:PH} {l:List Nat} {v:PV} {o a:Nat}
theorem cW (Lb:EL C) (T:Tp l v) {n:Nat} {args:List aP} {d:Option Nat} {K:PF→PH→Prop} (hn:n≤1000000) (ha:a≤l.length) (bIB:aP.evs F args=some [.ptr o 2 0 0,.int .i64 n]) (ho:H o=some (bJ v a))
  (hk:K (F.put d (.int .i64 ((aJ l n a).1:Nat))) (H.set o (bJ v (aJ l n a).2))):gW C 4 args [] d K F H :=
 lO (Lb.next l v T o n a hn ha) ho bIB hk
end
def bpD (l:List Nat) (v:PV) (o a:Nat) (r:PV) (H:PH):Prop:=r=.agg (fD l a).1.cells∧H=PH.nil.set o (bJ v (fD l a).2)
theorem sQ (l:List Nat) {a:Nat} (h:a≤l.length):(fD l a).2≤l.length:=bM l 8 (bM l 6 h)
theorem blD {C:Ctx} (Lb:EL C) {l:List Nat} {v:PV} (T:Tp l v) (o a:Nat) (ha:a≤l.length):GN.wp C (aR axU.res (bpD l v o a)) (PF.args [.ptr o 2 0 0]) (PH.nil.set o (bJ v a)):=by
 simp only[go_sem,δ,GN,aFH,axU]
 refine aO fun p hp=>?_
 have n1:¬ p=o:=(gT.1 hp).1
 have n1':¬ o=p:=fun h=>n1 h.symm
 have h1:=eO l (show 0<6 by decide) a
 have a1:=bM l 6 ha
 simp only[go_sem,reduceCtorEq,aFI]
 refine cW Lb T (o:=o) (n:=6) (a:=a) (by decide) ha rfl (by simp only[go_sem,n1']) ?_
 have e1:IntKind.i64.wrap (1+((aJ l 6 a).1:Int))=((1+(aJ l 6 a).1:Nat):Int):=by rw[wrap_i64 Om Om]; omega
 simp only[go_sem,γ,reduceCtorEq,e1]
 have h2:=eO l (show 0<8 by decide) (aJ l 6 a).2
 refine cW Lb T (o:=o) (n:=8) (a:=(aJ l 6 a).2) (by decide) a1 rfl Sq ?_
 have e2:IntKind.i64.wrap (1+((aJ l 8 (aJ l 6 a).2).1:Int))=((1+(aJ l 8 (aJ l 6 a).2).1:Nat):Int):=by rw[wrap_i64 Om Om]; omega
 simp only[go_sem,γ,e2]
 refine aA (Lb.fmk ((1+(aJ l 6 a).1:Nat):Int) ((1+(aJ l 8 (aJ l 6 a).2).1:Nat):Int) (by unfold dA; omega) (by unfold dA; omega)) rfl ?_
 have hd:¬ ((1+(aJ l 8 (aJ l 6 a).2).1:Nat):Int)=0:=by omega
 unfold uR
 rw[if_neg hd]
 simp only[go_sem,δ,γ]
 refine aO fun q hq=>?_
 have n2:¬ q=o:=(gT.1 hq).1
 have n3:¬ q=p:=(gT.1 (gT.1 hq).2).1
 have n3':¬ p=q:=fun h=>n3 h.symm
 have n2':¬ o=q:=fun h=>n2 h.symm
 simp only[go_sem,δ,γ,aFJ,n1,n1',n2,n3,n3']
 refine aV (vs:=[.agg (fD l a).1.cells]) (.inr rfl) (PH.nil.set o (bJ v (fD l a).2)) ?_ (PH.aF PH.nil_le ?_) ⟨rfl,rfl⟩
 ·simp only[go_sem,δ,γ]
  rfl
 ·simp only[go_sem,n1',n2']
  rfl
structure azA (C:Ctx):Prop extends EL C where
 frac:∀ (l:List Nat) (v:PV),Tp l v→∀ (o a:Nat),a≤l.length→aH C 1 [.ptr o 2 0 0] (PH.nil.set o (bJ v a)) (bpD l v o a)
abbrev fJ (l:List RF):List (List PV):=l.map RF.cells
theorem vM (l:List RF) (x:RF):fJ l++[x.cells]=fJ (l++[x]):=by simp[fJ]
theorem EY (l:List RF):Flat (fJ l):=Flat.map l fun x c hc q s rs=>by
 simp only[RF.cells,dX,bJB,bJI,or_false] at hc
 rcases hc with rfl | rfl | rfl<;>rfl
theorem lG (l:List RF):(fJ l).length=l.length:=by simp[fJ]
theorem Tp.frz {l:List Nat} {v:PV} (T:Tp l v) (q s:Nat) (rs:List (List PV)):PV.dP q s rs v=v:=by
 rcases T.seen with ⟨_,rfl⟩ | rfl<;>rfl
theorem DY (l:List Nat) {a:Nat} (h:a≤l.length):∀ k,(mH l a k).2≤l.length
 | 0=>h
 | k+1=>sQ l (DY l h k)
theorem aIR (l:List Nat) (a:Nat):∀ k,(mH l a k).1.length=k
 | 0=>rfl
 | k+1=>by simp only[mH,bIQ,bIX,aIR l a k]
def bvC (l:List Nat) (v:PV) (o a k:Nat) (r:PV) (H:PH):Prop:=r=frs (mH l a k).1∧H=PH.nil.set o (bJ v (mH l a k).2)
def a6P (o:Nat) (m:Nat) (w:PV) (i:Nat):PF:=((((PF.nil.set 0 (.ptr o 2 0 0)).set 1 (.int .i64 m)).set 5 (w)).set 6 (.int .i64 i))
theorem bsF {C:Ctx} (Lb:azA C) {l:List Nat} {v:PV} (T:Tp l v) (o a m:Nat) (hm:m≤1000) (ha:a≤l.length):MU.wp C (aR a6O.res (bvC l v o a (max m 1))) (PF.args [.ptr o 2 0 0,.int .i64 m]) (PH.nil.set o (bJ v a)):=by
 have hmx:∀ i:Nat,((i:Int)<(if (m:Int)<1 then 1 else (m:Int)))↔i<max m 1:=by
  intro i
  split<;>omega
 simp only[go_sem,MU,aWB,aWC,aWD,a6O]
 have h0:aT (PH.nil.set o (bJ v a)) [(o,bJ v a)] [(.bGI,3,fJ [])]:=(aT.nil.new (H:=PH.nil) rfl (bJ v a)).qD 3
 refine wp_loop (α:=Nat × PV × PH) (fun t=>a6P o m t.2.1 t.1) (fun t=>t.2.2) (fun t=>t.1≤max m 1∧aT t.2.2 [(o,bJ v (mH l a t.1).2)] [(t.2.1,3,fJ (mH l a t.1).1)]) (fun t=>max m 1-t.1) (0,.bGI,PH.nil.set o (bJ v a)) ⟨bIT _,h0⟩ ?_ PH.le_refl ?_
 ·unfold a6P
  exact Lq
 rintro⟨k,w,H0⟩ ⟨hk,hH⟩
 simp only at hk hH ⊢
 simp only[go_sem,γ,reduceCtorEq,aWA,aWE,a6P]
 have hle:=DY l ha k
 have hlen:=aIR l a k
 by_cases hlt:k<max m 1
 ·have hc:=(hmx k).2 hlt
  simp only[go_sem,γ,reduceCtorEq,hc,aWF]
  refine lO (Lb.frac l v T o _ hle) (hH.at 0 rfl) rfl ?_
  have hH2:=hH.set 0 rfl (bJ v (fD l (mH l a k).2).2)
  have h13:(1:Nat)*3≤16777216:=by decide
  simp only[go_sem,υ,δ,γ,η,ζ,reduceCtorEq,h13]
  refine hH2.append 0 (src:=[(fD l (mH l a k).2).1.cells]) rfl rfl (by unfold roomFor; rw[lG,hlen]; simp only[bIX,maxLen]; omega) fun w' H' h' _=>?_
  rw[vM] at h'
  simp only[go_sem,γ,reduceCtorEq,aWG,ws k]
  refine aC (k+1,w',H') ⟨hlt,h'⟩ (by simp only; omega) ?_ PH.le_refl
  exact Lq
 ·have hc:¬ ((k:Int)<(if (m:Int)<1 then 1 else (m:Int))):=fun h=>hlt ((hmx k).1 h)
  have e:k=max m 1:=by omega
  subst e
  simp only[go_sem,γ,reduceCtorEq,hc,aWH]
  have hne:fJ (mH l a (max m 1)).1≠[]:=fun h=>by
   have:=congrArg List.length h
   rw[lG,hlen] at this
   simp at this
  rcases hH.own 0 rfl with ⟨h1,_⟩ | ⟨q,rs,rfl,_⟩
  ·exact absurd h1 hne
  obtain⟨rs,g1,g2,g3,-,g4⟩:=hH.frz 0 rfl
  refine alO (vs:=[.osl q 3 0 (fJ (mH l a (max m 1)).1).length]) (.inr rfl) rfl (.step g1 (.done (H2:=PH.nil.set o (bJ v (mH l a (max m 1)).2)) ?_ (PH.aF PH.nil_le ?_)))
  ·rw[bH,g3]
   exact⟨rfl,rfl⟩
  ·have:=g4.at 0 rfl
   rw[this]
   simp only[cE.frz,bKD,bKW,T.frz]
   rfl
theorem blH {C:Ctx} (Lb:EL C) (s:List UInt8) (n:Nat) (hs:s.length≤100) (hn:n<100):GR.wp C (aR axV.res (aD (.str (s++cN n)))) (PF.args [.str s,.int .i64 n]) .nil:=by
 have hl:(cN n).length≤2:=by
  unfold cN
  rw[Lib.decDigits]
  split
  ·simp
  ·rw[Lib.decDigits,dif_pos Om]; simp
 have hsum:¬ (((s.length+(cN n).length:Nat):Int)>9223372036854775807):=by omega
 simp only[go_sem,γ,reduceCtorEq,GR,aGA,aGB,axV]
 refine aA (Lb.itoa n hn) rfl ?_
 simp only[go_sem,γ,a2W,hsum]
 refine aM (.inr rfl) rfl ?_
 rfl
structure rC (C:Ctx):Prop extends azA C where
 rep:∀ (l:List Nat) (v:PV),Tp l v→∀ (o a m:Nat),m≤1000→a≤l.length→aH C 5 [.ptr o 2 0 0,.int .i64 m] (PH.nil.set o (bJ v a)) (bvC l v o a (max m 1))
 name:∀ (s:List UInt8) (n:Nat),s.length≤100→n<100→aH C 29 [.str s,.int .i64 n] .nil (aD (.str (s++cN n)))
theorem biR (l:List Nat) (i j:Nat) {a:Nat} (h:a≤l.length):(jU l i j a).2≤l.length:=by
 unfold jU
 split
 ·exact sQ l h
 ·split
  ·exact h
  ·simp only
   split
   ·exact sQ l (bM l 3 h)
   ·exact bM l 3 h
theorem alQ (l:List Nat) (i:Nat) {a:Nat} (h:a≤l.length):∀ j,(eD l i a j).2≤l.length
 | 0=>h
 | j+1=>biR l i j (alQ l i h j)
theorem XY (l:List Nat) (i a:Nat):∀ j,(eD l i a j).1.length=j
 | 0=>rfl
 | j+1=>by simp only[eD,bIQ,bIX,XY l i a j]
theorem WH (l:List Nat) (n i:Nat) (s:EJ) (h:s.a≤l.length):(dZ l n i s).2≤l.length∧(dZ l n i s).1≤s.left:=by
 unfold dZ
 split
 ·exact⟨bM l _ h,by have:=eO l (Om:0<s.left+1) s.a; omega⟩
 ·exact⟨h,bIU _⟩
theorem aAL (l:List Nat) (n i:Nat) {a:Nat} (h:a≤l.length):(fI l n i a).2≤l.length:=by
 unfold fI
 simp only
 split
 ·exact bM l 3 (sQ l h)
 ·exact sQ l h
theorem akI (l:List Nat) (n:Nat) {a:Nat} (h:a≤l.length):∀ i,(gP l n a i).a≤l.length∧(gP l n a i).left≤8∧(gP l n a i).start.length=i∧(gP l n a i).exit.length=i∧(gP l n a i).bGM.length=i
 | 0=>⟨h,bIU _,rfl,rfl,rfl⟩
 | i+1=>by
  obtain⟨h1,h2,h3,h4,h5⟩:=akI l n h i
  have hl:=WH l n i (gP l n a i) h1
  refine⟨?_,?_,?_,?_,?_⟩
  ·exact alQ l i (aAL l n i hl.1) n
  ·simp only[gP]; omega
  ·simp only[gP,bIQ,bIX,h3]
  ·simp only[gP,bIQ,bIX,h4]
  ·simp only[gP,bIQ,bIX,h5]
abbrev tD (l:List (List RF)):List (List PV):=l.map fun r=>[frs r]
theorem apZ (l:List (List RF)):Flat (tD l):=Flat.map l fun x c hc q s rs=>by
 simp only[bJB,bJI,or_false] at hc
 subst hc; rfl
abbrev WF (w1 w2 w3:PV):cE:=.rows 4 [[.str [],w1,w2,w3]]
abbrev aEC:cE:=.rows 4 [[.str [],.bGI,.bGI,.bGI]]
def eS (o o4 o6 n left i:Nat) (w:PV) (j:Nat):PF:=((((((((PF.nil.set 0 (.ptr o 2 0 0)).set 4 (.ptr o4 4 0 0)).set 5 (.int .i64 n)).set 6 (.ptr o6 4 0 0)).set 7 (.int .i64 left)).set 8 (.int .i64 i)).set 13 (w)).set 14 (.int .i64 j))
def cO (o o4 o6 n left i:Nat):PF:=((((((PF.nil.set 0 (.ptr o 2 0 0)).set 4 (.ptr o4 4 0 0)).set 5 (.int .i64 n)).set 6 (.ptr o6 4 0 0)).set 7 (.int .i64 left)).set 8 (.int .i64 i))
theorem WM {l:List RF} (h:l.length≤1000):roomFor (fJ l).length 1 56:=by
 unfold roomFor
 rw[lG]
 simp only[maxLen]; omega
theorem blG {C:Ctx} (Lb:rC C) {l:List Nat} {v:PV} (T:Tp l v) (o o4 o6 n left i a:Nat) (ha:a≤l.length) (hn:n≤100) (hi:i<n) (B:List BX) (L:List LI) (K:bX) (F:PF) (H:PH)
  (hF:(eS o o4 o6 n left i .bGI 0).le F) (hH:aT H ((o,bJ v a)::B) L)
  (hK:∀ w F' H',(eS o o4 o6 n left i w n).le F'→aT H' ((o,bJ v (eD l i a n).2)::B) (L++[(w,3,fJ (eD l i a n).1)])→K (.exit 2) F' H') :
  aB.wp C (.loop GP) K F H:=by
 refine wp_loop (α:=Nat × PV × PH) (fun t=>eS o o4 o6 n left i t.2.1 t.1) (fun t=>t.2.2) (fun t=>t.1≤n∧aT t.2.2 ((o,bJ v (eD l i a t.1).2)::B) (L++[(t.2.1,3,fJ (eD l i a t.1).1)])) (fun t=>n-t.1) (0,.bGI,H) ⟨bIT _,hH.qD 3⟩ hF PH.le_refl ?_
 rintro⟨j,w,H0⟩ ⟨hj,hH⟩
 simp only at hj hH ⊢
 have hle:=alQ l i ha j
 have hlen:=XY l i a j
 have e1:IntKind.i64.wrap ((i:Int)+1)=((i+1:Nat):Int):=cS Om
 simp only[go_sem,γ,reduceCtorEq,GP,aFU,eS]
 by_cases hlt:j<n
 ·have bGO:(j:Int)<(n:Nat):=by omega
  simp only[go_sem,bGO,aFV]
  refine aA (Lb.int 0 (by unfold dA; omega)) rfl ?_
  simp only[go_sem,δ]
  refine aO fun p hp=>?_
  have hH1:=hH.new hp (.rows 3 [mA.cells])
  simp only[go_sem,δ,γ,reduceCtorEq,aFW,e1]
  have fin:∀ (F':PF) (H':PH),(eS o o4 o6 n left i w j).le F'→F' 15=some (.ptr p 3 0 0)→aT H' ((o,bJ v (jU l i j (eD l i a j).2).2)::B++[(p,.rows 3 [(jU l i j (eD l i a j).2).1.cells])]) (L++[(w,3,fJ (eD l i a j).1)]) →
    aB.wp C (.region WV) (dJ 3 (hC C (aB.wp C (.region WW)) (dQ (fun (t:Nat × PV × PH)=>eS o o4 o6 n left i t.2.1 t.1) (fun t=>t.2.2) (fun t=>t.1≤n∧aT t.2.2 ((o,bJ v (eD l i a t.1).2)::B) (L++[(t.2.1,3,fJ (eD l i a t.1).1)])) (fun t=>n-t.1) (n-j) K))) F' H':=by
   intro F' H' hF' f15 hH'
   have f0:F' 0=some (.ptr o 2 0 0):=hF' 0 _ (by unfold eS; simp only[go_sem,reduceCtorEq])
   have f4:F' 4=some (.ptr o4 4 0 0):=hF' 4 _ (by unfold eS; simp only[go_sem,γ,reduceCtorEq])
   have f5:F' 5=some (.int .i64 n):=hF' 5 _ (by unfold eS; simp only[go_sem,γ,reduceCtorEq])
   have f6:F' 6=some (.ptr o6 4 0 0):=hF' 6 _ (by unfold eS; simp only[go_sem,γ,reduceCtorEq])
   have f7:F' 7=some (.int .i64 left):=hF' 7 _ (by unfold eS; simp only[go_sem,γ,reduceCtorEq])
   have f8:F' 8=some (.int .i64 i):=hF' 8 _ (by unfold eS; simp only[go_sem,γ,reduceCtorEq])
   have f13:F' 13=some w:=hF' 13 _ (by unfold eS; simp only[go_sem,γ,reduceCtorEq])
   have f14:F' 14=some (.int .i64 j):=hF' 14 _ (by unfold eS; simp only[go_sem,γ,reduceCtorEq])
   have hbp:H' p=some (.rows 3 [(jU l i j (eD l i a j).2).1.cells]):=hH'.box (p,.rows 3 [(jU l i j (eD l i a j).2).1.cells]) (by simp)
   have h13:(1:Nat)*3≤16777216:=by decide
   simp only[go_sem,υ,δ,γ,η,ζ,WV,f13,f15,hbp,h13]
   refine hH'.append (v:=w) (s:=3) (rows:=fJ (eD l i a j).1) L.length (src:=[(jU l i j (eD l i a j).2).1.cells]) (by simp) rfl (WM Om) fun w' H2 h2 _=>?_
   rw[vM,bLM _ _ (bIU _),Nat.sub_self] at h2
   simp only[go_sem,γ,WW,f14,ws j]
   refine aC (α:=Nat × PV × PH) (j+1,w',H2) ⟨hlt,h2.sub (List.sublist_append_left ..) (bKH.refl _)⟩ (by simp only; omega) ?_ PH.le_refl
   unfold eS
   exact Lq
  simp only[aB.wp,go_sem] at fin
  have hstore:∀ x:RF,PH.set (PH.set H0 p (.rows 3 [mA.cells])) p (.rows 3 [x.cells])=PH.set H0 p (.rows 3 [x.cells]):=fun x=>PH.set_set p _ _
  have draw:∀ (F':PF) (H1:PH) (a1:Nat),a1≤l.length→(eS o o4 o6 n left i w j).le F'→F' 15=some (.ptr p 3 0 0)→aT H1 ((o,bJ v a1)::B++[(p,.rows 3 [mA.cells])]) (L++[(w,3,fJ (eD l i a j).1)])→jU l i j (eD l i a j).2=fD l a1→∀ K',(∀ F2 H2,(eS o o4 o6 n left i w j).le F2→F2 15=some (.ptr p 3 0 0)→aT H2 ((o,bJ v (jU l i j (eD l i a j).2).2)::B++[(p,.rows 3 [(jU l i j (eD l i a j).2).1.cells])]) (L++[(w,3,fJ (eD l i a j).1)])→K' F2 H2) →
    wpOps C WU K' F' H1:=by
   intro F' H1 a1 ha1 hF' f15 hH1 he K' hK'
   have f0:F' 0=some (.ptr o 2 0 0):=hF' 0 _ (by unfold eS; simp only[go_sem,reduceCtorEq])
   simp only[go_sem,WU,f0]
   refine lO (Lb.frac l v T o a1 ha1) (hH1.at 0 rfl) rfl ?_
   have hH2:aT (H1.set o (bJ v (fD l a1).2)) ((o,bJ v (fD l a1).2)::B++[(p,.rows 3 [mA.cells])]) (L++[(w,3,fJ (eD l i a j).1)]):=hH1.set 0 rfl _
   have hp2:=hH2.LC
   simp only[go_sem,δ,γ,f15,hp2]
   refine hK' _ _ ?_ (by simp only[go_sem,γ,f15]) ?_
   ·have g:=fun (q:Nat) u h=>hF' q u h
    unfold eS at g ⊢
    refine PF.aF (PF.aF (PF.aF (PF.aF (PF.aF (PF.aF (PF.aF (PF.aF PF.nil_le ?_) ?_) ?_) ?_) ?_) ?_) ?_) ?_
    ·simp only[go_sem,reduceCtorEq,f0]
    ·simp only[go_sem,ξ,ρ,σ,μ,κ,ι,ο,ν,υ,δ,τ,γ,η,θ,ζ,ε,reduceCtorEq,reduceIte,g 4 _ rfl]
    ·simp only[go_sem,ξ,ρ,σ,μ,κ,ι,ο,ν,υ,δ,τ,γ,η,θ,ζ,ε,reduceCtorEq,reduceIte,g 5 _ rfl]
    ·simp only[go_sem,ξ,ρ,σ,μ,κ,ι,ο,ν,υ,δ,τ,γ,η,θ,ζ,ε,reduceCtorEq,reduceIte,g 6 _ rfl]
    ·simp only[go_sem,ξ,ρ,σ,μ,κ,ι,ο,ν,υ,δ,τ,γ,η,θ,ζ,ε,reduceCtorEq,reduceIte,g 7 _ rfl]
    ·simp only[go_sem,ξ,ρ,σ,μ,κ,ι,ο,ν,υ,δ,τ,γ,η,θ,ζ,ε,reduceCtorEq,reduceIte,g 8 _ rfl]
    ·simp only[go_sem,ξ,ρ,σ,μ,κ,ι,ο,ν,υ,δ,τ,γ,η,θ,ζ,ε,reduceCtorEq,reduceIte,g 13 _ rfl]
    ·simp only[go_sem,ξ,ρ,σ,μ,κ,ι,ο,ν,υ,δ,τ,γ,η,θ,ζ,ε,reduceCtorEq,reduceIte,g 14 _ rfl]
   ·rw[he]
    exact hH2.alS (.rows 3 [(fD l a1).1.cells])
  by_cases c1:j=i+1
  ·have he:jU l i j (eD l i a j).2=fD l (eD l i a j).2:=by unfold jU; rw[if_pos c1]
   simp only[go_sem,γ,reduceCtorEq,bO (Om:(j:Int)=((i+1:Nat):Int))]
   refine draw _ _ _ hle (by unfold eS; exact Lq) rfl hH1 he _ ?_
   intro F2 H2 k1 k2 k3
   exact fin F2 H2 k1 k2 k3
  ·simp only[go_sem,γ,reduceCtorEq,bF (Om:¬ (j:Int)=((i+1:Nat):Int))]
   by_cases c2:j=i
   ·have he:jU l i j (eD l i a j).2=(mA,(eD l i a j).2):=by unfold jU; rw[if_neg c1,if_pos c2]
    simp only[go_sem,γ,reduceCtorEq,bV (Om:(j:Int)=(i:Int))]
    exact fin _ _ (by unfold eS; exact Lq) rfl (by rw[he]; exact hH1)
   ·simp only[go_sem,γ,reduceCtorEq,cQ (Om:¬ (j:Int)=(i:Int))]
    refine cW Lb.toEL T (o:=o) (n:=3) (a:=(eD l i a j).2) (by decide) hle rfl (hH1.at 0 rfl) ?_
    have hH2:aT _ ((o,bJ v (aJ l 3 (eD l i a j).2).2)::B++[(p,.rows 3 [mA.cells])]) (L++[(w,3,fJ (eD l i a j).1)]):=hH1.set 0 rfl _
    by_cases c3:(aJ l 3 (eD l i a j).2).1=0
    ·have he:jU l i j (eD l i a j).2=fD l (aJ l 3 (eD l i a j).2).2:=by unfold jU; rw[if_neg c1,if_neg c2]; simp only[c3,if_true]
     simp only[go_sem,γ,reduceCtorEq,bO (show (((aJ l 3 (eD l i a j).2).1:Nat):Int)=0 by omega)]
     refine draw _ _ _ (bM l 3 hle) (by unfold eS; exact Lq) rfl hH2 he _ ?_
     intro F2 H2 k1 k2 k3
     exact fin F2 H2 k1 k2 k3
    ·have he:jU l i j (eD l i a j).2=(mA,(aJ l 3 (eD l i a j).2).2):=by unfold jU; rw[if_neg c1,if_neg c2]; simp only[c3,if_false]
     simp only[go_sem,γ,reduceCtorEq,bF (show ¬ (((aJ l 3 (eD l i a j).2).1:Nat):Int)=0 by omega)]
     exact fin _ _ (by unfold eS; exact Lq) rfl (by rw[he]; exact hH2)
 ·have bGO:¬ (j:Int)<(n:Nat):=by omega
  have:j=n:=by omega
  subst this
  simp only[go_sem,bGO]
  exact hK w _ _ (by unfold eS; exact Lq) hH
abbrev pT (o o4 o6:Nat) (v w1 w2 w3:PV) (a:Nat):List BX:=[(o,bJ v a),(o4,aEC),(o6,WF w1 w2 w3)]
abbrev tN (s:EJ) (w1 w2 w3:PV):List LI:=[(w1,3,fJ s.start),(w2,1,tD s.bGM),(w3,3,fJ s.exit)]
theorem bdH {C:Ctx} (Lb:rC C) {l:List Nat} {v:PV} (T:Tp l v) (o o4 o6 n i:Nat) (s:EJ) (hs:s.a≤l.length) (hl:s.left≤8) (hn:n≤100) (hi:i<n) (B:List BX) (L:List LI) (rest:aB) (K:bX) (F:PF) (H:PH)
  (hF:(cO o o4 o6 n s.left i).le F) (hH:aT H ((o,bJ v s.a)::B) L)
  (hK:∀ F' H',(cO o o4 o6 n (s.left-(dZ l n i s).1) i).le F'→F' 9=some (.int .i64 ((dZ l n i s).1:Nat))→aT H' ((o,bJ v (dZ l n i s).2)::B) L→aB.wp C rest K F' H') :
  aB.wp C (.seq (.region akN) (.seq (.seq (.region akO) (.cond (.tmp 29) (.region akP) .skip)) (.seq (.region RG) rest))) K F H:=by
 have f0:F 0=some (.ptr o 2 0 0):=hF 0 _ (by unfold cO; simp only[go_sem,reduceCtorEq])
 have f4:F 4=some (.ptr o4 4 0 0):=hF 4 _ (by unfold cO; simp only[go_sem,γ,reduceCtorEq])
 have f5:F 5=some (.int .i64 n):=hF 5 _ (by unfold cO; simp only[go_sem,γ,reduceCtorEq])
 have f6:F 6=some (.ptr o6 4 0 0):=hF 6 _ (by unfold cO; simp only[go_sem,γ,reduceCtorEq])
 have f7:F 7=some (.int .i64 s.left):=hF 7 _ (by unfold cO; simp only[go_sem,γ,reduceCtorEq])
 have f8:F 8=some (.int .i64 i):=hF 8 _ (by unfold cO; simp only[go_sem,γ,reduceCtorEq])
 have e1:IntKind.i64.wrap ((i:Int)+1)=((i+1:Nat):Int):=cS Om
 have hk:=(WH l n i s hs).2
 have e9:IntKind.i64.wrap ((s.left:Int)-((dZ l n i s).1:Int))=((s.left-(dZ l n i s).1:Nat):Int):=by rw[wrap_i64 Om Om]; omega
 simp only[go_sem,γ,akN,f7,akO,f8,f5,e1]
 by_cases c:i+1<n
 ·have c':((i+1:Nat):Int)<(n:Nat):=by omega
  have he:dZ l n i s=aJ l (s.left+1) s.a:=by unfold dZ; rw[if_pos c]
  have el:IntKind.i64.wrap ((s.left:Int)+1)=((s.left+1:Nat):Int):=cS Om
  rw[he] at hK e9
  simp only[go_sem,γ,reduceCtorEq,c',akP,f0,f7,el]
  refine cW Lb.toEL T (o:=o) (n:=s.left+1) (a:=s.a) Om hs rfl hH.bvF ?_
  have hH2:=hH.btK (bJ v (aJ l (s.left+1) s.a).2)
  simp only[go_sem,γ,RG,f7,e9]
  refine hK _ _ ?_ rfl hH2
  unfold cO
  exact Lq
 ·have c':¬ ((i+1:Nat):Int)<(n:Nat):=by omega
  have he:dZ l n i s=(s.left,s.a):=by unfold dZ; rw[if_neg c]
  rw[he] at hK e9
  simp only at hK e9
  simp only[go_sem,γ,c',RG,f7,e9]
  refine hK _ _ ?_ rfl hH
  unfold cO
  exact Lq
theorem a6B {C:Ctx} (Lb:rC C) {l:List Nat} {v:PV} (o o4 o6 n i left k a:Nat) (hk:k≤8) (hi:i<n) (hn:n≤100) (s:EJ) (hs:s.start.length=i) (w1 w2 w3:PV) (B:List BX) (rest:aB) (K:bX) (F:PF) (H:PH)
  (hF:(cO o o4 o6 n left i).le F) (f9:F 9=some (.int .i64 k)) (hH:aT H (pT o o4 o6 v w1 w2 w3 a++B) (tN s w1 w2 w3))
  (hK:∀ w1' F' H' B',(cO o o4 o6 n left i).le F'→aT H' (pT o o4 o6 v w1' w2 w3 a++B') (tN { s with start:=s.start++[mkT (k:Nat) 8] } w1' w2 w3)→aB.wp C rest K F' H') :
  aB.wp C (.seq (.region WN) (.seq (.region WO) rest)) K F H:=by
 have f0:F 0=some (.ptr o 2 0 0):=hF 0 _ (by unfold cO; simp only[go_sem,reduceCtorEq])
 have f4:F 4=some (.ptr o4 4 0 0):=hF 4 _ (by unfold cO; simp only[go_sem,γ,reduceCtorEq])
 have f5:F 5=some (.int .i64 n):=hF 5 _ (by unfold cO; simp only[go_sem,γ,reduceCtorEq])
 have f6:F 6=some (.ptr o6 4 0 0):=hF 6 _ (by unfold cO; simp only[go_sem,γ,reduceCtorEq])
 have f7:F 7=some (.int .i64 left):=hF 7 _ (by unfold cO; simp only[go_sem,γ,reduceCtorEq])
 have f8:F 8=some (.int .i64 i):=hF 8 _ (by unfold cO; simp only[go_sem,γ,reduceCtorEq])
 simp only[go_sem,WN,f9]
 refine aA (Lb.fmk (k:Int) 8 (by unfold dA; omega) (by unfold dA; omega)) rfl ?_
 unfold uR
 rw[if_neg (by decide)]
 simp only[go_sem,δ,γ]
 refine aO fun p hp=>?_
 have hH1:=hH.new hp (.rows 3 [(mkT (k:Nat) 8).cells])
 have g6:=hH1.at 2 rfl
 have gp:=hH1.LC
 have h13:(1:Nat)*3≤16777216:=by decide
 have hst:∀ y,PH.set (PH.set H p (.rows 3 [[PV.bool false,PV.bGI,PV.bGI]])) p y=PH.set H p y:=fun y=>PH.set_set p _ _
 simp only[go_sem,υ,δ,γ,η,θ,ζ,WO,f6,g6,gp,h13]
 refine hH1.append 0 (src:=[(mkT (k:Nat) 8).cells]) rfl rfl (WM Om) fun w1' H2 h2 hw=>?_
 rw[vM] at h2 hw; rw[lG] at hw
 obtain⟨q,rfl⟩:=hw (by simp)
 have g6':=h2.at 2 rfl
 simp only[go_sem,δ,θ,g6',bJB,bJI,or_false,forall_eq]
 have h3:=h2.set 2 rfl (WF (.osl q 3 0 (s.start++[mkT (k:Nat) 8]).length) w2 w3)
 refine hK _ _ _ (B++[(p,.rows 3 [(mkT (k:Nat) 8).cells])]) ?_ h3
 unfold cO
 exact Lq
theorem bdG {C:Ctx} (Lb:rC C) {l:List Nat} {v:PV} (T:Tp l v) (o o4 o6 n i left a:Nat) (ha:a≤l.length) (hi:i<n) (hn:n≤100) (s:EJ) (hs:s.exit.length=i) (w1 w2 w3:PV) (B:List BX) (rest:aB) (K:bX) (F:PF) (H:PH)
  (hF:(cO o o4 o6 n left i).le F) (hH:aT H (pT o o4 o6 v w1 w2 w3 a++B) (tN s w1 w2 w3))
  (hK:∀ w3' F' H' B',(cO o o4 o6 n left i).le F'→aT H' (pT o o4 o6 v w1 w2 w3' (fI l n i a).2++B') (tN { s with exit:=s.exit++[(fI l n i a).1] } w1 w2 w3')→aB.wp C rest K F' H') :
  aB.wp C (.seq (.region WP) (.seq (.seq (.region WQ) (.cond (.tmp 58) (.region WR) .skip)) (.seq (.region GQ) rest))) K F H:=by
 have f0:F 0=some (.ptr o 2 0 0):=hF 0 _ (by unfold cO; simp only[go_sem,reduceCtorEq])
 have f4:F 4=some (.ptr o4 4 0 0):=hF 4 _ (by unfold cO; simp only[go_sem,γ,reduceCtorEq])
 have f5:F 5=some (.int .i64 n):=hF 5 _ (by unfold cO; simp only[go_sem,γ,reduceCtorEq])
 have f6:F 6=some (.ptr o6 4 0 0):=hF 6 _ (by unfold cO; simp only[go_sem,γ,reduceCtorEq])
 have f7:F 7=some (.int .i64 left):=hF 7 _ (by unfold cO; simp only[go_sem,γ,reduceCtorEq])
 have f8:F 8=some (.int .i64 i):=hF 8 _ (by unfold cO; simp only[go_sem,γ,reduceCtorEq])
 have e1:IntKind.i64.wrap ((i:Int)+1)=((i+1:Nat):Int):=cS Om
 simp only[go_sem,WP,f0]
 refine lO (Lb.frac l v T o a ha) (hH.at 0 rfl) rfl ?_
 have hH1:=hH.set 0 rfl (bJ v (fD l a).2)
 simp only[go_sem,δ]
 refine aO fun p hp=>?_
 have hH2:=hH1.new hp (.rows 3 [(fD l a).1.cells])
 simp only[go_sem,δ,γ,WQ,f8,f5,e1]
 have fin:∀ (F':PF) (H':PH),(cO o o4 o6 n left i).le F'→F' 12=some (.ptr p 3 0 0)→aT H' (pT o o4 o6 v w1 w2 w3 (fI l n i a).2++B++[(p,.rows 3 [(fI l n i a).1.cells])]) (tN s w1 w2 w3)→wpOps C GQ (aB.wp C rest K) F' H':=by
  intro F' H' hF' f12 hH'
  have q0:F' 0=some (.ptr o 2 0 0):=hF' 0 _ (by unfold cO; simp only[go_sem,reduceCtorEq])
  have q4:F' 4=some (.ptr o4 4 0 0):=hF' 4 _ (by unfold cO; simp only[go_sem,γ,reduceCtorEq])
  have q5:F' 5=some (.int .i64 n):=hF' 5 _ (by unfold cO; simp only[go_sem,γ,reduceCtorEq])
  have q6:F' 6=some (.ptr o6 4 0 0):=hF' 6 _ (by unfold cO; simp only[go_sem,γ,reduceCtorEq])
  have q7:F' 7=some (.int .i64 left):=hF' 7 _ (by unfold cO; simp only[go_sem,γ,reduceCtorEq])
  have q8:F' 8=some (.int .i64 i):=hF' 8 _ (by unfold cO; simp only[go_sem,γ,reduceCtorEq])
  have g6:=hH'.at 2 rfl
  have gp:=hH'.LC
  have h13:(1:Nat)*3≤16777216:=by decide
  simp only[go_sem,υ,δ,γ,η,ζ,GQ,q6,g6,f12,gp,h13]
  refine hH'.append 2 (src:=[(fI l n i a).1.cells]) rfl rfl (WM Om) fun w3' H2 h2 hw=>?_
  rw[vM] at h2 hw; rw[lG] at hw
  obtain⟨q,rfl⟩:=hw (by simp)
  have g6':=h2.at 2 rfl
  simp only[go_sem,δ,g6',bJB,bJI,or_false,forall_eq]
  have h3:=h2.set 2 rfl (WF w1 w2 (.osl q 3 0 (s.exit++[(fI l n i a).1]).length))
  refine hK _ _ _ (B++[(p,.rows 3 [(fI l n i a).1.cells])]) ?_ h3
  unfold cO
  exact Lq
 by_cases c:i+1<n
 ·have c':((i+1:Nat):Int)<(n:Nat):=by omega
  have hle:=sQ l ha
  simp only[go_sem,γ,reduceCtorEq,c',f0]
  refine cW Lb.toEL T (o:=o) (n:=3) (a:=(fD l a).2) (by decide) hle rfl (hH2.at 0 rfl) ?_
  have hH3:=hH2.set 0 rfl (bJ v (aJ l 3 (fD l a).2).2)
  by_cases c3:(aJ l 3 (fD l a).2).1=0
  ·have he:fI l n i a=(mA,(aJ l 3 (fD l a).2).2):=by unfold fI; simp only[if_pos c,c3,if_true]
   have gp:=aT.LC (B:=pT o o4 o6 v w1 w2 w3 (aJ l 3 (fD l a).2).2++B) hH3
   simp only[go_sem,γ,bO (show (((aJ l 3 (fD l a).2).1:Nat):Int)=0 by omega),WR]
   refine aA (Lb.int 0 (by unfold dA; omega)) rfl ?_
   simp only[go_sem,δ,γ,gp]
   refine fin _ _ ?_ rfl ?_
   ·unfold cO
    exact Lq
   ·rw[he]
    exact aT.alS (B:=pT o o4 o6 v w1 w2 w3 (aJ l 3 (fD l a).2).2++B) hH3 (.rows 3 [mA.cells])
  ·have he:fI l n i a=((fD l a).1,(aJ l 3 (fD l a).2).2):=by unfold fI; simp only[if_pos c,c3,if_false]
   simp only[go_sem,γ,bF (show ¬ (((aJ l 3 (fD l a).2).1:Nat):Int)=0 by omega)]
   refine fin _ _ ?_ rfl ?_
   ·unfold cO
    exact Lq
   ·rw[he]
    exact hH3
 ·have c':¬ ((i+1:Nat):Int)<(n:Nat):=by omega
  have he:fI l n i a=fD l a:=by unfold fI; simp only[if_neg c]
  simp only[go_sem,γ,reduceCtorEq,c']
  refine fin _ _ ?_ rfl ?_
  ·unfold cO
   exact Lq
  ·rw[he]
   exact hH2
def biM (l:List Nat) (v:PV) (o dS a:Nat) (r:PV) (H:PH):Prop:=r=.agg (xX l dS a).1.cells∧H=PH.nil.set o (bJ v (xX l dS a).2)
theorem beW {l:List (List RF)} (h:l.length≤1000):roomFor (tD l).length 1 24:=by
 unfold roomFor
 simp only[bIM,maxLen]; omega
theorem beX (l:List (List RF)) (x:List RF):tD l++[[frs x]]=tD (l++[x]):=by simp[tD]
theorem a6A {C:Ctx} (Lb:rC C) {l:List Nat} {v:PV} (T:Tp l v) (o o4 o6 n left i a:Nat) (ha:a≤l.length) (hn:n≤100) (hi:i<n) (s:EJ) (hs:s.bGM.length=i) (w1 w2 w3:PV) (B:List BX) (K:bX) (F:PF) (H:PH)
  (hF:(cO o o4 o6 n left i).le F) (hH:aT H (pT o o4 o6 v w1 w2 w3 a++B) (tN s w1 w2 w3))
  (hK:∀ w2' w13 F' H' B',(cO o o4 o6 n left i).le F'→(∃ q,w13=.osl q 3 0 n)→aT H' (pT o o4 o6 v w1 w2' w3 (eD l i a n).2++B') [(w1,3,fJ s.start),(w2',1,tD s.bGM++[[w13]]),(w3,3,fJ s.exit),(w13,3,fJ (eD l i a n).1)]→K .normal F' H') :
  aB.wp C (.seq (.region WS) (.seq (.seq (.region WT) (.block 2 (.loop GP))) (.region WX))) K F H:=by
 have f0:F 0=some (.ptr o 2 0 0):=hF 0 _ (by unfold cO; simp only[go_sem,reduceCtorEq])
 have f4:F 4=some (.ptr o4 4 0 0):=hF 4 _ (by unfold cO; simp only[go_sem,γ,reduceCtorEq])
 have f5:F 5=some (.int .i64 n):=hF 5 _ (by unfold cO; simp only[go_sem,γ,reduceCtorEq])
 have f6:F 6=some (.ptr o6 4 0 0):=hF 6 _ (by unfold cO; simp only[go_sem,γ,reduceCtorEq])
 have f7:F 7=some (.int .i64 left):=hF 7 _ (by unfold cO; simp only[go_sem,γ,reduceCtorEq])
 have f8:F 8=some (.int .i64 i):=hF 8 _ (by unfold cO; simp only[go_sem,γ,reduceCtorEq])
 simp only[go_sem,WS,WT]
 refine blG (C:=C) Lb T o o4 o6 n left i a ha hn hi ([(o4,aEC),(o6,WF w1 w2 w3)]++B) (tN s w1 w2 w3) _ _ H ?_ hH ?_
 ·unfold eS
  (repeat' (first|exact PF.nil_le|refine PF.aF ?_ ?_))<;>first|(simp only[go_sem,γ,reduceCtorEq,f0,f4,f5,f6,f7,f8]<;>rfl)|rfl
 intro w F1 H1 hF1 hH1
 have hlen:=XY l i a n
 have hw:∃ q,w=.osl q 3 0 n:=by
  rcases hH1.own (v:=w) 3 rfl with ⟨h1,_⟩ | ⟨q,rs,h1,_⟩
  ·have:=congrArg List.length h1
   rw[lG,hlen] at this
   simp at this; omega
  ·rw[lG,hlen] at h1
   exact⟨q,h1⟩
 obtain⟨q,rfl⟩:=hw
 have g0:F1 0=some (.ptr o 2 0 0):=hF1 0 _ (by unfold eS; simp only[go_sem,reduceCtorEq])
 have g4:F1 4=some (.ptr o4 4 0 0):=hF1 4 _ (by unfold eS; simp only[go_sem,γ,reduceCtorEq])
 have g5:F1 5=some (.int .i64 n):=hF1 5 _ (by unfold eS; simp only[go_sem,γ,reduceCtorEq])
 have g6:F1 6=some (.ptr o6 4 0 0):=hF1 6 _ (by unfold eS; simp only[go_sem,γ,reduceCtorEq])
 have g7:F1 7=some (.int .i64 left):=hF1 7 _ (by unfold eS; simp only[go_sem,γ,reduceCtorEq])
 have g8:F1 8=some (.int .i64 i):=hF1 8 _ (by unfold eS; simp only[go_sem,γ,reduceCtorEq])
 have g13:F1 13=some (.osl q 3 0 n):=hF1 13 _ (by unfold eS; simp only[go_sem,γ,reduceCtorEq])
 have b6:=hH1.at 2 rfl
 have h11:(1:Nat)*1≤16777216:=by decide
 simp only[go_sem,υ,δ,γ,η,θ,ζ,WX,g6,b6,g13,h11,bJB,bJI,or_false,forall_eq]
 refine hH1.append 1 (src:=[[.osl q 3 0 n]]) rfl Sq (beW Om) fun w2' H2 h2 hw2=>?_
 obtain⟨q2,rfl⟩:=hw2 (by simp)
 have b6':=h2.at 2 rfl
 simp only[go_sem,δ,θ,b6',bJB,bJI,or_false,forall_eq]
 have h3:=h2.set 2 rfl (WF w1 (.osl q2 1 0 (tD s.bGM++[[PV.osl q 3 0 n]]).length) w3)
 have hl2:(tD s.bGM++[[(PV.osl q 3 0 n:PV)]]).length=s.bGM.length+1:=by simp
 rw[hl2] at h3 ⊢
 refine hK (.osl q2 1 0 (s.bGM.length+1)) (.osl q 3 0 n) _ _ B ?_ ⟨q,rfl⟩ h3
 unfold cO
 (repeat' (first|exact PF.nil_le|refine PF.aF ?_ ?_))<;>first|(simp only[go_sem,γ,reduceCtorEq,g0,g4,g5,g6,g7,g8]<;>rfl)|rfl
theorem bsB {C:Ctx} (Lb:rC C) {l:List Nat} {v:PV} (T:Tp l v) (o dS a:Nat) (hm:0<dS) (hm2:dS≤50) (ha:a≤l.length):MS.wp C (aR a5Z.res (biM l v o dS a)) (PF.args [.ptr o 2 0 0,.int .i64 dS]) (PH.nil.set o (bJ v a)):=by
 have h0:aT (PH.nil.set o (bJ v a)) [(o,bJ v a)] []:=aT.nil.new (H:=PH.nil) rfl (bJ v a)
 simp only[go_sem,δ,MS,aVQ,a5Z]
 refine aO fun o4 ho4=>?_
 have h1:=h0.new ho4 aEC
 simp only[go_sem,γ,reduceCtorEq,aVR]
 refine cW Lb.toEL T (o:=o) (n:=dS) (a:=a) Om ha Sq (h1.at 0 rfl) ?_
 have h2:=h1.set 0 rfl (bJ v (aJ l dS a).2)
 have hN:=eO l hm a
 have hNa:=bM l dS ha
 have e1:IntKind.i64.wrap (1+((aJ l dS a).1:Int))=((1+(aJ l dS a).1:Nat):Int):=by rw[wrap_i64 Om Om]; omega
 have hRT:∀ s:EJ,s=gP l (1+(aJ l dS a).1) (aJ l dS a).2 (1+(aJ l dS a).1)→xX l dS a=(⟨[],s.start,s.bGM,s.exit⟩,s.a):=fun s hs=>by rw[hs]; rfl
 have hLR:∀ r H,biM l v o dS a r H↔r=.agg (xX l dS a).1.cells∧H=PH.nil.set o (bJ v (xX l dS a).2):=fun _ _=>Iff.rfl
 generalize hn:1+(aJ l dS a).1=n at *
 generalize hb:(aJ l dS a).2=b at *
 have hn0:0<n:=by omega
 have hn100:n≤100:=by omega
 simp only[go_sem,δ,γ,e1,aVS]
 refine aO fun o6 ho6=>?_
 have h3:=((h2.new ho6 aEC).qD 3).qD 1
 have h4:=h3.qD 3
 simp only[go_sem,aVT,aVU]
 refine wp_loop (α:=Nat × PV × PV × PV × PH) (fun t=>cO o o4 o6 n (gP l n b t.1).left t.1) (fun t=>t.2.2.2.2)
  (fun t=>t.1≤n∧aT t.2.2.2.2 (pT o o4 o6 v t.2.1 t.2.2.1 t.2.2.2.1 (gP l n b t.1).a) (tN (gP l n b t.1) t.2.1 t.2.2.1 t.2.2.2.1)) (fun t=>n-t.1) (0,.bGI,.bGI,.bGI,_) ⟨bIT _,h4⟩ ?_ PH.le_refl ?_
 ·unfold cO
  (repeat' (first|exact PF.nil_le|refine PF.aF ?_ ?_))<;>first|(simp only[go_sem,γ,reduceCtorEq,gP]<;>rfl)|rfl
 rintro⟨i,w1,w2,w3,H0⟩ ⟨hi,hH⟩
 simp only at hi hH ⊢
 obtain⟨k1,k2,k3,k4,k5⟩:=akI l n hNa i
 simp only[go_sem,γ,reduceCtorEq,aFT,aVV,cO]
 by_cases hlt:i<n
 ·have bGO:(i:Int)<(n:Nat):=by omega
  have bGP:gP l n b (i+1)=⟨(gP l n b i).start++[mkT ((dZ l n i (gP l n b i)).1:Nat) 8],(gP l n b i).exit++[(fI l n i (dZ l n i (gP l n b i)).2).1],(gP l n b i).bGM++[(eD l i (fI l n i (dZ l n i (gP l n b i)).2).2 n).1],(gP l n b i).left-(dZ l n i (gP l n b i)).1,(eD l i (fI l n i (dZ l n i (gP l n b i)).2).2 n).2⟩:=rfl
  have kl:=WH l n i (gP l n b i) k1
  have ke:=aAL l n i kl.1
  generalize hs:gP l n b i=s at *
  simp only[go_sem,bGO]
  refine bdH (C:=C) Lb T o o4 o6 n i s k1 k2 hn100 hlt [(o4,aEC),(o6,WF w1 w2 w3)] (tN s w1 w2 w3) _ _ _ H0 (by unfold cO; exact Lq) hH ?_
  intro F1 H1 hF1 f9 hH1
  refine a6B (C:=C) (l:=l) Lb o o4 o6 n i _ (dZ l n i s).1 (dZ l n i s).2 Om hlt hn100 s k3 w1 w2 w3 [] _ _ F1 H1 hF1 f9 hH1 ?_
  intro w1' F2 H2 B2 hF2 hH2
  refine bdG (C:=C) Lb T o o4 o6 n i _ (dZ l n i s).2 kl.1 hlt hn100 { s with start:=s.start++[mkT ((dZ l n i s).1:Nat) 8] } k4 w1' w2 w3 B2 _ _ F2 H2 hF2 hH2 ?_
  intro w3' F3 H3 B3 hF3 hH3
  refine a6A (C:=C) Lb T o o4 o6 n _ i (fI l n i (dZ l n i s).2).2 ke hn100 hlt { s with start:=s.start++[mkT ((dZ l n i s).1:Nat) 8],exit:=s.exit++[(fI l n i (dZ l n i s).2).1] } k5 w1' w2 w3' B3 _ F3 H3 hF3 hH3 ?_
  rintro w2' w13 F4 H4 B4 hF4 ⟨q,rfl⟩ hH4
  have g0:F4 0=some (.ptr o 2 0 0):=hF4 0 _ (by unfold cO; simp only[go_sem,reduceCtorEq])
  have g4:F4 4=some (.ptr o4 4 0 0):=hF4 4 _ (by unfold cO; simp only[go_sem,γ,reduceCtorEq])
  have g5:F4 5=some (.int .i64 n):=hF4 5 _ (by unfold cO; simp only[go_sem,γ,reduceCtorEq])
  have g6:F4 6=some (.ptr o6 4 0 0):=hF4 6 _ (by unfold cO; simp only[go_sem,γ,reduceCtorEq])
  have g7:F4 7=some (.int .i64 (s.left-(dZ l n i s).1:Nat)):=hF4 7 _ (by unfold cO; simp only[go_sem,γ,reduceCtorEq])
  have g8:F4 8=some (.int .i64 i):=hF4 8 _ (by unfold cO; simp only[go_sem,γ,reduceCtorEq])
  obtain⟨rs,z1,z2,z3,z4,z5⟩:=hH4.frz 3 rfl
  have y1:=z4 0 _ (by decide) rfl
  have y2:=z4 1 _ (by decide) rfl
  have y3:=z4 2 _ (by decide) rfl
  simp only at y1 y2 y3
  have y4:=T.frz q 3 rs
  simp only[go_sem,γ,aFX,g8,ws i]
  refine anY (i+1,w1',w2',w3',H4.frz q 3 rs) z1 ⟨hlt,?_⟩ (by simp only; omega) ?_ PH.le_refl
  ·rw[bGP]
   have eB:(pT o o4 o6 v w1' w2' w3' (eD l i (fI l n i (dZ l n i s).2).2 n).2).map (fun b=>(b.1,b.2.frz q 3 rs))=pT o o4 o6 v w1' w2' w3' (eD l i (fI l n i (dZ l n i s).2).2 n).2:=by
    simp only[bKD,bKW,cE.frz,y1,y2,y3,y4]
    rfl
   have eL:([(w1',3,fJ (s.start++[mkT ((dZ l n i s).1:Nat) 8])),(w2',1,tD s.bGM++[[.osl q 3 0 n]]),(w3',3,fJ (s.exit++[(fI l n i (dZ l n i s).2).1]))]:List LI).map (fun x=>(x.1,x.2.1,x.2.2.map fun r=>r.map (PV.dP q 3 rs))) =
     tN ⟨s.start++[mkT ((dZ l n i s).1:Nat) 8],s.exit++[(fI l n i (dZ l n i s).2).1],s.bGM++[(eD l i (fI l n i (dZ l n i s).2).2 n).1],s.left-(dZ l n i s).1,(eD l i (fI l n i (dZ l n i s).2).2 n).2⟩ w1' w2' w3':=by
    have e2:(tD s.bGM++[[PV.osl q 3 0 n]]).map (fun r=>r.map (PV.dP q 3 rs))=tD (s.bGM++[(eD l i (fI l n i (dZ l n i s).2).2 n).1]):=by
     rw[bKV,apZ,bKD,bKW,bKD,bKW,z2,beX]
    show ([(w1',3,(fJ (s.start++[mkT ((dZ l n i s).1:Nat) 8])).map (fun r=>r.map (PV.dP q 3 rs))),(w2',1,(tD s.bGM++[[PV.osl q 3 0 n]]).map (fun r=>r.map (PV.dP q 3 rs))),(w3',3,(fJ (s.exit++[(fI l n i (dZ l n i s).2).1])).map (fun r=>r.map (PV.dP q 3 rs)))]:List LI)=_
    rw[EY,e2,EY]
   rw[← eB,← eL]
   exact z5.sub (by rw[bKV]; exact List.sublist_append_left ..) (bKH.refl _)
  ·rw[bGP]
   (repeat' (first|exact PF.nil_le|refine PF.aF ?_ ?_))<;>first|(simp only[go_sem,γ,reduceCtorEq,g0,g4,g5,g6,g7,g8]<;>rfl)|rfl
 ·have bGO:¬ (i:Int)<(n:Nat):=by omega
  have:i=n:=by omega
  subst this
  simp only[go_sem,γ,reduceCtorEq,bGO,aFY]
  have b4:=hH.at 1 rfl
  have b6:=hH.at 2 rfl
  have osl:∀ {w:PV} {z:Nat} {rows:List (List PV)},rows.length=i→aX H0 z w rows→∃ q,w=.osl q z 0 i:=by
   intro w z rows hr hO
   rcases hO with ⟨h1,_⟩ | ⟨q,rs,h1,_⟩
   ·rw[h1] at hr; simp at hr; omega
   ·exact⟨q,by rw[h1,hr]⟩
  obtain⟨q1,rfl⟩:=osl (by rw[lG,k3]) (hH.own 0 rfl)
  obtain⟨q2,rfl⟩:=osl (by rw[bIM,k5]) (hH.own 1 rfl)
  obtain⟨q3,rfl⟩:=osl (by rw[lG,k4]) (hH.own 2 rfl)
  have hR:=hRT (gP l i b i) rfl
  simp only[go_sem,δ,γ,reduceCtorEq,b6,b4,bJB,bJI,or_false,forall_eq,forall_eq_or_imp]
  have x1:=hH.set 1 rfl (WF (.osl q1 3 0 i) (.osl q2 1 0 i) (.osl q3 3 0 i))
  obtain⟨r1,s1,s2,s3,s4,s5⟩:=x1.frz 0 rfl
  have u2:=s4 1 _ (by decide) rfl
  have u3:=s4 2 _ (by decide) rfl
  simp only at u2 u3
  have u4:=T.frz q1 3 r1
  obtain⟨r2,t1,t2,t3,t4,t5⟩:=s5.frz 0 rfl
  have m3:=t4 1 _ (by decide) rfl
  simp only at m3
  have m4:=T.frz q2 1 r2
  obtain⟨r3,n1,n2,n3,n4,n5⟩:=t5.frz 0 rfl
  have n4:=T.frz q3 3 r3
  refine alO (vs:=[.agg [.str [],.osl q1 3 0 i,.osl q2 1 0 i,.osl q3 3 0 i]]) (.inr rfl) ?_ (.step s1 (.step t1 (.step n1 (.done (H2:=PH.nil.set o (bJ v (gP l i b i).a)) ?_ (PH.aF PH.nil_le ?_)))))
  ·simp only[go_sem,δ,γ,reduceCtorEq]
  ·rw[hLR,hR]
   refine⟨?_,rfl⟩
   simp only[bH,PV.frz,PV.rK,bKD,bKW,s2,u2,u3,t2,m3,n2]
   simp only[PV.dP,EY _ _ _ _,apZ _ _ _ _]
  ·have:=n5.at 0 rfl
   rw[this]
   simp only[cE.frz,bKD,bKW,u4,m4,n4]
   rfl
structure mC (C:Ctx):Prop extends rC C where
 law:∀ (l:List Nat) (v:PV),Tp l v→∀ (o dS a:Nat),0<dS→dS≤50→a≤l.length→aH C 2 [.ptr o 2 0 0,.int .i64 dS] (PH.nil.set o (bJ v a)) (biM l v o dS a)
structure GOk (l:List Nat) (bGG:Nat) (s:GS):Prop where
 bGT:s.bGT.length≤35
 bHH:s.bHH.length≤bGG
 a:s.a≤l.length
theorem VO {l:List Nat} {mc bGG dom:Nat} {s:GS} (h:GOk l bGG s):∀ i,GOk l bGG (kT l mc bGG dom s i)∧(kT l mc bGG dom s i).bGT=s.bGT
 | 0=>⟨h,rfl⟩
 | i+1=>by
  obtain⟨⟨h1,h2,h3⟩,h4⟩:=VO (mc:=mc) (dom:=dom) h i
  simp only[kT]
  split
  ·exact⟨⟨h1,by simp only[bIQ,bIX]; omega,bM l mc h3⟩,h4⟩
  ·exact⟨⟨h1,h2,h3⟩,h4⟩
theorem aSU {l:List Nat} {level dom bGG:Nat} {s:GS} (h:GOk l bGG s) (hf:rM bGG s=false):GOk l bGG (sN l level dom s)∧∃ x:cG,(sN l level dom s).bGT=s.bGT++[x]∧x.level=(level:Int)∧x.parent=(dom:Int):=by
 obtain⟨h1,h2,h3⟩:=h
 unfold rM at hf
 rw[Bool.or_eq_false_iff] at hf
 have hd:=of_decide_eq_false hf.2
 refine⟨⟨?_,h2,?_⟩,_,rfl,rfl,rfl⟩
 ·simp only[sN,bIQ,bIX]; omega
 ·have a1:=bM l 3 (bM l 16 h3)
  simp only[sN]
  split
  ·exact bM l 6 a1
  ·exact a1
theorem VP {l:List Nat} {level bGG dom:Nat} {rec:Nat→GS→GS} (hrec:∀ d t,GOk l bGG t→GOk l bGG (rec d t)∧∃ u,(rec d t).bGT=t.bGT++u) {s:GS} (h:GOk l bGG s) :
  ∀ i,GOk l bGG (iR l level bGG dom rec s i)∧∃ u,(iR l level bGG dom rec s i).bGT=s.bGT++u
 | 0=>⟨h,[],by simp[iR]⟩
 | i+1=>by
  obtain⟨h1,u,h2⟩:=VP hrec h i
  simp only[iR]
  split
  ·exact⟨h1,u,h2⟩
  ·rename_i hf
   obtain⟨g1,x,g2,-⟩:=aSU (level:=level) (dom:=dom) h1 (by simpa using hf)
   obtain⟨k1,u',k2⟩:=hrec ((sN l level dom (iR l level bGG dom rec s i)).bGT.length-1) _ g1
   exact⟨k1,u++[x]++u',by rw[k2,g2,h2]; simp⟩
theorem VQ {l:List Nat} {mc bGG:Nat}:∀ (k dom:Nat) {s:GS},GOk l bGG s→GOk l bGG (eZ l mc bGG k dom s)∧∃ u,(eZ l mc bGG k dom s).bGT=s.bGT++u
 | 0,dom,s,h=>by
  have h0:GOk l bGG { s with a:=(aJ l 2 s.a).2 }:=⟨h.bGT,h.bHH,bM l 2 h.a⟩
  obtain⟨h1,h2⟩:=VO (mc:=mc) (dom:=dom) h0 (1+(aJ l 2 s.a).1)
  exact⟨h1,[],by simp only[eZ]; rw[h2]; simp⟩
 | k+1,dom,s,h=>by
  have h0:GOk l bGG { s with a:=(aJ l 2 s.a).2 }:=⟨h.bGT,h.bHH,bM l 2 h.a⟩
  exact VP (level:=4-k) (dom:=dom) (fun d t ht=>VQ k d ht) h0 (if 4-k=2 then 1 else 1+(aJ l 2 s.a).1)
theorem a4B {l : List Nat} {level bGG dom : Nat} {rec : Nat → GS → GS} {s : GS} {i : Nat} (h : rM bGG (iR l level bGG dom rec s i) = true) : ∀ n, i ≤ n → iR l level bGG dom rec s n = iR l level bGG dom rec s i := by
  intro n hn
  induction n with
  | zero => have : i = 0 := by omega
            subst this; rfl
  | succ n ih =>
    rcases bJG n i with h' | h'
    · have : i = n + 1 := by omega
      subst this; rfl
    · have e := ih h'
      simp only [iR]
      rw [e, if_pos h]
def mkS (l:List Nat) (v:PV):Spec:=fun name vs=>match name,vs with
 | 29,[.str s,.int _ i]=>some ([],fun _=>aD (.str (s++cN i.toNat)))
 | 47,[.int _ n]=>some ([],fun _=>aD (.agg (mkT n 1).cells))
 | 4,[.ptr o _ _ _,.int _ n]=>some ([o],fun H0 r H'=>∀ a,H0 o=some (bJ v a)→ZQ l v o n.toNat a r H')
 | _,_=>none
section
variable {C:Ctx} {F:PF} {H Hs:PH} {l:List Nat} {v:PV} {o a:Nat}
theorem pZ (Lb:EL C) (T:Tp l v) {n:Nat} {st:Bool} {args:List aP} {d:Option Nat} {K:PF→PH→Prop} (hn:n≤1000000) (ha:a≤l.length) (bIB:aP.evs F args=some [.ptr o 2 0 0,.int .i64 n]) (ho:H o=some (bJ v a))
  (hle:Hs.le (H.set o (bJ v (aJ l n a).2))) (hk:K (F.put d (.int .i64 ((aJ l n a).1:Nat))) (H.set o (bJ v (aJ l n a).2))):dOp C Hs (mkS l v) st (.call 4 args) d K F H:=by
 refine biX (x:=bJ v a) (y:=bJ v (aJ l n a).2) (r:=.int .i64 ((aJ l n a).1:Nat)) (R:=fun H0 r H'=>∀ a,H0 o=some (bJ v a)→ZQ l v o n a r H') rfl ho (Lb.next l v T o n a hn ha) ?_ ?_ bIB hle hk
 ·intro b hb
  rw[jD] at hb
  injection hb with hb
  injection hb with _ hb
  injection hb with hb _
  injection hb with _ hb
  injection hb with hb _
  injection hb with _ hb
  have:a=b:=by omega
  subst this
  exact⟨rfl,rfl⟩
 ·intro r' H' hr
  exact hr a (by rw[jD])
theorem EO (Lb:rC C) {s:List UInt8} {n:Nat} {st:Bool} {args:List aP} {d:Option Nat} {K:PF→PH→Prop} (hs:s.length≤100) (hn:n<100) (bIB:aP.evs F args=some [.str s,.int .i64 n]) (hle:Hs.le H) (hk:K (F.put d (.str (s++cN n))) H) :
  dOp C Hs (mkS l v) st (.call 29 args) d K F H :=
 bC (v:=.str (s++cN n)) rfl (Lb.name s n hs hn) bIB hle hk
theorem bpX (Lb:EL C) {n:Int} {st:Bool} {args:List aP} {d:Option Nat} {K:PF→PH→Prop} (hn:dA n) (bIB:aP.evs F args=some [.int .i64 n]) (hle:Hs.le H) (hk:K (F.put d (.agg (mkT n 1).cells)) H) :
  dOp C Hs (mkS l v) st (.call 47 args) d K F H :=
 bC (v:=.agg (mkT n 1).cells) rfl (Lb.int n hn) bIB hle hk
end
theorem aX.uY {H:PH} {s:Nat} {v:PV} {rows:List (List PV)} (h:aX H s v rows):PV.uY v=some (.int .i64 (rows.length:Nat)):=by
 rcases h with ⟨rfl,rfl⟩ | ⟨q,rs,rfl,_⟩<;>rfl
abbrev jL (l:List cG):List (List PV):=l.map cG.cells
abbrev lF (l:List dD):List (List PV):=l.map dD.cells
abbrev flB (ext wl wm wd wr wp wv:PV):cE:=.rows 7 [[ext,wl,wm,wd,wr,wp,wv]]
structure GE where
 o:Nat
 fo:Nat
 qm:Nat
 ext:PV
 wl:PV
 wp:PV
 wv:PV
abbrev GE.boxes (G:GE) (v:PV) (mc:Nat) (wd wr:PV) (a:Nat):List BX:=[(G.o,bJ v a),(G.fo,flB G.ext G.wl (.osl G.qm 4 0 mc) wd wr G.wp G.wv)]
abbrev kU (s:GS) (wd wr:PV):List LI:=[(wd,7,jL s.bGT),(wr,3,lF s.bHH)]
def eJ (G:GE) (dom bGG level n i:Nat):PF:=(((((((PF.nil.set 0 (.ptr G.o 2 0 0)).set 1 (.ptr G.fo 7 0 0)).set 2 (.int .i64 dom)).set 3 (.int .i64 bGG)).set 8 (.int .i64 level)).set 9 (.int .i64 n)).set 10 (.int .i64 i))
theorem aX.one {H:PH} {s:Nat} {v:PV} {rows:List (List PV)} (h:aX H s v rows) (hn:0<rows.length):∃ q,v=.osl q s 0 rows.length:=by
 rcases h with ⟨rfl,_⟩ | ⟨q,rs,rfl,_⟩
 ·simp at hn
 ·exact⟨q,rfl⟩
theorem aFK {C:Ctx} (Lb:mC C) {l:List Nat} {v:PV} (T:Tp l v) (G:GE) (mc bGG dom n:Nat) (hmc:0<mc) (hmc2:mc≤1000) (hdr:bGG≤60) (hn:n≤10) (s:GS) (hs:GOk l bGG s) (wd wr:PV) (K:bX) (F:PF) (H:PH)
  (hF:(eJ G dom bGG 5 n 0).le F) (hH:aT H (G.boxes v mc wd wr s.a) (kU s wd wr))
  (hK:∀ wd' wr' F' H',aT H' (G.boxes v mc wd' wr' (kT l mc bGG dom s n).a) (kU (kT l mc bGG dom s n) wd' wr')→K (.exit 0) F' H') :
  aB.wp C (.loop uJ) K F H:=by
 refine wp_loop (α:=Nat × PV × PV × PH) (fun t=>eJ G dom bGG 5 n t.1) (fun t=>t.2.2.2) (fun t=>t.1≤n∧aT t.2.2.2 (G.boxes v mc t.2.1 t.2.2.1 (kT l mc bGG dom s t.1).a) (kU (kT l mc bGG dom s t.1) t.2.1 t.2.2.1)) (fun t=>n-t.1) (0,wd,wr,H) ⟨bIT _,hH⟩ hF PH.le_refl ?_
 rintro⟨i,wd,wr,H0⟩ ⟨hi,hH⟩
 simp only at hi hH ⊢
 obtain⟨gs,-⟩:=VO (mc:=mc) (dom:=dom) hs i
 have bGP:kT l mc bGG dom s (i+1)=(if (kT l mc bGG dom s i).bHH.length<bGG then { kT l mc bGG dom s i with bHH:=(kT l mc bGG dom s i).bHH++[⟨[100]++cN (kT l mc bGG dom s i).bHH.length,((aJ l mc (kT l mc bGG dom s i).a).1:Nat),(dom:Nat)⟩],a:=(aJ l mc (kT l mc bGG dom s i).a).2 } else kT l mc bGG dom s i):=rfl
 simp only[go_sem,γ,reduceCtorEq,uJ,WK,eJ]
 by_cases hlt:i<n
 ·have bGO:(i:Int)<(n:Nat):=by omega
  generalize hg:kT l mc bGG dom s i=g at *
  have b1:=hH.at 1 rfl
  have lr:=(hH.own 1 rfl).uY
  rw[bIM] at lr
  have ei:=ws i
  simp only[go_sem,δ,γ,θ,reduceCtorEq,bGO,WL,show (((5:Nat):Int)==5)=true from rfl,aFQ,b1,lr]
  by_cases hc:g.bHH.length<bGG
  ·have hc':(g.bHH.length:Int)<(bGG:Nat):=by omega
   rw[if_pos hc] at bGP
   simp only[go_sem,hc']
   have hHs:(PH.nil.set G.fo (flB G.ext G.wl (.osl G.qm 4 0 mc) wd wr G.wp G.wv)).le H0:=PH.aF PH.nil_le b1
   refine bK (PH.nil.set G.fo (flB G.ext G.wl (.osl G.qm 4 0 mc) wd wr G.wp G.wv)) (mkS l v) hHs ?_
   simp only[go_sem,δ,γ,θ,reduceCtorEq,aFR,b1,lr]
   refine EO Lb.torC (s:=[100]) (n:=g.bHH.length) (by decide) (by have:=gs.bHH; omega) rfl hHs ?_
   simp only[go_sem,δ,γ,θ,reduceCtorEq]
   have ho:=hH.at 0 rfl
   have h1:=hH.set 0 rfl (bJ v (aJ l mc g.a).2)
   have b1':=h1.at 1 rfl
   refine pZ Lb.toEL T (o:=G.o) (n:=mc) (a:=g.a) Om gs.a rfl ho (PH.aF PH.nil_le b1') ?_
   have h132:(1:Nat)*3≤16777216:=by decide
   simp only[go_sem,υ,δ,γ,η,θ,ζ,reduceCtorEq,h132,bJB,bJI,or_false,forall_eq,forall_eq_or_imp]
   refine h1.append 1 (src:=[(⟨[100]++cN g.bHH.length,((aJ l mc g.a).1:Nat),(dom:Nat)⟩:dD).cells]) rfl rfl (by unfold roomFor; rw[bIM]; have:=gs.bHH; simp only[bIX,maxLen]; omega) fun wr' H2 h2 hw=>?_
   obtain⟨q,rfl⟩:=hw (by simp)
   have b2:=h2.at 1 rfl
   refine⟨PH.aF PH.nil_le b2,?_⟩
   refine bK .nil dC PH.nil_le ?_
   simp only[go_sem,δ,γ,θ,reduceCtorEq,aFS,b2,bJB,bJI,or_false,forall_eq]
   have h3:=h2.set 1 rfl (flB G.ext G.wl (.osl G.qm 4 0 mc) wd (.osl q 3 0 (lF g.bHH++[(⟨[100]++cN g.bHH.length,((aJ l mc g.a).1:Nat),(dom:Nat)⟩:dD).cells]).length) G.wp G.wv)
   refine⟨PH.nil_le,?_⟩
   simp only[go_sem,γ,reduceCtorEq,uK,ei]
   refine aC (i+1,wd,.osl q 3 0 (lF g.bHH++[(⟨[100]++cN g.bHH.length,((aJ l mc g.a).1:Nat),(dom:Nat)⟩:dD).cells]).length,_) ⟨hlt,?_⟩ (by simp only; omega) ?_ PH.le_refl
   ·rw[bGP]
    have e:lF (g.bHH++[(⟨[100]++cN g.bHH.length,((aJ l mc g.a).1:Nat),(dom:Nat)⟩:dD)])=lF g.bHH++[(⟨[100]++cN g.bHH.length,((aJ l mc g.a).1:Nat),(dom:Nat)⟩:dD).cells]:=by simp[lF]
    unfold kU
    simp only
    rw[e]
    exact h3
   ·exact Lq
  ·have hc':¬ (g.bHH.length:Int)<(bGG:Nat):=by omega
   rw[if_neg hc] at bGP
   simp only[go_sem,γ,reduceCtorEq,hc',uK,ei]
   refine aC (i+1,wd,wr,H0) ⟨hlt,by rw[bGP]; exact hH⟩ (by simp only; omega) ?_ PH.le_refl
   exact Lq
 ·have bGO:¬ (i:Int)<(n:Nat):=by omega
  have:i=n:=by omega
  subst this
  simp only[go_sem,bGO]
  exact hK wd wr _ _ hH
def a2J (G:GE) (v:PV) (mc:Nat) (s':GS) (r:PV) (B':List BX) (L':List LI):Prop:=r=.tup []∧∃ wd wr,B'=G.boxes v mc wd wr s'.a∧L'=kU s' wd wr
def ZO (C:Ctx) (l:List Nat) (v:PV) (mc bGG k:Nat):Prop :=
 ∀ (G:GE) (wd wr:PV) (s:GS) (dom:Nat) (x:cG),GOk l bGG s→s.bGT[dom]?=some x→x.level=4-(k:Int)→∀ H0,aT H0 (G.boxes v mc wd wr s.a) (kU s wd wr) →
  aH C 7 [.ptr G.o 2 0 0,.ptr G.fo 7 0 0,.int .i64 dom,.int .i64 bGG] H0 (fun r H'=>∃ B' L',a2J G v mc (eZ l mc bGG k dom s) r B' L'∧aT H' B' L')
theorem bbY {lv:Nat} (h:lv≤4):([45,115,114,107,109]:List UInt8)[lv]?=some (nD lv):=by
 match lv,h with
 | 0,_=>rfl
 | 1,_=>rfl
 | 2,_=>rfl
 | 3,_=>rfl
 | 4,_=>rfl
theorem SO {C:Ctx} {l:List Nat} {v:PV} (G:GE) (mc bGG dom lv n i k p:Nat) (hlv:lv=4-k) (hk:k<4) (hrec:ZO C l v mc bGG k) (g:GS) (x:cG) (a:Nat) (hg:GOk l bGG { g with bGT:=g.bGT++[x],a:=a }) (hx:x.level=(lv:Nat)) (wd wr:PV) (hdr:bGG≤60) (K:bX) (F:PF) (H:PH)
  (hF:(eJ G dom bGG lv n i).le F) (f11:F 11=some (.ptr p 7 0 0)) (hH:aT H (G.boxes v mc wd wr a++[(p,.rows 7 [x.cells])]) (kU g wd wr))
  (hK:∀ wd' wr' F' H',(eJ G dom bGG lv n i).le F'→aT H' (G.boxes v mc wd' wr' (eZ l mc bGG k g.bGT.length { g with bGT:=g.bGT++[x],a:=a }).a) (kU (eZ l mc bGG k g.bGT.length { g with bGT:=g.bGT++[x],a:=a }) wd' wr')→K .normal F' H') :
  aB.wp C (.draw MQ) (hC C (aB.wp C (.region MR)) K) F H:=by
 have f0:F 0=some (.ptr G.o 2 0 0):=hF 0 _ (by unfold eJ; simp only[go_sem,reduceCtorEq])
 have f1:F 1=some (.ptr G.fo 7 0 0):=hF 1 _ (by unfold eJ; simp only[go_sem,γ,reduceCtorEq])
 have f2:F 2=some (.int .i64 dom):=hF 2 _ (by unfold eJ; simp only[go_sem,γ,reduceCtorEq])
 have f3:F 3=some (.int .i64 bGG):=hF 3 _ (by unfold eJ; simp only[go_sem,γ,reduceCtorEq])
 have f8:F 8=some (.int .i64 lv):=hF 8 _ (by unfold eJ; simp only[go_sem,γ,reduceCtorEq])
 have f9:F 9=some (.int .i64 n):=hF 9 _ (by unfold eJ; simp only[go_sem,γ,reduceCtorEq])
 have f10:F 10=some (.int .i64 i):=hF 10 _ (by unfold eJ; simp only[go_sem,γ,reduceCtorEq])
 have hdl:=hg.bGT
 simp only[bIQ,bIX] at hdl
 have b1:=hH.at 1 rfl
 have b2:=hH.at 2 rfl
 have h17:(1:Nat)*7≤16777216:=by decide
 refine bK .nil dC PH.nil_le ?_
 simp only[go_sem,υ,δ,γ,η,θ,ζ,reduceCtorEq,MQ,f1,f11,b1,b2,h17,bJB,bJI,or_false,forall_eq,forall_eq_or_imp]
 refine hH.append 0 (src:=[x.cells]) rfl rfl (by unfold roomFor; rw[bIM]; simp only[bIX,maxLen]; omega) fun wd' H2 h2 hw=>?_
 obtain⟨q,rfl⟩:=hw (by simp)
 have hl:(jL g.bGT++[x.cells]).length=g.bGT.length+1:=by simp
 rw[hl] at h2 ⊢
 have c1:=h2.at 1 rfl
 refine⟨PH.nil_le,?_⟩
 simp only[go_sem,δ,θ,c1,bJB,bJI,or_false,forall_eq]
 have h3:=h2.set 1 rfl (flB G.ext G.wl (.osl G.qm 4 0 mc) (.osl q 7 0 (g.bGT.length+1)) wr G.wp G.wv)
 have c2:=h3.at 1 rfl
 refine⟨PH.nil_le,?_⟩
 have e:jL (g.bGT++[x])=jL g.bGT++[x.cells]:=by simp[jL]
 have ew:IntKind.i64.wrap (((g.bGT.length+1:Nat):Int)-1)=((g.bGT.length:Nat):Int):=by rw[wrap_i64 Om Om]; omega
 simp only[go_sem,δ,γ,θ,reduceCtorEq,MR,f0,f1,f3,ew]
 have h4:aT (H2.set G.fo (flB G.ext G.wl (.osl G.qm 4 0 mc) (.osl q 7 0 (g.bGT.length+1)) wr G.wp G.wv)) (G.boxes v mc (.osl q 7 0 (g.bGT.length+1)) wr a++[(p,.rows 7 [x.cells])]) (kU { g with bGT:=g.bGT++[x],a:=a } (.osl q 7 0 (g.bGT.length+1)) wr++[]):=by
  unfold kU
  simp only
  rw[e]
  exact h3
 refine DC h4 (fun H0 hH0=>hrec G _ wr { g with bGT:=g.bGT++[x],a:=a } g.bGT.length x hg (by simp) (by rw[hx]; omega) H0 hH0) rfl ?_
 rintro r B' L' H' ⟨rfl,wd2,wr2,rfl,rfl⟩ hH'
 refine hK wd2 wr2 _ _ ?_ (hH'.sub (List.sublist_append_left ..) (by rw[bJZ]; exact bKH.refl _))
 unfold eJ
 exact Lq
theorem KQ {C:Ctx} (Lb:mC C) {l:List Nat} {v:PV} (T:Tp l v) (G:GE) (mc bGG dom n k:Nat) (hk:k<4) (hdr:bGG≤60) (hn:n≤10) (hrec:ZO C l v mc bGG k) (s:GS) (hs:GOk l bGG s) (hd0:0<s.bGT.length) (wd wr:PV) (K:bX) (F:PF) (H:PH)
  (hF:(eJ G dom bGG (4-k) n 0).le F) (hH:aT H (G.boxes v mc wd wr s.a) (kU s wd wr))
  (hK:∀ e wd' wr' F' H',(e=.exit 0∨e=.ret)→aT H' (G.boxes v mc wd' wr' (iR l (4-k) bGG dom (eZ l mc bGG k) s n).a) (kU (iR l (4-k) bGG dom (eZ l mc bGG k) s n) wd' wr')→K e F' H') :
  aB.wp C (.loop uJ) K F H:=by
 obtain⟨lv,hlv⟩:∃ lv,lv=4-k:=⟨_,rfl⟩
 rw[← hlv] at hF hK
 refine wp_loop (α:=Nat × PV × PV × PH) (fun t=>eJ G dom bGG lv n t.1) (fun t=>t.2.2.2) (fun t=>t.1≤n∧aT t.2.2.2 (G.boxes v mc t.2.1 t.2.2.1 (iR l lv bGG dom (eZ l mc bGG k) s t.1).a) (kU (iR l lv bGG dom (eZ l mc bGG k) s t.1) t.2.1 t.2.2.1)) (fun t=>n-t.1) (0,wd,wr,H) ⟨bIT _,hH⟩ hF PH.le_refl ?_
 rintro⟨i,wd,wr,H0⟩ ⟨hi,hH⟩
 simp only at hi hH ⊢
 obtain⟨gs,u,gu⟩:=VP (level:=lv) (dom:=dom) (fun d t ht=>VQ (mc:=mc) k d ht) hs i
 have hfull:=fun h=>a4B (l:=l) (level:=lv) (bGG:=bGG) (dom:=dom) (rec:=eZ l mc bGG k) (s:=s) (i:=i) h n hi
 have bGP:iR l lv bGG dom (eZ l mc bGG k) s (i+1)=(if rM bGG (iR l lv bGG dom (eZ l mc bGG k) s i) then iR l lv bGG dom (eZ l mc bGG k) s i else eZ l mc bGG k ((sN l lv dom (iR l lv bGG dom (eZ l mc bGG k) s i)).bGT.length-1) (sN l lv dom (iR l lv bGG dom (eZ l mc bGG k) s i))):=rfl
 simp only[go_sem,γ,reduceCtorEq,uJ,WK,eJ]
 by_cases hlt:i<n
 ·have bGO:(i:Int)<(n:Nat):=by omega
  generalize hg:iR l lv bGG dom (eZ l mc bGG k) s i=g at *
  have gd0:0<g.bGT.length:=by rw[gu,bIQ]; omega
  have b1:=hH.at 1 rfl
  have lr:=(hH.own 1 rfl).uY
  have ld:=(hH.own 0 rfl).uY
  rw[bIM] at lr ld
  have ei:=ws i
  simp only[go_sem,δ,γ,θ,reduceCtorEq,bGO,WL,bF (Om:((lv:Nat):Int)≠5),aoS,b1,lr]
  by_cases c1:bGG≤g.bHH.length
  ·have hf:rM bGG g=true:=by unfold rM; simp[c1]
   simp only[go_sem,γ,reduceCtorEq,show (g.bHH.length:Int)≥(bGG:Nat) by omega]
   exact hK _ wd wr _ _ (.inr rfl) (by rw[hfull hf]; exact hH)
  simp only[go_sem,δ,γ,θ,reduceCtorEq,show ¬ (g.bHH.length:Int)≥(bGG:Nat) by omega,b1,ld]
  by_cases c2:35≤g.bGT.length
  ·have hf:rM bGG g=true:=by unfold rM; simp[c2]
   simp only[go_sem,show (g.bGT.length:Int)≥35 by omega]
   exact hK _ wd wr _ _ (.inr rfl) (by rw[hfull hf]; exact hH)
  have hf:rM bGG g=false:=by unfold rM; simp[c1,c2]
  rw[if_neg (by rw[hf]; decide)] at bGP
  simp only[go_sem,show ¬ (g.bGT.length:Int)≥35 by omega]
  have ls:=bbY (Om:lv≤4)
  refine bK .nil (mkS l v) PH.nil_le ?_
  have hbr:oC [[PV.int IntKind.u8 (((nD lv).toNat:Nat):Int)]]=some [nD lv]:=by
   simp[oC]
  obtain⟨gg,x0,gx0,-⟩:=aSU (level:=lv) (dom:=dom) gs hf
  have hdl:(sN l lv dom g).bGT.length-1=g.bGT.length:=by rw[gx0]; simp
  rw[hdl] at bGP
  have h1:=hH.set 0 rfl (bJ v (aJ l 16 g.a).2)
  have a1:=bM l 16 gs.a
  have n1:=eO l (show 0<16 by decide) g.a
  have e1:IntKind.i64.wrap (1+((aJ l 16 g.a).1:Int))=((1+(aJ l 16 g.a).1:Nat):Int):=by rw[wrap_i64 Om Om]; omega
  simp only[go_sem,υ,δ,γ,η,θ,ζ,reduceCtorEq,aoT,ls,hbr,b1,ld]
  refine EO Lb.torC (s:=[nD lv]) (n:=g.bGT.length) (by simp) (by have:=gs.bGT; omega) rfl PH.nil_le ?_
  simp only[go_sem,γ,reduceCtorEq]
  refine pZ Lb.toEL T (o:=G.o) (n:=16) (a:=g.a) Om gs.a rfl (hH.at 0 rfl) PH.nil_le ?_
  simp only[go_sem,γ,reduceCtorEq,e1]
  refine bpX Lb.toEL (n:=0) (by unfold dA; omega) rfl PH.nil_le ?_
  simp only[go_sem,δ,γ,θ,reduceCtorEq,bJB,bJI,or_false,forall_eq,forall_eq_or_imp]
  refine aO fun p hp=>?_
  have h2:=h1.new hp (.rows 7 [(⟨[nD lv]++cN g.bGT.length,(lv:Nat),(dom:Nat),(1+(aJ l 16 g.a).1:Nat),mA⟩:cG).cells])
  simp only[go_sem,δ,γ,reduceCtorEq,bJB,bJI,or_false,forall_eq,forall_eq_or_imp]
  refine⟨PH.nil_le,?_⟩
  simp only[go_sem,reduceCtorEq,aoU]
  refine cW Lb.toEL T (o:=G.o) (n:=3) (a:=(aJ l 16 g.a).2) (by decide) a1 rfl (h2.at 0 rfl) ?_
  have h3:=h2.set 0 rfl (bJ v (aJ l 3 (aJ l 16 g.a).2).2)
  have a2:=bM l 3 a1
  by_cases c3:(aJ l 3 (aJ l 16 g.a).2).1=0
  ·have hd:sN l lv dom g={ g with bGT:=g.bGT++[⟨[nD lv]++cN g.bGT.length,(lv:Nat),(dom:Nat),(1+(aJ l 16 g.a).1:Nat),mkT 1 ((2+(aJ l 6 (aJ l 3 (aJ l 16 g.a).2).2).1:Nat):Int)⟩],a:=(aJ l 6 (aJ l 3 (aJ l 16 g.a).2).2).2 }:=by
    unfold sN; simp only[c3,if_true]
   rw[hd] at bGP gg
   have n2:=eO l (show 0<6 by decide) (aJ l 3 (aJ l 16 g.a).2).2
   have e2:IntKind.i64.wrap (2+((aJ l 6 (aJ l 3 (aJ l 16 g.a).2).2).1:Int))=((2+(aJ l 6 (aJ l 3 (aJ l 16 g.a).2).2).1:Nat):Int):=by rw[wrap_i64 Om Om]; omega
   simp only[go_sem,γ,reduceCtorEq,bO (show (((aJ l 3 (aJ l 16 g.a).2).1:Nat):Int)=0 by omega),aoV]
   refine cW Lb.toEL T (o:=G.o) (n:=6) (a:=(aJ l 3 (aJ l 16 g.a).2).2) (by decide) a2 rfl (h3.at 0 rfl) ?_
   have h4:=h3.set 0 rfl (bJ v (aJ l 6 (aJ l 3 (aJ l 16 g.a).2).2).2)
   rw[PH.set_set] at h4
   simp only[go_sem,γ,reduceCtorEq,e2]
   refine aA (Lb.fmk 1 ((2+(aJ l 6 (aJ l 3 (aJ l 16 g.a).2).2).1:Nat):Int) (by unfold dA; omega) (by unfold dA; omega)) rfl ?_
   unfold uR
   rw[if_neg Om]
   simp only[go_sem,δ,γ,reduceCtorEq,show ¬ p=G.o from h4.ne 2 0 rfl rfl (by decide)]
   have h5:=h4.set 2 rfl (.rows 7 [(⟨[nD lv]++cN g.bGT.length,(lv:Nat),(dom:Nat),(1+(aJ l 16 g.a).1:Nat),mkT 1 ((2+(aJ l 6 (aJ l 3 (aJ l 16 g.a).2).2).1:Nat):Int)⟩:cG).cells])
   try simp only[amG]
   refine SO G mc bGG dom lv n i k p hlv hk hrec g _ _ gg rfl wd wr hdr _ _ _ (by unfold eJ; exact Lq) rfl h5 ?_
   intro wd' wr' F' H' hF' hH'
   rw[← bGP] at hH'
   have f10:F' 10=some (.int .i64 i):=hF' 10 _ (by unfold eJ; simp only[go_sem,γ,reduceCtorEq])
   have g0:F' 0=some (.ptr G.o 2 0 0):=hF' 0 _ (by unfold eJ; simp only[go_sem,reduceCtorEq])
   have g1:F' 1=some (.ptr G.fo 7 0 0):=hF' 1 _ (by unfold eJ; simp only[go_sem,γ,reduceCtorEq])
   have g2:F' 2=some (.int .i64 dom):=hF' 2 _ (by unfold eJ; simp only[go_sem,γ,reduceCtorEq])
   have g3:F' 3=some (.int .i64 bGG):=hF' 3 _ (by unfold eJ; simp only[go_sem,γ,reduceCtorEq])
   have g8:F' 8=some (.int .i64 lv):=hF' 8 _ (by unfold eJ; simp only[go_sem,γ,reduceCtorEq])
   have g9:F' 9=some (.int .i64 n):=hF' 9 _ (by unfold eJ; simp only[go_sem,γ,reduceCtorEq])
   simp only[go_sem,γ,uK,f10,ei]
   refine aC (i+1,wd',wr',H') ⟨hlt,hH'⟩ (by simp only; omega) ?_ PH.le_refl
   exact Lq
  ·have hd:sN l lv dom g={ g with bGT:=g.bGT++[⟨[nD lv]++cN g.bGT.length,(lv:Nat),(dom:Nat),(1+(aJ l 16 g.a).1:Nat),mA⟩],a:=(aJ l 3 (aJ l 16 g.a).2).2 }:=by
    unfold sN; simp only[c3,if_false]
   rw[hd] at bGP gg
   simp only[go_sem,γ,reduceCtorEq,bF (show ¬ (((aJ l 3 (aJ l 16 g.a).2).1:Nat):Int)=0 by omega)]
   try simp only[amG]
   refine SO G mc bGG dom lv n i k p hlv hk hrec g _ _ gg rfl wd wr hdr _ _ _ (by unfold eJ; exact Lq) rfl h3 ?_
   intro wd' wr' F' H' hF' hH'
   rw[← bGP] at hH'
   have f10:F' 10=some (.int .i64 i):=hF' 10 _ (by unfold eJ; simp only[go_sem,γ,reduceCtorEq])
   have g0:F' 0=some (.ptr G.o 2 0 0):=hF' 0 _ (by unfold eJ; simp only[go_sem,reduceCtorEq])
   have g1:F' 1=some (.ptr G.fo 7 0 0):=hF' 1 _ (by unfold eJ; simp only[go_sem,γ,reduceCtorEq])
   have g2:F' 2=some (.int .i64 dom):=hF' 2 _ (by unfold eJ; simp only[go_sem,γ,reduceCtorEq])
   have g3:F' 3=some (.int .i64 bGG):=hF' 3 _ (by unfold eJ; simp only[go_sem,γ,reduceCtorEq])
   have g8:F' 8=some (.int .i64 lv):=hF' 8 _ (by unfold eJ; simp only[go_sem,γ,reduceCtorEq])
   have g9:F' 9=some (.int .i64 n):=hF' 9 _ (by unfold eJ; simp only[go_sem,γ,reduceCtorEq])
   simp only[go_sem,γ,uK,f10,ei]
   refine aC (i+1,wd',wr',H') ⟨hlt,hH'⟩ (by simp only; omega) ?_ PH.le_refl
   exact Lq
 ·have bGO:¬ (i:Int)<(n:Nat):=by omega
  have:i=n:=by omega
  subst this
  simp only[go_sem,bGO]
  exact hK _ wd wr _ _ (.inl rfl) hH
theorem aFL {C:Ctx} (Lb:mC C) {l:List Nat} {v:PV} (T:Tp l v) (mc bGG k:Nat) (hmc:0<mc) (hmc2:mc≤1000) (hdr:bGG≤60) (hk:k≤4) (hrec:∀ k',k=k'+1→ZO C l v mc bGG k') (G:GE) (wd wr:PV) (s:GS) (dom:Nat) (x:cG)
  (hs:GOk l bGG s) (hx:s.bGT[dom]?=some x) (hl:x.level=4-(k:Int)) (H0:PH) (hH:aT H0 (G.boxes v mc wd wr s.a) (kU s wd wr)) :
  vX.wp C (aR acT.res (fun r H'=>∃ B' L',a2J G v mc (eZ l mc bGG k dom s) r B' L'∧aT H' B' L')) (PF.args [.ptr G.o 2 0 0,.ptr G.fo 7 0 0,.int .i64 dom,.int .i64 bGG]) H0:=by
 have hd0:dom<s.bGT.length:=(bKA.1 hx).1
 have b1:=hH.at 1 rfl
 have fin:∀ (e:lP) (wd' wr':PV) (F':PF) (H':PH),(e=.exit 0∨e=.ret)→aT H' (G.boxes v mc wd' wr' (eZ l mc bGG k dom s).a) (kU (eZ l mc bGG k dom s) wd' wr') →
   dJ 0 (aR acT.res (fun r H'=>∃ B' L',a2J G v mc (eZ l mc bGG k dom s) r B' L'∧aT H' B' L')) e F' H':=by
  intro e wd' wr' F' H' he hH'
  rcases he with rfl | rfl
  ·rw[AL,if_pos rfl]
   exact aV (vs:=[]) (.inl rfl) H' rfl PH.le_refl ⟨_,_,⟨rfl,wd',wr',rfl,rfl⟩,hH'⟩
  ·exact aV (vs:=[]) (.inr rfl) H' rfl PH.le_refl ⟨_,_,⟨rfl,wd',wr',rfl,rfl⟩,hH'⟩
 obtain⟨q,rs,e1,e2,e3,e4⟩:∃ q rs,wd=.osl q 7 0 s.bGT.length∧H0 q=some (.rows 7 rs)∧s.bGT.length≤rs.length∧rs.take s.bGT.length=jL s.bGT:=by
  rcases hH.own 0 rfl with ⟨h1,_⟩ | ⟨q,rs,h1,h2,h3,h4⟩
  ·have:=congrArg List.length h1
   rw[bIM] at this
   simp at this; rw[this] at hd0; simp at hd0
  ·rw[bIM] at h1 h3 h4
   exact⟨q,rs,h1,h2,h3,h4⟩
 have hrd:rs[dom]?=some x.cells:=by
  have:(jL s.bGT)[dom]?=some x.cells:=by simp[jL,hx]
  rw[← e4,List.getElem?_take_of_lt hd0] at this
  exact this
 subst e1
 have c1:(dom:Int)<(s.bGT.length:Nat):=by omega
 have ew:IntKind.i64.wrap (x.level+1)=((5-k:Nat):Int):=by rw[hl,wrap_i64 Om Om]; omega
 have nlt:=eO l (show 0<2 by decide) s.a
 have en:IntKind.i64.wrap (1+((aJ l 2 s.a).1:Int))=((1+(aJ l 2 s.a).1:Nat):Int):=by rw[wrap_i64 Om Om]; omega
 have h1:=hH.set 0 rfl (bJ v (aJ l 2 s.a).2)
 have hs1:GOk l bGG { s with a:=(aJ l 2 s.a).2 }:=⟨hs.bGT,hs.bHH,bM l 2 hs.a⟩
 have hqo:¬ q=G.o:=fun h=>hH.neL 0 0 rfl rfl rfl h.symm
 simp only[go_sem,δ,γ,θ,reduceCtorEq,vX,aFM,b1,c1,e2,hrd,ew,aFN]
 refine cW Lb.toEL T (o:=G.o) (n:=2) (a:=s.a) (by decide) hs.a (by simp only[go_sem,γ]; rfl) (hH.at 0 rfl) ?_
 simp only[go_sem,γ,en,aFO]
 cases k with
 | zero =>
  simp only[go_sem,bF (Om:¬ ((5-0:Nat):Int)=2),GO]
  refine aFK (C:=C) Lb T G mc bGG dom (1+(aJ l 2 s.a).1) hmc hmc2 hdr Om { s with a:=(aJ l 2 s.a).2 } hs1 _ wr _ _ _ ?_ h1 ?_
  ·unfold eJ
   exact Lq
  ·intro wd' wr' F' H' hH'
   exact fin _ wd' wr' F' H' (.inl rfl) hH'
 | succ k =>
  have hrc:=hrec k rfl
  by_cases c2:4-k=2
  ·have e5:eZ l mc bGG (k+1) dom s=iR l (4-k) bGG dom (eZ l mc bGG k) { s with a:=(aJ l 2 s.a).2 } 1:=by simp only[eZ,if_pos c2]
   simp only[go_sem,bO (show ((5-(k+1):Nat):Int)=2 by omega),aFP,GO]
   refine KQ (C:=C) Lb T G mc bGG dom 1 k Om hdr (by decide) hrc { s with a:=(aJ l 2 s.a).2 } hs1 (by simp only; omega) _ wr _ _ _ ?_ h1 ?_
   ·unfold eJ
    (repeat' (first|exact PF.nil_le|refine PF.aF ?_ ?_))<;>first|(simp only[go_sem,γ,reduceCtorEq,show 4-k=5-(k+1) by omega]<;>rfl)|rfl
   ·intro e wd' wr' F' H' he hH'
    rw[← e5] at hH'
    exact fin e wd' wr' F' H' he hH'
  ·have e5:eZ l mc bGG (k+1) dom s=iR l (4-k) bGG dom (eZ l mc bGG k) { s with a:=(aJ l 2 s.a).2 } (1+(aJ l 2 s.a).1):=by simp only[eZ,if_neg c2]
   simp only[go_sem,bF (show ¬ ((5-(k+1):Nat):Int)=2 by omega),GO]
   refine KQ (C:=C) Lb T G mc bGG dom (1+(aJ l 2 s.a).1) k Om hdr Om hrc { s with a:=(aJ l 2 s.a).2 } hs1 (by simp only; omega) _ wr _ _ _ ?_ h1 ?_
   ·unfold eJ
    (repeat' (first|exact PF.nil_le|refine PF.aF ?_ ?_))<;>first|(simp only[go_sem,γ,reduceCtorEq,show 4-k=5-(k+1) by omega]<;>rfl)|rfl
   ·intro e wd' wr' F' H' he hH'
    rw[← e5] at hH'
    exact fin e wd' wr' F' H' he hH'
theorem aCU {C:Ctx} (Lb:mC C) {l:List Nat} {v:PV} (T:Tp l v) (mc bGG:Nat) (hmc:0<mc) (hmc2:mc≤1000) (hdr:bGG≤60)
  (hE:∀ (args:List PV) (H:PH) (R:PV→PH→Prop),args.length=4→vX.wp C (aR acT.res R) (PF.args args) H→aH C 7 args H R):∀ k,k≤4→ZO C l v mc bGG k
 | 0,h=>fun G wd wr s dom x hs hx hl H0 hH=>hE _ _ _ rfl (aFL Lb T mc bGG 0 hmc hmc2 hdr h (fun _ e=>by omega) G wd wr s dom x hs hx hl H0 hH)
 | k+1,h=>fun G wd wr s dom x hs hx hl H0 hH=>hE _ _ _ rfl (aFL Lb T mc bGG (k+1) hmc hmc2 hdr h (fun k' e=>by
   have:k'=k:=by omega
   subst this
   exact aCU Lb T mc bGG hmc hmc2 hdr hE k' Om) G wd wr s dom x hs hx hl H0 hH)
theorem brP (l:List Nat) (dS:Nat) {a:Nat} (h:a≤l.length):(xX l dS a).2≤l.length:=(akI l (1+(aJ l dS a).1) (bM l dS h) (1+(aJ l dS a).1)).1
theorem WG (l:List Nat) {a:Nat} (h:a≤l.length):∀ k,(mS l a k).2≤l.length∧(mS l a k).1.length=k
 | 0=>⟨h,rfl⟩
 | k+1=>by
  obtain⟨h1,h2⟩:=WG l h k
  exact⟨brP l 2 h1,by simp only[mS,bIQ,bIX,h2]⟩
theorem GU (l:List Nat) (bGR:Nat) {a:Nat} (h:a≤l.length):∀ k,(gV l bGR a k).2≤l.length∧(gV l bGR a k).1.length=k
 | 0=>⟨h,rfl⟩
 | k+1=>by
  obtain⟨h1,h2⟩:=GU l bGR h k
  exact⟨bM l bGR (bM l 8 (bM l 4 h1)),by simp only[gV,bIQ,bIX,h2]⟩
structure FE where
 o:Nat
 o6:Nat
 o7:Nat
 bGG:Nat
 bGJ:Nat
abbrev flZ:cE:=flB (.int .i64 0) .bGI .bGI .bGI .bGI .bGI .bGI
abbrev FE.boxes (E:FE) (v ext w1 w2 w3 w4 w5 w6:PV) (a:Nat):List BX:=[(E.o,bJ v a),(E.o7,flB ext w1 w2 w3 w4 w5 w6),(E.o6,flZ)]
def fB (E:FE):PF:=(((((PF.nil.set 0 (.ptr E.o 2 0 0)).set 1 (.int .i64 E.bGG)).set 2 (.int .i64 E.bGJ)).set 6 (.ptr E.o6 7 0 0)).set 7 (.ptr E.o7 7 0 0))
abbrev gE (l:List bZ):List (List PV):=l.map bZ.cells
abbrev jH (l:List cH):List (List PV):=l.map cH.cells
theorem RE {E:FE} {F:PF} (h0:F 0=some (.ptr E.o 2 0 0)) (h1:F 1=some (.int .i64 E.bGG)) (h2:F 2=some (.int .i64 E.bGJ)) (h6:F 6=some (.ptr E.o6 7 0 0)) (h7:F 7=some (.ptr E.o7 7 0 0)):(fB E).le F :=
 PF.aF (PF.aF (PF.aF (PF.aF (PF.aF PF.nil_le h0) h1) h2) h6) h7
theorem blA {C:Ctx} (Lb:mC C) {l:List Nat} {v:PV} (T:Tp l v) (E:FE) (n a:Nat) (hn:n≤10) (ha:a≤l.length) (ext:PV) (K:bX) (F:PF) (H:PH)
  (hF:(((fB E).set 8 (.int .i64 n)).set 9 (.int .i64 0)).le F) (hH:aT H (E.boxes v ext .bGI .bGI .bGI .bGI .bGI .bGI a) [])
  (hK:∀ w1 F' H',(fB E).le F'→aT H' (E.boxes v ext w1 .bGI .bGI .bGI .bGI .bGI (mS l a n).2) [(w1,4,gE (mS l a n).1)]→K (.exit 0) F' H') :
  aB.wp C (.loop MP) K F H:=by
 refine wp_loop (α:=Nat × PV × PH) (fun t=>((fB E).set 8 (.int .i64 n)).set 9 (.int .i64 t.1)) (fun t=>t.2.2) (fun t=>t.1≤n∧aT t.2.2 (E.boxes v ext t.2.1 .bGI .bGI .bGI .bGI .bGI (mS l a t.1).2) [(t.2.1,4,gE (mS l a t.1).1)]) (fun t=>n-t.1) (0,.bGI,H) ⟨bIT _,hH.qD 4⟩ hF PH.le_refl ?_
 rintro⟨i,w1,H0⟩ ⟨hi,hH⟩
 simp only at hi hH ⊢
 obtain⟨k1,k2⟩:=WG l ha i
 have bGP:mS l a (i+1)=((mS l a i).1++[{ (xX l 2 (mS l a i).2).1 with name:=[108,97,119]++cN i }],(xX l 2 (mS l a i).2).2):=rfl
 simp only[go_sem,γ,reduceCtorEq,MP,aoN,fB]
 by_cases hlt:i<n
 ·have bGO:(i:Int)<(n:Nat):=by omega
  generalize hg:mS l a i=g at *
  simp only[go_sem,reduceCtorEq,bGO,aoO]
  refine lO (Lb.law l v T E.o 2 g.2 (by decide) (by decide) k1) (hH.at 0 rfl) rfl ?_
  have h1:=hH.set 0 rfl (bJ v (xX l 2 g.2).2)
  generalize hz:xX l 2 g.2=z at *
  simp only[go_sem,δ]
  refine aO fun p hp=>?_
  have h2:=h1.new hp (.rows 4 [z.1.cells])
  simp only[go_sem,δ,γ,reduceCtorEq,aoP,bJB,bJI,or_false,forall_eq,forall_eq_or_imp]
  refine aA (Lb.name [108,97,119] i (by decide) Om) rfl ?_
  have h3:=h2.set 3 rfl (.rows 4 [({ z.1 with name:=[108,97,119]++cN i }:bZ).cells])
  rw[PH.set_set] at h3
  have b1:=h3.at 1 rfl
  have hne:¬ E.o7=p:=h3.ne 1 3 rfl rfl (by decide)
  have hne2:¬ E.o7=E.o:=h3.ne 1 0 rfl rfl (by decide)
  simp only[bA,if_neg hne,if_neg hne2] at b1
  have h14:(1:Nat)*4≤16777216:=by decide
  simp only[go_sem,υ,δ,γ,η,θ,ζ,reduceCtorEq,aoQ,hne,hne2,b1,h14,bJB,bJI,or_false,forall_eq,forall_eq_or_imp]
  refine h3.append 0 (src:=[({ z.1 with name:=[108,97,119]++cN i }:bZ).cells]) rfl rfl (by unfold roomFor; rw[bIM]; simp only[bIX,maxLen]; omega) fun w' H2 h4 hw=>?_
  obtain⟨q,rfl⟩:=hw (by simp)
  have b2:=h4.at 1 rfl
  simp only[go_sem,δ,θ,b2,bJB,bJI,or_false,forall_eq]
  have h5:=h4.set 1 rfl (flB ext (.osl q 4 0 (gE g.1++[({ z.1 with name:=[108,97,119]++cN i }:bZ).cells]).length) .bGI .bGI .bGI .bGI .bGI)
  simp only[go_sem,γ,reduceCtorEq,aoR,ws i]
  refine aC (i+1,.osl q 4 0 (gE g.1++[({ z.1 with name:=[108,97,119]++cN i }:bZ).cells]).length,_) ⟨hlt,?_⟩ (by simp only; omega) ?_ PH.le_refl
  ·rw[bGP]
   have e:gE (g.1++[{ z.1 with name:=[108,97,119]++cN i }])=gE g.1++[({ z.1 with name:=[108,97,119]++cN i }:bZ).cells]:=by simp[gE]
   simp only
   rw[e]
   exact h5.dropLast (B:=E.boxes v ext _ .bGI .bGI .bGI .bGI .bGI z.2)
  ·exact Lq
 ·have bGO:¬ (i:Int)<(n:Nat):=by omega
  have:i=n:=by omega
  subst this
  simp only[go_sem,bGO]
  exact hK w1 _ _ (RE rfl rfl rfl rfl rfl) hH
theorem a5W {C:Ctx} (Lb:mC C) {l:List Nat} {v:PV} (T:Tp l v) (E:FE) (n a nl:Nat) (hn:n≤10) (hnl:nl≤1000) (ha:a≤l.length) (ext w1:PV) (bGR:List bZ) (hlw:bGR.length=nl) (K:bX) (F:PF) (H:PH)
  (hF:(((fB E).set 11 (.int .i64 n)).set 12 (.int .i64 0)).le F) (hH:aT H (E.boxes v ext w1 .bGI .bGI .bGI .bGI .bGI a) [(w1,4,gE bGR)])
  (hK:∀ w2 F' H',(fB E).le F'→F' 11=some (.int .i64 n)→aT H' (E.boxes v ext w1 w2 .bGI .bGI .bGI .bGI (gV l nl a n).2) [(w1,4,gE bGR),(w2,4,jH (gV l nl a n).1)]→K (.exit 2) F' H') :
  aB.wp C (.loop GC) K F H:=by
 refine wp_loop (α:=Nat × PV × PH) (fun t=>((fB E).set 11 (.int .i64 n)).set 12 (.int .i64 t.1)) (fun t=>t.2.2) (fun t=>t.1≤n∧aT t.2.2 (E.boxes v ext w1 t.2.1 .bGI .bGI .bGI .bGI (gV l nl a t.1).2) [(w1,4,gE bGR),(t.2.1,4,jH (gV l nl a t.1).1)]) (fun t=>n-t.1) (0,.bGI,H) ⟨bIT _,hH.qD 4⟩ hF PH.le_refl ?_
 rintro⟨i,w2,H0⟩ ⟨hi,hH⟩
 simp only at hi hH ⊢
 obtain⟨k1,k2⟩:=GU l nl ha i
 have bGP:gV l nl a (i+1)=((gV l nl a i).1++[⟨[109]++cN i,(1+(aJ l 4 (gV l nl a i).2).1:Nat),(1+(aJ l 8 (aJ l 4 (gV l nl a i).2).2).1:Nat),((aJ l nl (aJ l 8 (aJ l 4 (gV l nl a i).2).2).2).1:Nat)⟩],(aJ l nl (aJ l 8 (aJ l 4 (gV l nl a i).2).2).2).2):=rfl
 simp only[go_sem,γ,reduceCtorEq,GC,abZ,fB]
 by_cases hlt:i<n
 ·have bGO:(i:Int)<(n:Nat):=by omega
  generalize hg:gV l nl a i=g at *
  have hx:=eO l (show 0<4 by decide) g.2
  have ax:=bM l 4 k1
  have hy:=eO l (show 0<8 by decide) (aJ l 4 g.2).2
  have ay:=bM l 8 ax
  have az:=bM l nl ay
  have h1:=hH.set 0 rfl (bJ v (aJ l 4 g.2).2)
  have h2:=h1.set 0 rfl (bJ v (aJ l 8 (aJ l 4 g.2).2).2)
  have h3:=h2.set 0 rfl (bJ v (aJ l nl (aJ l 8 (aJ l 4 g.2).2).2).2)
  generalize hx0:aJ l 4 g.2=x at *
  generalize hy0:aJ l 8 x.2=y at *
  generalize hz0:aJ l nl y.2=z at *
  have b1:=hH.at 1 rfl
  have lw:=(hH.own 0 rfl).uY
  rw[bIM,hlw] at lw
  have hHs:(PH.nil.set E.o7 (flB ext w1 w2 .bGI .bGI .bGI .bGI)).le H0:=PH.aF PH.nil_le b1
  have ex:IntKind.i64.wrap (1+(x.1:Int))=((1+x.1:Nat):Int):=by rw[wrap_i64 Om Om]; omega
  have ey:IntKind.i64.wrap (1+(y.1:Int))=((1+y.1:Nat):Int):=by rw[wrap_i64 Om Om]; omega
  simp only[go_sem,bGO]
  refine bK (PH.nil.set E.o7 (flB ext w1 w2 .bGI .bGI .bGI .bGI)) (mkS l v) hHs ?_
  simp only[go_sem,δ,γ,θ,reduceCtorEq,acA]
  refine EO Lb.torC (s:=[109]) (n:=i) (by decide) Om rfl hHs ?_
  simp only[go_sem,reduceCtorEq]
  refine pZ Lb.toEL T (o:=E.o) (n:=4) (a:=g.2) (by decide) k1 rfl (hH.at 0 rfl) ?_ ?_
  ·rw[hx0]; exact PH.aF PH.nil_le (h1.at 1 rfl)
  rw[hx0]
  simp only[go_sem,γ,reduceCtorEq,ex]
  refine pZ Lb.toEL T (o:=E.o) (n:=8) (a:=x.2) (by decide) ax rfl (h1.at 0 rfl) ?_ ?_
  ·rw[hy0]; exact PH.aF PH.nil_le (h2.at 1 rfl)
  rw[hy0]
  simp only[go_sem,δ,γ,θ,reduceCtorEq,ey,lw]
  rw[PH.set_set] at h2
  refine pZ Lb.toEL T (o:=E.o) (n:=nl) (a:=y.2) Om ay rfl (h2.at 0 rfl) ?_ ?_
  ·rw[hz0]; exact PH.aF PH.nil_le ((h2.set 0 rfl (bJ v z.2)).at 1 rfl)
  rw[hz0]
  have h4:=h2.set 0 rfl (bJ v z.2)
  have h14:(1:Nat)*4≤16777216:=by decide
  simp only[go_sem,υ,δ,γ,η,θ,ζ,reduceCtorEq,h14,bJB,bJI,or_false,forall_eq,forall_eq_or_imp]
  rw[PH.set_set] at h4
  refine h4.append 1 (src:=[(⟨[109]++cN i,(1+x.1:Nat),(1+y.1:Nat),(z.1:Nat)⟩:cH).cells]) rfl rfl (by unfold roomFor; rw[bIM]; simp only[bIX,maxLen]; omega) fun w' H2 h5 hw=>?_
  obtain⟨q,rfl⟩:=hw (by simp)
  have b2:=h5.at 1 rfl
  refine⟨PH.aF PH.nil_le b2,?_⟩
  refine bK .nil dC PH.nil_le ?_
  simp only[go_sem,δ,γ,θ,reduceCtorEq,acB,b2,bJB,bJI,or_false,forall_eq]
  have h6:=h5.set 1 rfl (flB ext w1 (.osl q 4 0 (jH g.1++[(⟨[109]++cN i,(1+x.1:Nat),(1+y.1:Nat),(z.1:Nat)⟩:cH).cells]).length) .bGI .bGI .bGI .bGI)
  refine⟨PH.nil_le,?_⟩
  simp only[go_sem,γ,reduceCtorEq,acC,ws i]
  refine aC (i+1,.osl q 4 0 (jH g.1++[(⟨[109]++cN i,(1+x.1:Nat),(1+y.1:Nat),(z.1:Nat)⟩:cH).cells]).length,_) ⟨hlt,?_⟩ (by simp only; omega) ?_ PH.le_refl
  ·rw[bGP]
   have e:jH (g.1++[⟨[109]++cN i,(1+x.1:Nat),(1+y.1:Nat),(z.1:Nat)⟩])=jH g.1++[(⟨[109]++cN i,(1+x.1:Nat),(1+y.1:Nat),(z.1:Nat)⟩:cH).cells]:=by simp[jH]
   simp only
   rw[e]
   exact h6
  ·exact Lq
 ·have bGO:¬ (i:Int)<(n:Nat):=by omega
  have:i=n:=by omega
  subst this
  simp only[go_sem,bGO]
  exact hK w2 _ _ (RE rfl rfl rfl rfl rfl) rfl hH
abbrev vD (x:cF) (w:PV):List PV:=[.str x.name,.int .i64 x.k,.int .i64 x.m,.int .i64 x.bHM,.int .i64 x.s0,.int .i64 x.s1,.int .i64 x.s2,.int .i64 x.s3,.int .i64 x.s4,w,frs x.repair,
 .bool x.target.neg,aI x.target.num,aI x.target.den,.bool x.bGU.neg,aI x.bGU.num,aI x.bGU.den]
def akM (E:FE) (mc n i:Nat):PF:=(((fB E).set 11 (.int .i64 mc)).set 13 (.int .i64 n)).set 14 (.int .i64 i)
structure PAt (E:FE) (mc n i:Nat) (F:PF):Prop where
 f0:F 0=some (.ptr E.o 2 0 0)
 f1:F 1=some (.int .i64 E.bGG)
 f2:F 2=some (.int .i64 E.bGJ)
 f6:F 6=some (.ptr E.o6 7 0 0)
 f7:F 7=some (.ptr E.o7 7 0 0)
 f11:F 11=some (.int .i64 mc)
 f13:F 13=some (.int .i64 n)
 f14:F 14=some (.int .i64 i)
def pJ (l:List Nat) (a:Nat):Nat→List Int × Nat
 | 0=>([],a)
 | j+1=>let s:=pJ l a j
  let t:=kF l s.2
  (s.1++[t.1],t.2)
theorem sC (l:List Nat) {a:Nat} (h:a≤l.length):(kF l a).2≤l.length:=by
 unfold kF
 simp only
 split
 ·exact bM l 3 (bM l 3 h)
 ·exact bM l 3 h
theorem alU (l:List Nat) {a:Nat} (h:a≤l.length):∀ j,(pJ l a j).2≤l.length∧(pJ l a j).1.length=j
 | 0=>⟨h,rfl⟩
 | j+1=>by
  obtain⟨h1,h2⟩:=alU l h j
  exact⟨sC l h1,by simp only[pJ,bIQ,bIX,h2]⟩
abbrev pI (pre post:List PV) (s:List Int):List PV:=pre++(s.map fun x=>PV.int .i64 x)++bIP (4-s.length) (.int .i64 0)++post
theorem btM {pre post:List PV} {s:List Int} (hp:pre.length=5) (hs:s.length<4) (x:Int):(pI pre post s).set (5+s.length) (.int .i64 x)=pI pre post (s++[x]):=by
 obtain⟨k,hk⟩:∃ k,4-s.length=k+1:=⟨3-s.length,by omega⟩
 unfold pI
 rw[bIQ,bIX,show 4-(s.length+1)=k by omega,hk,List.replicate_succ,bKV,bKD,bKW]
 rw[List.set_append_left _ _ (by simp[hp]),bLM _ _ (by simp[hp])]
 have:5+s.length-(pre++s.map fun x=>PV.int .i64 x).length=0:=by simp[hp]
 rw[this,List.set_cons_zero]
 simp
theorem bnA {pre post:List PV} {s:List Int} (hp:pre.length=5) (hs:s.length<4):pI pre post s=pI pre post (s++[0]):=by
 obtain⟨k,hk⟩:∃ k,4-s.length=k+1:=⟨3-s.length,by omega⟩
 unfold pI
 rw[bIQ,bIX,show 4-(s.length+1)=k by omega,hk,List.replicate_succ,bKV,bKD,bKW]
 simp
theorem a5X {C:Ctx} (Lb:mC C) {l:List Nat} {v:PV} (T:Tp l v) (E:FE) (mc n i a p:Nat) (ha:a≤l.length) (B:List BX) (L:List LI) (pre post:List PV) (hpre:pre.length=5) (hpost:post.length=8) (K:bX) (F:PF) (H:PH)
  (hF:PAt E mc n i F) (f15:F 15=some (.ptr p 17 0 0)) (f16:F 16=some (.int .i64 1)) (hH:aT H ((E.o,bJ v a)::B++[(p,.rows 17 [pI pre post []])]) L)
  (hK:∀ F' H',PAt E mc n i F'→F' 15=some (.ptr p 17 0 0)→aT H' ((E.o,bJ v (pJ l a 4).2)::B++[(p,.rows 17 [pI pre post (pJ l a 4).1])]) L→K (.exit 6) F' H') :
  aB.wp C (.loop vO) K F H:=by
 refine wp_loop (α:=Nat × PH) (fun t=>((akM E mc n i).set 15 (.ptr p 17 0 0)).set 16 (.int .i64 (t.1+1:Nat))) (fun t=>t.2) (fun t=>t.1≤4∧aT t.2 ((E.o,bJ v (pJ l a t.1).2)::B++[(p,.rows 17 [pI pre post (pJ l a t.1).1])]) L) (fun t=>4-t.1) (0,H) ⟨bIT _,hH⟩ ?_ PH.le_refl ?_
 ·unfold akM fB
  (repeat' (first|exact PF.nil_le|refine PF.aF ?_ ?_))<;>first|(simp only[go_sem,hF.f0,hF.f1,hF.f2,hF.f6,hF.f7,hF.f11,hF.f13,hF.f14,f15,f16]<;>rfl)|rfl
 rintro⟨j,H0⟩ ⟨hj,hH⟩
 simp only at hj hH ⊢
 obtain⟨k1,k2⟩:=alU l ha j
 have bGP:pJ l a (j+1)=((pJ l a j).1++[(kF l (pJ l a j).2).1],(kF l (pJ l a j).2).2):=rfl
 simp only[go_sem,γ,reduceCtorEq,vO,acI,akM,fB]
 by_cases hlt:j<4
 ·generalize hg:pJ l a j=g at *
  have ei:=cS (Om:j+1<9223372036854775807)
  simp only[go_sem,reduceCtorEq,show ((j+1:Nat):Int)<5 by omega,acJ]
  refine cW Lb.toEL T (o:=E.o) (n:=3) (a:=g.2) (by decide) k1 (by simp only[go_sem,γ,reduceCtorEq]; rfl) (hH.at 0 rfl) ?_
  have h1:aT _ ((E.o,bJ v (aJ l 3 g.2).2)::B++[(p,.rows 17 [pI pre post g.1])]) L:=hH.set 0 rfl (bJ v (aJ l 3 g.2).2)
  by_cases c:(aJ l 3 g.2).1=0
  ·have hs:kF l g.2=(((1+(aJ l 3 (aJ l 3 g.2).2).1:Nat):Int),(aJ l 3 (aJ l 3 g.2).2).2):=by unfold kF; simp only[c,if_true]
   have n2:=eO l (show 0<3 by decide) (aJ l 3 g.2).2
   have e2:IntKind.i64.wrap (1+((aJ l 3 (aJ l 3 g.2).2).1:Int))=((1+(aJ l 3 (aJ l 3 g.2).2).1:Nat):Int):=by rw[wrap_i64 Om Om]; omega
   simp only[go_sem,γ,reduceCtorEq,bO (show (((aJ l 3 g.2).1:Nat):Int)=0 by omega),acK]
   refine cW Lb.toEL T (o:=E.o) (n:=3) (a:=(aJ l 3 g.2).2) (by decide) (bM l 3 k1) (by simp only[go_sem,γ,reduceCtorEq]; rfl) (h1.at 0 rfl) ?_
   have h2:aT _ ((E.o,bJ v (aJ l 3 (aJ l 3 g.2).2).2)::B++[(p,.rows 17 [pI pre post g.1])]) L:=h1.set 0 rfl (bJ v (aJ l 3 (aJ l 3 g.2).2).2)
   have bp:=h2.LC
   rw[PH.set_set] at bp h2
   have hpo:¬ p=E.o:=fun h=>by
    have hnd:=h2.ndB
    simp[eC,h] at hnd
   simp only[bA,if_neg hpo] at bp
   have hj5:((j+1:Nat):Int)<((5:Nat):Int):=by omega
   have h0j:(0:Int)≤((j+1:Nat):Int):=by omega
   have hlen:(pI pre post g.1).length=17:=by simp[pI,hpre,hpost,k2]; omega
   have bIF:=btM (pre:=pre) (post:=post) (s:=g.1) hpre Om ((1+(aJ l 3 (aJ l 3 g.2).2).1:Nat):Int)
   rw[k2] at bIF
   have hidx:4+(j+1)*1=5+j:=by omega
   have hle17:5+j+1≤17:=by omega
   simp only[go_sem,γ,reduceCtorEq,e2,hj5,h0j,hidx,hpo,bp,hle17,bJB,bJI,or_false,forall_eq,bIF,GI,ei]
   refine aC (j+1,_) ⟨hlt,?_⟩ (by simp only; omega) ?_ PH.le_refl
   ·rw[bGP,hs]
    exact h2.alS _
   ·exact Lq
  ·have hs:kF l g.2=(0,(aJ l 3 g.2).2):=by unfold kF; simp only[c,if_false]
   simp only[go_sem,γ,reduceCtorEq,bF (show ¬ (((aJ l 3 g.2).1:Nat):Int)=0 by omega),GI,ei]
   refine aC (j+1,_) ⟨hlt,?_⟩ (by simp only; omega) ?_ PH.le_refl
   ·rw[bnA (pre:=pre) (post:=post) (s:=g.1) hpre Om] at h1
    rw[bGP,hs]
    exact h1
   ·exact Lq
 ·have:j=4:=by omega
  subst this
  simp only[go_sem,δ,ε,show ¬ ((4+1:Nat):Int)<5 by decide]
  exact hK _ _ ⟨by simp only[go_sem,reduceCtorEq],by simp only[go_sem,γ,reduceCtorEq],by simp only[go_sem,γ,reduceCtorEq],by simp only[go_sem,γ,reduceCtorEq],by simp only[go_sem,γ,reduceCtorEq],by simp only[go_sem,γ,reduceCtorEq],by simp only[go_sem,γ,reduceCtorEq],by simp only[go_sem,γ,reduceCtorEq]⟩ Sq hH
theorem aT.oA {E:FE} {v ext w1 w2 w3 w4 w5 w6:PV} {a:Nat} {H:PH} {B:List BX} {L:List LI} (h:aT H (E.boxes v ext w1 w2 w3 w4 w5 w6 a++B) L) (b:Nat):aT (H.set E.o (bJ v b)) (E.boxes v ext w1 w2 w3 w4 w5 w6 b++B) L:=h.set 0 rfl _
abbrev XU (s:List UInt8) (k m q:Int) (w r t1 t2 t3:PV) (h:RF):List PV:=[.str s,.int .i64 k,.int .i64 m,.int .i64 q,.int .i64 0,.int .i64 0,.int .i64 0,.int .i64 0,.int .i64 0,w,r,t1,t2,t3,.bool h.neg,aI h.num,aI h.den]
theorem blB {C : Ctx} (Lb : mC C) {l : List Nat} {v : PV} (T : Tp l v) (E : FE) (mc n i a : Nat) (ha : a ≤ l.length) (hi : i < 50) (ext w1 w2 w3 w4 w5 w6 : PV) (L : List LI) (rest : aB) (K : bX) (F : PF) (H : PH)
    (hF : PAt E mc n i F) (hH : aT H (E.boxes v ext w1 w2 w3 w4 w5 w6 a) L)
    (hK : ∀ p F' H', PAt E mc n i F' → F' 15 = some (.ptr p 17 0 0) →
      (let k := aJ l 2 a; let m := aJ l 3 k.2; let h := aJ l 4 m.2; let q := aJ l (m.1 + 1) h.2; let r := mH l q.2 (max m.1 1); let g := aJ l 9 r.2
       aT H' (E.boxes v ext w1 w2 w3 w4 w5 w6 g.2 ++ [(p, .rows 17 [pI [.str ([112] ++ cN i), .int .i64 (1 + k.1 : Nat), .int .i64 (m.1 : Nat), .int .i64 (1 + k.1 + q.1 : Nat), .int .i64 0]
        ([.bGI, frs r.1] ++ (mkT (g.1 : Nat) 8).cells ++ (mkT ((1 + h.1 : Nat) : Int) 1).cells) []])]) L) → aB.wp C rest K F' H') :
    aB.wp C (.seq (.region GG) (.seq (.seq (.draw vP) (.draw vQ)) (.seq (.region vS) (.seq (.region vT) rest)))) K F H := by
  obtain ⟨f0, f1, f2, f6, f7, f11, f13, f14⟩ := hF
  have nk := eO l (show 0 < 2 by decide) a
  have ak := bM l 2 ha
  have nm := eO l (show 0 < 3 by decide) (aJ l 2 a).2
  have am := bM l 3 ak
  simp only at hK
  generalize hk : aJ l 2 a = k at *
  generalize hm : aJ l 3 k.2 = m at *
  have nh := eO l (show 0 < 4 by decide) m.2
  have ah := bM l 4 am
  generalize hh : aJ l 4 m.2 = h at *
  have nq := eO l (Om : 0 < m.1 + 1) h.2
  have aq := bM l (m.1 + 1) ah
  generalize hq : aJ l (m.1 + 1) h.2 = q at *
  have ar := DY l aq (max m.1 1)
  generalize hr : mH l q.2 (max m.1 1) = r at *
  have ng := eO l (show 0 < 9 by decide) r.2
  have ag := bM l 9 ar
  generalize hg : aJ l 9 r.2 = g at *
  have ek : IntKind.i64.wrap (1 + (k.1 : Int)) = ((1 + k.1 : Nat) : Int) := by rw [wrap_i64 Om Om]; omega
  have eh : IntKind.i64.wrap (1 + (h.1 : Int)) = ((1 + h.1 : Nat) : Int) := by rw [wrap_i64 Om Om]; omega
  have em : IntKind.i64.wrap ((m.1 : Int) + 1) = ((m.1 + 1 : Nat) : Int) := cS Om
  have eq' : IntKind.i64.wrap (((1 + k.1 : Nat) : Int) + (q.1 : Int)) = ((1 + k.1 + q.1 : Nat) : Int) := by rw [wrap_i64 Om Om]; omega
  have h0 : aT H (E.boxes v ext w1 w2 w3 w4 w5 w6 a ++ []) L := by rw [bJZ]; exact hH
  simp only[go_sem,GG,f14]
  refine aA (Lb.name [112] i (by decide) Om) rfl ?_
  simp only[go_sem,reduceCtorEq,f0]
  refine cW Lb.toEL T (o := E.o) (n := 2) (a := a) (by decide) ha rfl (h0.at 0 rfl) ?_
  have g1 := h0.oA k.2
  rw [hk]
  simp only[go_sem,γ,reduceCtorEq,ek,f0]
  refine cW Lb.toEL T (o := E.o) (n := 3) (a := k.2) (by decide) ak rfl (g1.at 0 rfl) ?_
  have g2 := g1.oA m.2
  rw [hm]
  rw [PH.set_set] at g2
  simp only[go_sem,reduceCtorEq,f0]
  refine cW Lb.toEL T (o := E.o) (n := 4) (a := m.2) (by decide) am rfl (g2.at 0 rfl) ?_
  have g3 := g2.oA h.2
  rw [hh]
  rw [PH.set_set] at g3
  simp only[go_sem,γ,eh]
  refine aA (Lb.int ((1 + h.1 : Nat) : Int) (by unfold dA; omega)) rfl ?_
  simp only[go_sem,δ,γ,θ,bJB,bJI,or_false,forall_eq,forall_eq_or_imp]
  refine aO fun p hp => ?_
  have g4 := g3.new hp (.rows 17 [XU ([112] ++ cN i) (1 + k.1 : Nat) (m.1 : Nat) 0 .bGI .bGI (.bool false) .bGI .bGI (mkT ((1 + h.1 : Nat) : Int) 1)])
  have hpo : ¬ p = E.o := g4.ne 3 0 rfl rfl (by decide)
  have hop : ¬ E.o = p := fun e => hpo e.symm
  have q2 : ∀ (F2 : PF) (H2 : PH), PAt E mc n i F2 → F2 15 = some (.ptr p 17 0 0) → aT H2 (E.boxes v ext w1 w2 w3 w4 w5 w6 h.2 ++ [(p, .rows 17 [XU ([112] ++ cN i) (1 + k.1 : Nat) (m.1 : Nat) 0 .bGI .bGI (.bool false) .bGI .bGI (mkT ((1 + h.1 : Nat) : Int) 1)])]) L →
      aB.wp C (.seq (.seq (.draw vP) (.draw vQ)) (.seq (.region vS) (.seq (.region vT) rest))) K F2 H2 := by
    intro F2 H2 hF2 f15 hH2
    obtain ⟨f0, f1, f2, f6, f7, f11, f13, f14⟩ := hF2
    have bp := hH2.at 3 rfl
    have hHs : (PH.nil.set p (.rows 17 [XU ([112] ++ cN i) (1 + k.1 : Nat) (m.1 : Nat) 0 .bGI .bGI (.bool false) .bGI .bGI (mkT ((1 + h.1 : Nat) : Int) 1)])).le H2 := PH.aF PH.nil_le bp
    simp only[go_sem]
    refine bK _ (mkS l v) hHs ?_
    simp only[go_sem,δ,γ,θ,reduceCtorEq,vP,f15,bp,em,f0]
    refine pZ Lb.toEL T (o := E.o) (n := m.1 + 1) (a := h.2) Om ah rfl (hH2.at 0 rfl) ?_ ?_
    · rw [hq]; exact PH.aF PH.nil_le ((hH2.oA q.2).at 3 rfl)
    rw [hq]
    have g5 := hH2.oA q.2
    simp only[go_sem,γ,eq',f15]
    refine bK .nil dC PH.nil_le ?_
    simp only[go_sem,δ,γ,θ,vQ,hpo,bp]
    refine ⟨PH.nil_le, ?_⟩
    have g6 : aT _ (E.boxes v ext w1 w2 w3 w4 w5 w6 q.2 ++ [(p, .rows 17 [XU ([112] ++ cN i) (1 + k.1 : Nat) (m.1 : Nat) (1 + k.1 + q.1 : Nat) .bGI .bGI (.bool false) .bGI .bGI (mkT ((1 + h.1 : Nat) : Int) 1)])]) L := g5.set 3 rfl (.rows 17 [XU ([112] ++ cN i) (1 + k.1 : Nat) (m.1 : Nat) (1 + k.1 + q.1 : Nat) .bGI .bGI (.bool false) .bGI .bGI (mkT ((1 + h.1 : Nat) : Int) 1)])
    have bq := g6.at 3 rfl
    simp only[go_sem,δ,γ,θ,reduceCtorEq,vS,f0,f15]
    refine lO (Lb.rep l v T E.o q.2 m.1 Om aq) (g6.at 0 rfl) rfl ?_
    have g7 := g6.oA r.2
    rw [hr]
    simp only[go_sem,δ,γ,θ,hpo,f15]
    have g8 : aT _ (E.boxes v ext w1 w2 w3 w4 w5 w6 r.2 ++ [(p, .rows 17 [XU ([112] ++ cN i) (1 + k.1 : Nat) (m.1 : Nat) (1 + k.1 + q.1 : Nat) .bGI (frs r.1) (.bool false) .bGI .bGI (mkT ((1 + h.1 : Nat) : Int) 1)])]) L := g7.set 3 rfl (.rows 17 [XU ([112] ++ cN i) (1 + k.1 : Nat) (m.1 : Nat) (1 + k.1 + q.1 : Nat) .bGI (frs r.1) (.bool false) .bGI .bGI (mkT ((1 + h.1 : Nat) : Int) 1)])
    simp only[go_sem,reduceCtorEq,vT,f0]
    refine cW Lb.toEL T (o := E.o) (n := 9) (a := r.2) (by decide) ar rfl (g8.at 0 rfl) ?_
    have g9 := g8.oA g.2
    rw [hg]
    simp only[go_sem]
    refine aA (Lb.fmk (g.1 : Int) 8 (by unfold dA; omega) (by unfold dA; omega)) rfl ?_
    unfold uR
    rw [if_neg (by decide)]
    simp only[go_sem,δ,γ,θ,f15,hpo]
    have g10 := g9.set 3 rfl (.rows 17 [pI [.str ([112] ++ cN i), .int .i64 (1 + k.1 : Nat), .int .i64 (m.1 : Nat), .int .i64 (1 + k.1 + q.1 : Nat), .int .i64 0]
        ([.bGI, frs r.1] ++ (mkT (g.1 : Nat) 8).cells ++ (mkT ((1 + h.1 : Nat) : Int) 1).cells) []])
    refine hK p _ _ ⟨by simp only[go_sem,reduceCtorEq,f0], by simp only[go_sem,γ,f1], by simp only[go_sem,γ,f2], by simp only[go_sem,γ,f6], by simp only[go_sem,γ,f7], by simp only[go_sem,γ,f11], by simp only[go_sem,γ,f13], by simp only[go_sem,γ,f14]⟩ (by simp only[go_sem,γ,f15]) g10
  simp only [aB.wp, go_sem] at q2
  simp only[go_sem,δ,γ,bJB,bJI,or_false,forall_eq,forall_eq_or_imp]
  exact q2 _ _ ⟨by simp only[go_sem,reduceCtorEq,f0], by simp only[go_sem,γ,f1], by simp only[go_sem,γ,f2], by simp only[go_sem,γ,f6], by simp only[go_sem,γ,f7], by simp only[go_sem,γ,f11], by simp only[go_sem,γ,f13], by simp only[go_sem,γ,f14]⟩ rfl g4
abbrev FE.lists (w1 w2 w3 w4 w5:PV) (lw:List bZ) (md:List cH) (dm:List cG) (dv:List dD) (pr:List (List PV)):List LI:=[(w1,4,gE lw),(w2,4,jH md),(w3,7,jL dm),(w4,3,lF dv),(w5,17,pr)]
theorem blC {C:Ctx} (Lb:mC C) {l:List Nat} {v:PV} (T:Tp l v) (E:FE) (mc n i a:Nat) (ha:a≤l.length) (hmc:0<mc) (hmc2:mc≤50) (ext w1 w2 w3 w4 w5:PV) (lw:List bZ) (md:List cH) (dm:List cG) (dv:List dD) (pr:List (List PV)) (hpr:pr.length≤50)
  (s:List UInt8) (k m q:Int) (r t h:RF) (rl:List RF) (p:Nat) (K:bX) (F:PF) (H:PH)
  (hF:PAt E mc n i F) (f15:F 15=some (.ptr p 17 0 0))
  (hH:aT H (E.boxes v ext w1 w2 w3 w4 w5 .bGI a++[(p,.rows 17 [pI [.str s,.int .i64 k,.int .i64 m,.int .i64 q,.int .i64 0] ([.bGI,frs rl]++t.cells++h.cells) []])]) (FE.lists w1 w2 w3 w4 w5 lw md dm dv pr))
  (hK:(let sp:=pJ l a 4; let f:=aJ l mc sp.2; let b:=aJ l 2 f.2
   let ms:List Int × Nat:=if 1<mc then (if b.1=0 then ([(f.1:Int),1-(f.1:Int)],b.2) else ([(f.1:Int)],b.2)) else ([(f.1:Int)],f.2)
   ∀ (w w5':PV) (F':PF) (H':PH) (B':List BX),PAt E mc n i F'→(∃ o,w=.osl o 1 0 ms.1.length)→aT H' (E.boxes v ext w1 w2 w3 w4 w5' .bGI ms.2++B')
    (FE.lists w1 w2 w3 w4 w5' lw md dm dv (pr++[vD ⟨s,k,m,q,0,(sp.1.getD 0 0),(sp.1.getD 1 0),(sp.1.getD 2 0),(sp.1.getD 3 0),ms.1,rl,t,h⟩ w])++[(w,1,cV ms.1)])→K .normal F' H')) :
  aB.wp C (.seq (.seq (.region GH) (.block 6 (.loop vO))) (.seq (.region GJ) (.seq (.region GK) (.seq (.seq (.region GL) (.cond (.tmp 143) (.region GM) .skip)) (.region vW))))) K F H:=by
 obtain⟨f0,f1,f2,f6,f7,f11,f13,f14⟩:=hF
 simp only[go_sem,GH]
 refine a5X (C:=C) Lb T E mc n i a p ha [(E.o7,flB ext w1 w2 w3 w4 w5 .bGI),(E.o6,flZ)] _ _ _ rfl rfl _ _ H ⟨by simp only[go_sem,reduceCtorEq,f0],by simp only[go_sem,γ,f1],by simp only[go_sem,γ,f2],by simp only[go_sem,γ,f6],by simp only[go_sem,γ,f7],by simp only[go_sem,γ,f11],by simp only[go_sem,γ,f13],by simp only[go_sem,γ,f14]⟩ (by simp only[go_sem,γ,f15]) rfl hH ?_
 clear f0 f1 f2 f6 f7 f11 f13 f14 f15 hH
 intro F1 H1 hF1 f15 hH1
 obtain⟨f0,f1,f2,f6,f7,f11,f13,f14⟩:=hF1
 obtain⟨as',ls⟩:=alU l ha 4
 have hsp:∃ x1 x2 x3 x4,(pJ l a 4).1=[x1,x2,x3,x4]:=⟨_,_,_,_,rfl⟩
 simp only at hK
 generalize hspg:pJ l a 4=sp at *
 obtain⟨x1,x2,x3,x4,hx⟩:=hsp
 rw[hx] at hK hH1
 replace hH1:aT H1 (E.boxes v ext w1 w2 w3 w4 w5 .bGI sp.2++[(p,.rows 17 [vD ⟨s,k,m,q,0,x1,x2,x3,x4,[],rl,t,h⟩ .bGI])]) (FE.lists w1 w2 w3 w4 w5 lw md dm dv pr):=hH1
 have nf:=eO l hmc sp.2
 have af:=bM l mc as'
 generalize hf:aJ l mc sp.2=f at *
 have ab:=bM l 2 af
 generalize hb:aJ l 2 f.2=b at *
 have hpo:¬ p=E.o:=hH1.ne 3 0 rfl rfl (by decide)
 have hp7:¬ p=E.o7:=hH1.ne 3 1 rfl rfl (by decide)
 have h7p:¬ E.o7=p:=fun e=>hp7 e.symm
 have h7o:¬ E.o7=E.o:=hH1.ne 1 0 rfl rfl (by decide)
 simp only[go_sem,γ,GJ,f0,f11]
 refine cW Lb.toEL T (o:=E.o) (n:=mc) (a:=sp.2) Om as' rfl (hH1.at 0 rfl) ?_
 have h2:=hH1.set 0 rfl (bJ v f.2)
 rw[hf]
 simp only[go_sem,υ,γ,η,θ,ζ,GK]
 refine aO fun o ho=>?_
 have h3:=h2.bvY (s:=1) (rows:=cV [(f.1:Int)]) ho
 have b3:=h3.at 3 rfl
 have ob:¬ p=o:=h3.neL 3 5 rfl rfl rfl
 have o7b:¬ E.o7=o:=h3.neL 1 5 rfl rfl rfl
 have oob:¬ E.o=o:=h3.neL 0 5 rfl rfl rfl
 simp only[bA,if_neg ob,if_neg hpo] at b3
 simp only[go_sem,δ,γ,θ,f15,ob,hpo,b3,bJB,bJI,or_false,forall_eq]
 have h4:=h3.set 3 rfl (.rows 17 [vD ⟨s,k,m,q,0,x1,x2,x3,x4,[],rl,t,h⟩ (.osl o 1 0 1)])
 have fin:∀ (w:PV) (ms:List Int) (a':Nat) (F':PF) (H':PH),PAt E mc n i F'→F' 15=some (.ptr p 17 0 0)→(∃ o,w=.osl o 1 0 ms.length) →
   aT H' (E.boxes v ext w1 w2 w3 w4 w5 .bGI a'++[(p,.rows 17 [vD ⟨s,k,m,q,0,x1,x2,x3,x4,ms,rl,t,h⟩ w])]) (FE.lists w1 w2 w3 w4 w5 lw md dm dv pr++[(w,1,cV ms)]) →
   (∀ (w5':PV) (F2:PF) (H2:PH),PAt E mc n i F2→aT H2 (E.boxes v ext w1 w2 w3 w4 w5' .bGI a'++[(p,.rows 17 [vD ⟨s,k,m,q,0,x1,x2,x3,x4,ms,rl,t,h⟩ w])]) (FE.lists w1 w2 w3 w4 w5' lw md dm dv (pr++[vD ⟨s,k,m,q,0,x1,x2,x3,x4,ms,rl,t,h⟩ w])++[(w,1,cV ms)])→K .normal F2 H2) →
   wpOps C vW (K .normal) F' H':=by
  intro w ms a' F' H' hF' f15 hw hH' hK'
  obtain⟨wo,rfl⟩:=hw
  obtain⟨f0,f1,f2,f6,f7,f11,f13,f14⟩:=hF'
  have c1:=hH'.at 1 rfl
  have c3:=hH'.at 3 rfl
  have h17:(1:Nat)*17≤16777216:=by decide
  simp only[go_sem,υ,δ,γ,η,θ,ζ,vW,f7,f15,c1,c3,h17,bJB,bJI,or_false,forall_eq,forall_eq_or_imp]
  refine hH'.append 4 (src:=[vD ⟨s,k,m,q,0,x1,x2,x3,x4,ms,rl,t,h⟩ (.osl wo 1 0 ms.length)]) rfl rfl (by unfold roomFor; simp only[bIX,maxLen]; omega) fun w5' H2 h5 hw5=>?_
  obtain⟨q5,rfl⟩:=hw5 (by simp)
  have c2:=h5.at 1 rfl
  simp only[go_sem,δ,θ,c2,bJB,bJI,or_false,forall_eq]
  exact hK' _ _ _ ⟨by simp only[go_sem,reduceCtorEq,f0],by simp only[go_sem,γ,f1],by simp only[go_sem,γ,f2],by simp only[go_sem,γ,f6],by simp only[go_sem,γ,f7],by simp only[go_sem,γ,f11],by simp only[go_sem,γ,f13],by simp only[go_sem,γ,f14]⟩ (h5.set 1 rfl (flB ext w1 w2 w3 w4 _ .bGI))
 simp only[go_sem,γ,GL,f11]
 by_cases c:1<mc
 ·have c':(mc:Int)>1:=by omega
  simp only[go_sem,γ,reduceCtorEq,c',f0]
  refine cW Lb.toEL T (o:=E.o) (n:=2) (a:=f.2) (by decide) af rfl (h4.at 0 rfl) ?_
  have h5:=h4.set 0 rfl (bJ v b.2)
  rw[hb]
  by_cases c2:b.1=0
  ·have c2':((b.1:Nat):Int)=0:=by omega
   rw[if_pos c,if_pos c2] at hK
   have e1:IntKind.i64.wrap (1-(f.1:Int))=1-(f.1:Int):=wrap_i64 Om Om
   have c3:=h5.at 3 rfl
   have h11:(1:Nat)*1≤16777216:=by decide
   simp only[go_sem,υ,δ,γ,η,θ,ζ,bO c2',GM,f15,hpo,e1,h11]
   refine h5.append 5 (src:=[[.int .i64 (1-(f.1:Int))]]) rfl rfl (by unfold roomFor; simp only[cV,bIM,bIX,maxLen]; omega) fun w' H2 h6 hw=>?_
   obtain⟨q2,rfl⟩:=hw (by simp)
   have c4:=h6.at 3 rfl
   simp only[go_sem,δ,θ,c4,f15,bJB,bJI,or_false,forall_eq]
   have h7:=h6.set 3 rfl (.rows 17 [vD ⟨s,k,m,q,0,x1,x2,x3,x4,[(f.1:Int),1-(f.1:Int)],rl,t,h⟩ (.osl q2 1 0 2)])
   exact fin (.osl q2 1 0 2) [(f.1:Int),1-(f.1:Int)] b.2 _ _ ⟨by simp only[go_sem,reduceCtorEq,f0],by simp only[go_sem,γ,f1],by simp only[go_sem,γ,f2],by simp only[go_sem,γ,f6],by simp only[go_sem,γ,f7],by simp only[go_sem,γ,f11],by simp only[go_sem,γ,f13],by simp only[go_sem,γ,f14]⟩ (by simp only[go_sem,γ,f15]) ⟨q2,rfl⟩ h7 (fun w5' F2 H2 g1 g2=>hK _ w5' F2 H2 _ g1 ⟨q2,rfl⟩ g2)
  ·have c2':¬ ((b.1:Nat):Int)=0:=by omega
   rw[if_pos c,if_neg c2] at hK
   simp only[go_sem,γ,bF c2']
   exact fin (.osl o 1 0 1) [(f.1:Int)] b.2 _ _ ⟨by simp only[go_sem,reduceCtorEq,f0],by simp only[go_sem,γ,f1],by simp only[go_sem,γ,f2],by simp only[go_sem,γ,f6],by simp only[go_sem,γ,f7],by simp only[go_sem,γ,f11],by simp only[go_sem,γ,f13],by simp only[go_sem,γ,f14]⟩ (by simp only[go_sem,γ,f15]) ⟨o,rfl⟩ h5 (fun w5' F2 H2 g1 g2=>hK _ w5' F2 H2 _ g1 ⟨o,rfl⟩ g2)
 ·have c':¬ (mc:Int)>1:=by omega
  rw[if_neg c] at hK
  simp only[go_sem,γ,reduceCtorEq,c']
  exact fin (.osl o 1 0 1) [(f.1:Int)] f.2 _ _ ⟨by simp only[go_sem,reduceCtorEq,f0],by simp only[go_sem,γ,f1],by simp only[go_sem,γ,f2],by simp only[go_sem,γ,f6],by simp only[go_sem,γ,f7],by simp only[go_sem,γ,f11],by simp only[go_sem,γ,f13],by simp only[go_sem,γ,f14]⟩ (by simp only[go_sem,γ,f15]) ⟨o,rfl⟩ h4 (fun w5' F2 H2 g1 g2=>hK _ w5' F2 H2 _ g1 ⟨o,rfl⟩ g2)
abbrev kV (l:List cF):List (List PV):=l.map cF.cells
abbrev nB (l:List eF):List (List PV):=l.map eF.cells
theorem oZ {rows:List (List PV)} (h:∀ r∈rows,∀ c∈r,c.oid=none):Flat rows:=Flat.of fun r hr c hc q s rs=>aaY (h r hr c hc) q s rs
theorem aVN (l:List bZ):Flat (gE l):=oZ fun r hr c hc=>by
 obtain⟨x,_,rfl⟩:=bJV.1 hr
 simp only[bZ.cells,bJB,bJI,or_false] at hc
 rcases hc with rfl | rfl | rfl | rfl<;>rfl
theorem aVO (l:List cH):Flat (jH l):=oZ fun r hr c hc=>by
 obtain⟨x,_,rfl⟩:=bJV.1 hr
 simp only[cH.cells,bJB,bJI,or_false] at hc
 rcases hc with rfl | rfl | rfl | rfl<;>rfl
theorem aST (l:List cG):Flat (jL l):=oZ fun r hr c hc=>by
 obtain⟨x,_,rfl⟩:=bJV.1 hr
 simp only[cG.cells,bJB,bJI,or_false] at hc
 rcases hc with rfl | rfl | rfl | rfl | rfl | rfl | rfl<;>rfl
theorem aSV (l:List dD):Flat (lF l):=oZ fun r hr c hc=>by
 obtain⟨x,_,rfl⟩:=bJV.1 hr
 simp only[dD.cells,bJB,bJI,or_false] at hc
 rcases hc with rfl | rfl | rfl<;>rfl
theorem buH (l:List eF):Flat (nB l):=oZ fun r hr c hc=>by
 obtain⟨x,_,rfl⟩:=bJV.1 hr
 simp only[eF.cells,bJB,bJI,or_false] at hc
 rcases hc with rfl | rfl<;>rfl
theorem aYC (l:List cF):Flat (kV l):=oZ fun r hr c hc=>by
 obtain⟨x,_,rfl⟩:=bJV.1 hr
 simp only[cF.cells,bJB,bJI,or_false] at hc
 rcases hc with rfl | rfl | rfl | rfl | rfl | rfl | rfl | rfl | rfl | rfl | rfl | rfl | rfl | rfl | rfl | rfl | rfl<;>rfl
theorem a7O (l:List Nat) (mc i:Nat) {a:Nat} (h:a≤l.length):(tB l mc i a).2≤l.length:=by
 have h1:=bM l 9 (DY l (bM l ((aJ l 3 (aJ l 2 a).2).1+1) (bM l 4 (bM l 3 (bM l 2 h)))) (max (aJ l 3 (aJ l 2 a).2).1 1))
 have h2:=bM l mc (sC l (sC l (sC l (sC l h1))))
 unfold tB
 simp only
 split
 ·split
  ·exact bM l 2 h2
  ·exact bM l 2 h2
 ·exact h2
theorem yE (l:List Nat) (mc:Nat) {a:Nat} (h:a≤l.length):∀ k,(fP l mc a k).2≤l.length∧(fP l mc a k).1.length=k
 | 0=>⟨h,rfl⟩
 | k+1=>by
  obtain⟨h1,h2⟩:=yE l mc h k
  exact⟨a7O l mc k h1,by simp only[fP,bIQ,bIX,h2]⟩
theorem UP (l:List Nat) (pc:Nat) {a:Nat} (h:a≤l.length):∀ k,(gR l pc a k).2≤l.length∧(gR l pc a k).1.length=k
 | 0=>⟨h,rfl⟩
 | k+1=>by
  obtain⟨h1,h2⟩:=UP l pc h k
  exact⟨bM l pc h1,by simp only[gR,bIQ,bIX,h2]⟩
theorem aFG {C:Ctx} (Lb:mC C) {l:List Nat} {v:PV} (T:Tp l v) (E:FE) (mc n a:Nat) (hn:n≤10) (hmc:0<mc) (hmc2:mc≤50) (ha:a≤l.length) (x0:Int) (w1 w2 w3 w4:PV) (lw:List bZ) (md:List cH) (dm:List cG) (dv:List dD) (K:bX) (F:PF) (H:PH)
  (hF:PAt E mc n 0 F) (hH:aT H (E.boxes v (.int .i64 x0) w1 w2 w3 w4 .bGI .bGI a) [(w1,4,gE lw),(w2,4,jH md),(w3,7,jL dm),(w4,3,lF dv)])
  (hK:∀ w5 F' H',(fB E).le F'→aT H' (E.boxes v (.int .i64 x0) w1 w2 w3 w4 w5 .bGI (fP l mc a n).2) (FE.lists w1 w2 w3 w4 w5 lw md dm dv (kV (fP l mc a n).1))→K (.exit 4) F' H') :
  aB.wp C (.loop GD) K F H:=by
 refine wp_loop (α:=Nat × PV × PH) (fun t=>akM E mc n t.1) (fun t=>t.2.2) (fun t=>t.1≤n∧aT t.2.2 (E.boxes v (.int .i64 x0) w1 w2 w3 w4 t.2.1 .bGI (fP l mc a t.1).2) (FE.lists w1 w2 w3 w4 t.2.1 lw md dm dv (kV (fP l mc a t.1).1))) (fun t=>n-t.1) (0,.bGI,H) ⟨bIT _,hH.qD 17⟩ ?_ PH.le_refl ?_
 ·unfold akM fB
  (repeat' (first|exact PF.nil_le|refine PF.aF ?_ ?_))<;>first|(simp only[go_sem,hF.f0,hF.f1,hF.f2,hF.f6,hF.f7,hF.f11,hF.f13,hF.f14]<;>rfl)|rfl
 rintro⟨i,w5,H0⟩ ⟨hi,hH⟩
 simp only at hi hH ⊢
 obtain⟨k1,k2⟩:=yE l mc ha i
 have bGP:fP l mc a (i+1)=((fP l mc a i).1++[(tB l mc i (fP l mc a i).2).1],(tB l mc i (fP l mc a i).2).2):=rfl
 simp only[go_sem,γ,reduceCtorEq,GD,acH,akM,fB]
 by_cases hlt:i<n
 ·have bGO:(i:Int)<(n:Nat):=by omega
  generalize hg:fP l mc a i=g at *
  simp only[go_sem,bGO]
  refine blB (C:=C) Lb T E mc n i g.2 k1 Om (.int .i64 x0) w1 w2 w3 w4 w5 .bGI _ _ _ _ H0 ⟨by simp only[go_sem,reduceCtorEq],by simp only[go_sem,γ,reduceCtorEq],by simp only[go_sem,γ,reduceCtorEq],by simp only[go_sem,γ,reduceCtorEq],by simp only[go_sem,γ,reduceCtorEq],by simp only[go_sem,γ,reduceCtorEq],by simp only[go_sem,γ,reduceCtorEq],by simp only[go_sem,γ,reduceCtorEq]⟩ hH ?_
  intro p F1 H1 hF1 f15 hH1
  simp only at hH1
  have hpT:tB l mc i g.2=_:=rfl
  have hgle:=bM l 9 (DY l (bM l ((aJ l 3 (aJ l 2 g.2).2).1+1) (bM l 4 (bM l 3 (bM l 2 k1)))) (max (aJ l 3 (aJ l 2 g.2).2).1 1))
  refine blC (C:=C) Lb T E mc n i _ hgle hmc hmc2 (.int .i64 x0) w1 w2 w3 w4 w5 lw md dm dv _ (by rw[bIM,k2]; omega) _ _ _ _ (mkT 0 1) _ _ _ p _ F1 H1 hF1 f15 hH1 ?_
  intro sp f b ms w w5' F2 H2 B' hF2 hw hH2
  obtain⟨o,rfl⟩:=hw
  have hP:tB l mc i g.2=(⟨[112]++cN i,(1+(aJ l 2 g.2).1:Nat),((aJ l 3 (aJ l 2 g.2).2).1:Nat),(1+(aJ l 2 g.2).1+(aJ l ((aJ l 3 (aJ l 2 g.2).2).1+1) (aJ l 4 (aJ l 3 (aJ l 2 g.2).2).2).2).1:Nat),0,sp.1.getD 0 0,sp.1.getD 1 0,sp.1.getD 2 0,sp.1.getD 3 0,ms.1,(mH l (aJ l ((aJ l 3 (aJ l 2 g.2).2).1+1) (aJ l 4 (aJ l 3 (aJ l 2 g.2).2).2).2).2 (max (aJ l 3 (aJ l 2 g.2).2).1 1)).1,mkT ((aJ l 9 (mH l (aJ l ((aJ l 3 (aJ l 2 g.2).2).1+1) (aJ l 4 (aJ l 3 (aJ l 2 g.2).2).2).2).2 (max (aJ l 3 (aJ l 2 g.2).2).1 1)).2).1:Nat) 8,mkT ((1+(aJ l 4 (aJ l 3 (aJ l 2 g.2).2).2).1:Nat):Int) 1⟩,ms.2):=rfl
  rw[hP] at bGP
  generalize hPP:(⟨[112]++cN i,(1+(aJ l 2 g.2).1:Nat),((aJ l 3 (aJ l 2 g.2).2).1:Nat),(1+(aJ l 2 g.2).1+(aJ l ((aJ l 3 (aJ l 2 g.2).2).1+1) (aJ l 4 (aJ l 3 (aJ l 2 g.2).2).2).2).1:Nat),0,sp.1.getD 0 0,sp.1.getD 1 0,sp.1.getD 2 0,sp.1.getD 3 0,ms.1,(mH l (aJ l ((aJ l 3 (aJ l 2 g.2).2).1+1) (aJ l 4 (aJ l 3 (aJ l 2 g.2).2).2).2).2 (max (aJ l 3 (aJ l 2 g.2).2).1 1)).1,mkT ((aJ l 9 (mH l (aJ l ((aJ l 3 (aJ l 2 g.2).2).1+1) (aJ l 4 (aJ l 3 (aJ l 2 g.2).2).2).2).2 (max (aJ l 3 (aJ l 2 g.2).2).1 1)).2).1:Nat) 8,mkT ((1+(aJ l 4 (aJ l 3 (aJ l 2 g.2).2).2).1:Nat):Int) 1⟩:cF)=P at *
  have hPm:P.bGH=ms.1:=by rw[← hPP]
  obtain⟨rs,z1,z2,z3,z4,z5⟩:=hH2.frz 5 rfl
  have y1:=z4 0 _ (by decide) rfl
  have y2:=z4 1 _ (by decide) rfl
  have y3:=z4 2 _ (by decide) rfl
  have y4:=z4 3 _ (by decide) rfl
  have y5:=z4 4 _ (by decide) rfl
  simp only at y1 y2 y3 y4 y5
  have y0:=T.frz o 1 rs
  obtain⟨f0,f1,f2,f6,f7,f11,f13,f14⟩:=hF2
  simp only[go_sem,γ,acL,f14,ws i]
  refine anY (i+1,w5',H2.frz o 1 rs) z1 ⟨hlt,?_⟩ (by simp only; omega) ?_ PH.le_refl
  ·rw[bGP]
   have eB:(E.boxes v (.int .i64 x0) w1 w2 w3 w4 w5' .bGI ms.2).map (fun b=>(b.1,b.2.frz o 1 rs))=E.boxes v (.int .i64 x0) w1 w2 w3 w4 w5' .bGI ms.2:=by
    show [(E.o,cE.rows 2 [[PV.dP o 1 rs v,.int .i64 ms.2]]),(E.o7,cE.rows 7 [[.int .i64 x0,PV.dP o 1 rs w1,PV.dP o 1 rs w2,PV.dP o 1 rs w3,PV.dP o 1 rs w4,PV.dP o 1 rs w5',.bGI]]),(E.o6,flZ)]=_
    rw[y0,y1,y2,y3,y4,y5]
   have e5:(kV g.1++[vD P (.osl o 1 0 ms.1.length)]).map (fun r=>r.map (PV.dP o 1 rs))=kV (g.1++[P]):=by
    rw[bKV,aYC]
    have:([vD P (.osl o 1 0 ms.1.length)]:List (List PV)).map (fun r=>r.map (PV.dP o 1 rs))=[P.cells]:=by
     show [[PV.str P.name,.int .i64 P.k,.int .i64 P.m,.int .i64 P.bHM,.int .i64 P.s0,.int .i64 P.s1,.int .i64 P.s2,.int .i64 P.s3,.int .i64 P.s4,PV.dP o 1 rs (.osl o 1 0 ms.1.length),frs P.repair,.bool P.target.neg,aI P.target.num,aI P.target.den,.bool P.bGU.neg,aI P.bGU.num,aI P.bGU.den]]=_
     rw[z2,← hPm]
     rfl
    rw[this]
    simp[kV]
   have eL:(FE.lists w1 w2 w3 w4 w5' lw md dm dv (kV g.1++[vD P (.osl o 1 0 ms.1.length)])).map (fun x=>(x.1,x.2.1,x.2.2.map fun r=>r.map (PV.dP o 1 rs)))=FE.lists w1 w2 w3 w4 w5' lw md dm dv (kV (g.1++[P])):=by
    show [(w1,4,(gE lw).map _),(w2,4,(jH md).map _),(w3,7,(jL dm).map _),(w4,3,(lF dv).map _),(w5',17,(kV g.1++[vD P (.osl o 1 0 ms.1.length)]).map _)]=_
    rw[aVN,aVO,aST,aSV,e5]
   rw[← eB,← eL]
   exact z5.sub (by rw[bKV]; exact List.sublist_append_left ..) (bKH.refl _)
  ·(repeat' (first|exact PF.nil_le|refine PF.aF ?_ ?_))<;>first|(simp only[go_sem,γ,reduceCtorEq,f0,f1,f2,f6,f7,f11,f13]<;>rfl)|rfl
 ·have bGO:¬ (i:Int)<(n:Nat):=by omega
  have:i=n:=by omega
  subst this
  simp only[go_sem,bGO]
  exact hK w5 _ _ (RE Sq Sq Sq Sq Sq) hH
theorem aRG {C:Ctx} (Lb:mC C) {l:List Nat} {v:PV} (T:Tp l v) (E:FE) (pc n a:Nat) (hn:n≤60) (hpc:pc≤50) (ha:a≤l.length) (ext w1 w2 w3 w4 w5:PV) (pr:List cF) (hpr:pr.length=pc) (L:List LI) (K:bX) (F:PF) (H:PH)
  (hF:(((fB E).set 18 (.int .i64 n)).set 19 (.int .i64 0)).le F) (hH:aT H (E.boxes v ext w1 w2 w3 w4 w5 .bGI a) ((w5,17,kV pr)::L))
  (hK:∀ w6 F' H',(fB E).le F'→aT H' (E.boxes v ext w1 w2 w3 w4 w5 w6 (gR l pc a n).2) ((w5,17,kV pr)::L++[(w6,2,nB (gR l pc a n).1)])→K (.exit 8) F' H') :
  aB.wp C (.loop GF) K F H:=by
 refine wp_loop (α:=Nat × PV × PH) (fun t=>((fB E).set 18 (.int .i64 n)).set 19 (.int .i64 t.1)) (fun t=>t.2.2) (fun t=>t.1≤n∧aT t.2.2 (E.boxes v ext w1 w2 w3 w4 w5 t.2.1 (gR l pc a t.1).2) ((w5,17,kV pr)::L++[(t.2.1,2,nB (gR l pc a t.1).1)])) (fun t=>n-t.1) (0,.bGI,H) ⟨bIT _,hH.qD 2⟩ hF PH.le_refl ?_
 rintro⟨i,w6,H0⟩ ⟨hi,hH⟩
 simp only at hi hH ⊢
 obtain⟨k1,k2⟩:=UP l pc ha i
 have bGP:gR l pc a (i+1)=((gR l pc a i).1++[⟨[118]++cN i,((aJ l pc (gR l pc a i).2).1:Nat)⟩],(aJ l pc (gR l pc a i).2).2):=rfl
 simp only[go_sem,γ,reduceCtorEq,GF,acO,fB]
 by_cases hlt:i<n
 ·have bGO:(i:Int)<(n:Nat):=by omega
  generalize hg:gR l pc a i=g at *
  have h1:=hH.set 0 rfl (bJ v (aJ l pc g.2).2)
  generalize hz0:aJ l pc g.2=z at *
  have b1:=hH.at 1 rfl
  have lw:=(hH.own 0 rfl).uY
  rw[bIM,hpr] at lw
  have hHs:(PH.nil.set E.o7 (flB ext w1 w2 w3 w4 w5 w6)).le H0:=PH.aF PH.nil_le b1
  simp only[go_sem,bGO]
  refine bK (PH.nil.set E.o7 (flB ext w1 w2 w3 w4 w5 w6)) (mkS l v) hHs ?_
  simp only[go_sem,δ,γ,reduceCtorEq,acP]
  refine EO Lb.torC (s:=[118]) (n:=i) (by decide) Om rfl hHs ?_
  simp only[go_sem,δ,γ,θ,reduceCtorEq,lw]
  refine pZ Lb.toEL T (o:=E.o) (n:=pc) (a:=g.2) Om k1 rfl (hH.at 0 rfl) ?_ ?_
  ·rw[hz0]; exact PH.aF PH.nil_le (h1.at 1 rfl)
  rw[hz0]
  have h12:(1:Nat)*2≤16777216:=by decide
  simp only[go_sem,υ,δ,γ,η,θ,ζ,reduceCtorEq,h12,bJB,bJI,or_false,forall_eq,forall_eq_or_imp]
  refine h1.append (v:=w6) (s:=2) (rows:=nB g.1) (L.length+1) (src:=[(⟨[118]++cN i,(z.1:Nat)⟩:eF).cells]) (by simp) rfl (by unfold roomFor; rw[bIM]; simp only[bIX,maxLen]; omega) fun w' H2 h5 hw=>?_
  obtain⟨q,rfl⟩:=hw (by simp)
  rw[show ((w5,17,kV pr)::L++[(w6,2,nB g.1)])=((w5,17,kV pr)::L)++[(w6,2,nB g.1)] from rfl,bLM _ _ (by simp),show L.length+1-((w5,17,kV pr)::L).length=0 by simp] at h5
  have b2:=h5.at 1 rfl
  refine⟨PH.aF PH.nil_le b2,?_⟩
  refine bK .nil dC PH.nil_le ?_
  simp only[go_sem,δ,γ,reduceCtorEq,acQ,b2,bJB,bJI,or_false,forall_eq]
  have h6:=h5.set 1 rfl (flB ext w1 w2 w3 w4 w5 (.osl q 2 0 (nB g.1++[(⟨[118]++cN i,(z.1:Nat)⟩:eF).cells]).length))
  refine⟨PH.nil_le,?_⟩
  simp only[go_sem,γ,reduceCtorEq,acR,ws i]
  refine aC (i+1,.osl q 2 0 (nB g.1++[(⟨[118]++cN i,(z.1:Nat)⟩:eF).cells]).length,_) ⟨hlt,?_⟩ (by simp only; omega) ?_ PH.le_refl
  ·rw[bGP]
   have e:nB (g.1++[⟨[118]++cN i,(z.1:Nat)⟩])=nB g.1++[(⟨[118]++cN i,(z.1:Nat)⟩:eF).cells]:=by simp[nB]
   simp only
   rw[e]
   exact h6
  ·exact Lq
 ·have bGO:¬ (i:Int)<(n:Nat):=by omega
  have:i=n:=by omega
  subst this
  simp only[go_sem,bGO]
  exact hK w6 _ _ (RE rfl rfl rfl rfl rfl) hH
def KX (l:List Nat) (v:PV) (o bGG bGJ a:Nat) (r:PV) (H:PH):Prop:=Co r (.agg (kK l bGG bGJ a).1.cells)∧H=PH.nil.set o (bJ v (kK l bGG bGJ a).2)
structure azB (C:Ctx):Prop extends mC C where
 grow:∀ (l:List Nat) (v:PV),Tp l v→∀ (mc bGG:Nat),0<mc→mc≤1000→bGG≤60→ZO C l v mc bGG 4
theorem bdA {C:Ctx} (Lb:azB C) {l:List Nat} {v:PV} (T:Tp l v) (o bGG bGJ a:Nat) (hdr:bGG≤60) (hvo:bGJ≤50) (ha:a≤l.length) :
  BA.wp C (aR abW.res (KX l v o bGG bGJ a)) (PF.args [.ptr o 2 0 0,.int .i64 bGG,.int .i64 bGJ]) (PH.nil.set o (bJ v a)):=by
 have hT:kK l bGG bGJ a=kK l bGG bGJ a:=rfl
 conv at hT=>rhs; unfold kK
 dsimp only at hT
 have hR:∀ r H,KX l v o bGG bGJ a r H↔Co r (.agg (kK l bGG bGJ a).1.cells)∧H=PH.nil.set o (bJ v (kK l bGG bGJ a).2):=fun _ _=>Iff.rfl
 have ne:=eO l (show 0<2 by decide) a
 have ae:=bM l 2 ha
 generalize he:aJ l 2 a=e at *
 have nlw:=eO l (show 0<2 by decide) e.2
 have alw:=bM l 2 ae
 generalize hlw:aJ l 2 e.2=lw at *
 obtain⟨alaws,llaws⟩:=WG l alw (1+lw.1)
 generalize hlaws:mS l lw.2 (1+lw.1)=bGR at *
 have nmd:=eO l (show 0<2 by decide) bGR.2
 have amd:=bM l 2 alaws
 generalize hmd:aJ l 2 bGR.2=md at *
 obtain⟨amodels,lmodels⟩:=GU l (1+lw.1) amd (1+md.1)
 generalize hmodels:gV l (1+lw.1) md.2 (1+md.1)=bGH at *
 have hG0:GOk l bGG ⟨[wA],[],bGH.2⟩:=⟨by simp,bIT _,amodels⟩
 obtain⟨hG,-⟩:=VQ (mc:=1+md.1) 4 0 hG0
 generalize hg:eZ l (1+md.1) bGG 4 0 ⟨[wA],[],bGH.2⟩=g at *
 have npl:=eO l (show 0<2 by decide) g.a
 have apl:=bM l 2 hG.a
 generalize hpl:aJ l 2 g.a=pl at *
 obtain⟨apols,lpols⟩:=yE l (1+md.1) apl (1+pl.1)
 generalize hpols:fP l (1+md.1) pl.2 (1+pl.1)=pols at *
 have nvo:=eO l (Om:0<bGJ+1) pols.2
 have avo:=bM l (bGJ+1) apols
 generalize hvo':aJ l (bGJ+1) pols.2=vo at *
 generalize hvols:gR l (1+pl.1) vo.2 vo.1=vols at *
 have ee:IntKind.i64.wrap (1+(e.1:Int))=((1+e.1:Nat):Int):=by rw[wrap_i64 Om Om]; omega
 have elw:IntKind.i64.wrap (1+(lw.1:Int))=((1+lw.1:Nat):Int):=by rw[wrap_i64 Om Om]; omega
 have emd:IntKind.i64.wrap (1+(md.1:Int))=((1+md.1:Nat):Int):=by rw[wrap_i64 Om Om]; omega
 have epl:IntKind.i64.wrap (1+(pl.1:Int))=((1+pl.1:Nat):Int):=by rw[wrap_i64 Om Om]; omega
 have evo:IntKind.i64.wrap ((bGJ:Int)+1)=((bGJ+1:Nat):Int):=cS Om
 have h0:aT (PH.nil.set o (bJ v a)) [(o,bJ v a)] []:=aT.nil.new (H:=PH.nil) rfl (bJ v a)
 simp only[go_sem,δ,BA,aoJ,abW]
 refine aO fun o6 ho6=>?_
 have h1:=h0.new ho6 flZ
 simp only[go_sem,reduceCtorEq,aoK]
 refine cW Lb.toEL T (o:=o) (n:=2) (a:=a) (by decide) ha rfl (h1.at 0 rfl) ?_
 have h2:=h1.set 0 rfl (bJ v e.2)
 rw[he]
 simp only[go_sem,δ,γ,θ,ee]
 refine aO fun o7 ho7=>?_
 have h3:=h2.new ho7 (flB (.int .i64 (1+e.1:Nat)) .bGI .bGI .bGI .bGI .bGI .bGI)
 simp only[go_sem,δ,γ,reduceCtorEq,aoL,bJB,bJI,or_false,forall_eq,forall_eq_or_imp]
 refine cW Lb.toEL T (o:=o) (n:=2) (a:=e.2) (by decide) ae rfl (h3.at 0 rfl) ?_
 have h4:=h3.set 0 rfl (bJ v lw.2)
 rw[hlw]
 have h5:=h4.perm (B':=FE.boxes ⟨o,o6,o7,bGG,bGJ⟩ v (.int .i64 (1+e.1:Nat)) .bGI .bGI .bGI .bGI .bGI .bGI lw.2) (L':=[]) (List.Perm.cons _ (List.Perm.swap _ _ _)) (List.Perm.refl _)
 obtain⟨E,hE⟩:∃ E:FE,E=⟨o,o6,o7,bGG,bGJ⟩:=⟨_,rfl⟩
 rw[← hE] at h5
 simp only[go_sem,γ,elw,aoM]
 refine blA (C:=C) Lb.tomC T E (1+lw.1) lw.2 Om alw _ _ _ _ ?_ h5 ?_
 ·rw[hE]
  unfold fB
  exact Lq
 clear h5 h4 h3 h2 h1 h0 ho6 ho7
 intro w1 F1 H1 hF1 h1
 rw[hlaws] at h1
 have f0:F1 0=some (.ptr o 2 0 0):=hF1 0 _ (by rw[hE]; unfold fB; simp only[go_sem,reduceCtorEq])
 have f1:F1 1=some (.int .i64 bGG):=hF1 1 _ (by rw[hE]; unfold fB; simp only[go_sem,γ,reduceCtorEq])
 have f2:F1 2=some (.int .i64 bGJ):=hF1 2 _ (by rw[hE]; unfold fB; simp only[go_sem,γ,reduceCtorEq])
 have f6:F1 6=some (.ptr o6 7 0 0):=hF1 6 _ (by rw[hE]; unfold fB; simp only[go_sem,γ,reduceCtorEq])
 have f7:F1 7=some (.ptr o7 7 0 0):=hF1 7 _ (by rw[hE]; unfold fB; simp only[go_sem,γ,reduceCtorEq])
 have q0:=h1.at 0 rfl
 rw[hE] at q0
 simp only[go_sem,abX,f0]
 refine cW Lb.toEL T (o:=o) (n:=2) (a:=bGR.2) (by decide) alaws rfl q0 ?_
 have h2:=h1.set 0 rfl (bJ v md.2)
 rw[hmd]
 simp only[go_sem,γ,emd,abY]
 refine a5W (C:=C) Lb.tomC T E (1+md.1) md.2 (1+lw.1) Om Om amd (.int .i64 (1+e.1:Nat)) w1 bGR.1 llaws _ _ _ ?_ (by rw[hE] at h2 ⊢; exact h2) ?_
 ·rw[hE]
  unfold fB
  exact Lq
 clear q0 h2 h1 f0 f1 f2 f6 f7 hF1
 intro w2 F2 H2 hF2 f11 h2
 rw[hmodels] at h2
 have f0:F2 0=some (.ptr o 2 0 0):=hF2 0 _ (by rw[hE]; unfold fB; simp only[go_sem,reduceCtorEq])
 have f1:F2 1=some (.int .i64 bGG):=hF2 1 _ (by rw[hE]; unfold fB; simp only[go_sem,γ,reduceCtorEq])
 have f2:F2 2=some (.int .i64 bGJ):=hF2 2 _ (by rw[hE]; unfold fB; simp only[go_sem,γ,reduceCtorEq])
 have f6:F2 6=some (.ptr o6 7 0 0):=hF2 6 _ (by rw[hE]; unfold fB; simp only[go_sem,γ,reduceCtorEq])
 have f7:F2 7=some (.ptr o7 7 0 0):=hF2 7 _ (by rw[hE]; unfold fB; simp only[go_sem,γ,reduceCtorEq])
 obtain⟨qm,hqm⟩:=(h2.own 1 rfl).one (by rw[bIM]; omega)
 rw[bIM,lmodels] at hqm
 subst hqm
 have h17:(1:Nat)*7≤16777216:=by decide
 simp only[go_sem,ο,acD]
 refine aA (Lb.int 0 (by unfold dA; omega)) rfl ?_
 simp only[go_sem,ο,υ,δ,γ,η,θ,ζ,bJB,bJI,or_false,forall_eq,forall_eq_or_imp,h17]
 refine aO fun od hod=>?_
 have h3:=h2.bvY (s:=7) (rows:=jL [wA]) hod
 have b7:=h2.at 1 rfl
 rw[hE] at b7
 have n7:¬ o7=od:=by
  have:=h3.neL 1 2 rfl rfl rfl
  rw[hE] at this; exact this
 simp only[go_sem,ο,δ,γ,θ,f7,b7,n7,bJB,bJI,or_false,forall_eq]
 have h4:=(h3.set 1 rfl (flB (.int .i64 (1+e.1:Nat)) w1 (.osl qm 4 0 (1+md.1)) (.osl od 7 0 1) .bGI .bGI .bGI)).qD 3
 rw[hE] at h4
 have h5:=h4.perm (B':=(GE.mk o o7 qm (.int .i64 (1+e.1:Nat)) w1 .bGI .bGI).boxes v (1+md.1) (.osl od 7 0 1) .bGI bGH.2++[(o6,flZ)]) (L':=kU ⟨[wA],[],bGH.2⟩ (.osl od 7 0 1) .bGI++[(w1,4,gE bGR.1),(.osl qm 4 0 (1+md.1),4,jH bGH.1)]) (List.Perm.refl _)
  (List.perm_append_comm (l₁:=[(w1,4,gE bGR.1),(.osl qm 4 0 (1+md.1),4,jH bGH.1)]) (l₂:=kU ⟨[wA],[],bGH.2⟩ (.osl od 7 0 1) .bGI))
 simp only[go_sem,ο,γ,reduceCtorEq,acE,f0,f1,f7]
 refine DC h5 (fun H0 hH0=>Lb.grow l v T (1+md.1) bGG Om Om hdr (GE.mk o o7 qm (.int .i64 (1+e.1:Nat)) w1 .bGI .bGI) (.osl od 7 0 1) .bGI ⟨[wA],[],bGH.2⟩ 0 wA hG0 rfl rfl H0 hH0) (by simp only[go_sem,ο,γ,f0,f1,f7]; rfl) ?_
 rintro r B' L' H3 ⟨rfl,w3,w4,rfl,rfl⟩ h6
 rw[hg] at h6
 have h7:=h6.perm (B':=E.boxes v (.int .i64 (1+e.1:Nat)) w1 (.osl qm 4 0 (1+md.1)) w3 w4 .bGI .bGI g.a) (L':=[(w1,4,gE bGR.1),(.osl qm 4 0 (1+md.1),4,jH bGH.1),(w3,7,jL g.bGT),(w4,3,lF g.bHH)]) (by rw[hE]; exact List.Perm.refl _)
  (List.perm_append_comm (l₁:=kU g w3 w4) (l₂:=[(w1,4,gE bGR.1),(.osl qm 4 0 (1+md.1),4,jH bGH.1)]))
 have q0:=h7.at 0 rfl
 rw[hE] at q0
 simp only[go_sem,ο,reduceCtorEq,acF,f0]
 refine cW Lb.toEL T (o:=o) (n:=2) (a:=g.a) (by decide) hG.a rfl q0 ?_
 have h8:=h7.set 0 rfl (bJ v pl.2)
 rw[hpl]
 simp only[go_sem,ο,γ,epl,acG]
 refine aFG (C:=C) Lb.tomC T E (1+md.1) (1+pl.1) pl.2 Om Om Om apl ((1+e.1:Nat):Int) w1 (.osl qm 4 0 (1+md.1)) w3 w4 bGR.1 bGH.1 g.bGT g.bHH _ _ _ (by rw[hE]; exact⟨by simp only[go_sem,ο,reduceCtorEq,f0],by simp only[go_sem,ο,γ,f1],by simp only[go_sem,ο,γ,f2],by simp only[go_sem,ο,γ,f6],by simp only[go_sem,ο,γ,f7],by simp only[go_sem,ο,γ,f11],by simp only[go_sem,ο,γ],by simp only[go_sem,ο,γ]; rfl⟩) (by rw[hE] at h8 ⊢; exact h8) ?_
 clear h8 h7 h6 h5 h4 h3 h2 q0 b7 f0 f1 f2 f6 f7 hF2
 intro w5 F4 H4 hF4 h1
 rw[hpols] at h1
 have f0:F4 0=some (.ptr o 2 0 0):=hF4 0 _ (by rw[hE]; unfold fB; simp only[go_sem,reduceCtorEq])
 have f1:F4 1=some (.int .i64 bGG):=hF4 1 _ (by rw[hE]; unfold fB; simp only[go_sem,γ,reduceCtorEq])
 have f2:F4 2=some (.int .i64 bGJ):=hF4 2 _ (by rw[hE]; unfold fB; simp only[go_sem,γ,reduceCtorEq])
 have f6:F4 6=some (.ptr o6 7 0 0):=hF4 6 _ (by rw[hE]; unfold fB; simp only[go_sem,γ,reduceCtorEq])
 have f7:F4 7=some (.ptr o7 7 0 0):=hF4 7 _ (by rw[hE]; unfold fB; simp only[go_sem,γ,reduceCtorEq])
 have q0:=h1.at 0 rfl
 rw[hE] at q0
 simp only[go_sem,γ,acM,f0,f2,evo]
 refine cW Lb.toEL T (o:=o) (n:=bGJ+1) (a:=pols.2) Om apols rfl q0 ?_
 have h2:=h1.set 0 rfl (bJ v vo.2)
 rw[hvo']
 have h3:=h2.perm (B':=E.boxes v (.int .i64 (1+e.1:Nat)) w1 (.osl qm 4 0 (1+md.1)) w3 w4 w5 .bGI vo.2) (L':=(w5,17,kV pols.1)::[(w1,4,gE bGR.1),(.osl qm 4 0 (1+md.1),4,jH bGH.1),(w3,7,jL g.bGT),(w4,3,lF g.bHH)]) (List.Perm.refl _)
  (List.perm_append_comm (l₁:=[(w1,4,gE bGR.1),(.osl qm 4 0 (1+md.1),4,jH bGH.1),(w3,7,jL g.bGT),(w4,3,lF g.bHH)]) (l₂:=[(w5,17,kV pols.1)]))
 simp only[go_sem,γ,acN]
 refine aRG (C:=C) Lb.tomC T E (1+pl.1) vo.1 vo.2 Om Om avo _ _ _ _ _ w5 pols.1 lpols _ _ _ _ ?_ (by rw[hE] at h3 ⊢; exact h3) ?_
 ·rw[hE]
  unfold fB
  exact Lq
 clear h3 h2 h1 q0 f0 f1 f2 f6 f7 hF4
 intro w6 F5 H5 hF5 h1
 rw[hvols] at h1
 have f6:F5 6=some (.ptr o6 7 0 0):=hF5 6 _ (by rw[hE]; unfold fB; simp only[go_sem,γ,reduceCtorEq])
 have f7:F5 7=some (.ptr o7 7 0 0):=hF5 7 _ (by rw[hE]; unfold fB; simp only[go_sem,γ,reduceCtorEq])
 rw[hE] at h1
 have b7:=h1.at 1 rfl
 have b6:=h1.at 2 rfl
 have one:∀ (x:PV),x∈[w1,w3,w4,w5,w6]→(∃ q s n,x=.osl q s 0 n)∨x=.bGI:=by
  intro x hx
  have key:∀ {s:Nat} {rows:List (List PV)},aX H5 s x rows→(∃ q s n,x=.osl q s 0 n)∨x=.bGI:=by
   rintro s rows (⟨_,h⟩ | ⟨q,rs,h,_⟩)
   ·exact .inr h
   ·exact .inl ⟨q,s,_,h⟩
  simp only[bJB,bJI,or_false] at hx
  rcases hx with rfl | rfl | rfl | rfl | rfl
  ·exact key (h1.own 1 rfl)
  ·exact key (h1.own 3 rfl)
  ·exact key (h1.own 4 rfl)
  ·exact key (h1.own 0 rfl)
  ·exact key (h1.own 5 rfl)
 have one':∀ (x:PV),x∈[w1,w3,w4,w5,w6]→PV.one x=true:=fun x hx=>by
  rcases one x hx with ⟨q,s,n,rfl⟩ | rfl<;>rfl
 have o1:=one' w1 (by simp)
 have o3:=one' w3 (by simp)
 have o4:=one' w4 (by simp)
 have o5:=one' w5 (by simp)
 have o6':=one' w6 (by simp)
 simp only[PV.one] at o1 o3 o4 o5 o6'
 simp only[go_sem,δ,γ,acS,f6,f7,b7,b6,bJB,bJI,or_false,forall_eq,forall_eq_or_imp,o1,o3,o4,o5,o6']
 have h2:=h1.set 2 rfl (flB (.int .i64 (1+e.1:Nat)) w1 (.osl qm 4 0 (1+md.1)) w3 w4 w5 w6)
 have h3:=h2.sub (B':=[(o,bJ v vols.2)]) (bKH.cons_cons _ (List.nil_sublist _)) (bKH.refl _)
 obtain⟨φ,H6,k1,k2,k3,k4⟩:=aT.giveUp _ h3 (fun x hx=>by
  simp only[List.cons_append,List.nil_append,bJB,bJI,or_false] at hx
  rcases hx with rfl | rfl | rfl | rfl | rfl | rfl
  ·exact aYC _
  ·exact aVN _
  ·exact aVO _
  ·exact aST _
  ·exact aSV _
  ·exact buH _) (fun b hb q s rs=>by
  simp only[bJB,bJI,or_false] at hb
  subst hb
  simp only[cE.frz,bKD,bKW,T.frz]
  rfl)
 refine alO (vs:=[.agg [.int .i64 (1+e.1:Nat),w1,.osl qm 4 0 (1+md.1),w3,w4,w5,w6]]) (.inr rfl) (by simp only[go_sem,δ,γ,f6]) (k4 _ _ (.done (H2:=PH.nil.set o (bJ v vols.2)) ?_ (PH.aF PH.nil_le (k3.at 0 rfl))))
 rw[hR,hT]
 refine⟨CoL.agg ?_,rfl⟩
 have s5:=k1 (w5,17,kV pols.1) (by simp)
 have s1:=k1 (w1,4,gE bGR.1) (by simp)
 have s2:=k1 (.osl qm 4 0 (1+md.1),4,jH bGH.1) (by simp)
 have s3:=k1 (w3,7,jL g.bGT) (by simp)
 have s4:=k1 (w4,3,lF g.bHH) (by simp)
 have s6:=k1 (w6,2,nB vols.1) (by simp)
 have s0:φ (.int .i64 (1+e.1:Nat))=.int .i64 (1+e.1:Nat):=k2 _ rfl
 show CoL [φ (.int .i64 (1+e.1:Nat)),φ w1,φ (.osl qm 4 0 (1+md.1)),φ w3,φ w4,φ w5,φ w6] _
 rw[s0]
 exact CoL.cons (.refl _) (CoL.cons s1.co (CoL.cons s2.co (CoL.cons s3.co (CoL.cons s4.co (CoL.cons s5.co (CoL.cons s6.co .nil))))))
structure baD (C:Ctx):Prop extends azB C where
 new:∀ (l:List Nat),(∀ x∈l,x<256)→l.length≤9223372036854775807→aH C 28 [.sl 1 (mV l)] .nil (a2K l)
 fleet:∀ (l:List Nat) (v:PV),Tp l v→∀ (o bGG bGJ a:Nat),bGG≤60→bGJ≤50→a≤l.length →
  aH C 0 [.ptr o 2 0 0,.int .i64 bGG,.int .i64 bGJ] (PH.nil.set o (bJ v a)) (fun r H=>r=.agg (kK l bGG bGJ a).1.cells∧H=PH.nil.set o (bJ v (kK l bGG bGJ a).2))
theorem KX.exact {C:Ctx} {name:Nat} {args:List PV} {H:PH} {l:List Nat} {v:PV} {o bGG bGJ a:Nat} (h:aH C name args H (KX l v o bGG bGJ a)):aH C name args H (fun r H=>r=.agg (kK l bGG bGJ a).1.cells∧H=PH.nil.set o (bJ v (kK l bGG bGJ a).2)) :=
 h.post fun r H' hr=>⟨_,hr.1,rfl,hr.2⟩
theorem bcX {C:Ctx} (Lb:baD C) (l:List Nat) (hb:∀ x∈l,x<256) (hl:l.length≤9223372036854775807) (bGG bGJ:Nat) (hdr:bGG≤60) (hvo:bGJ≤50) :
  AY.wp C (aR abT.res (bP (.agg (kK (l.take 400) bGG bGJ 0).1.cells))) (PF.args [.sl 1 (mV l),.int .i64 bGG,.int .i64 bGJ]) .nil:=by
 simp only[go_sem,δ,AY,aoD,abT]
 refine aO fun o6 ho6=>?_
 simp only[go_sem,reduceCtorEq,aoE]
 refine mX (Lb.new l hb hl) rfl PH.nil_le ?_
 rintro r H' ⟨o,v,rfl,T,rfl⟩ ha
 have hne:¬ o6=o:=by
  intro e
  subst e
  have:=ha o6 (bJ v 0) (by rw[bA,if_pos rfl]) rfl
  rw[bA,if_pos rfl] at this
  cases this
 rw[PH.oJ]
 simp only[go_sem,γ]
 refine lO (Lb.fleet _ v T o bGG bGJ 0 hdr hvo (bIT _)) (by rw[bA,if_pos rfl]) rfl ?_
 simp only[go_sem,δ,γ,hne]
 exact aV (vs:=[.agg (kK (l.take 400) bGG bGJ 0).1.cells]) (.inr rfl) .nil Sq PH.nil_le ⟨.refl _,rfl⟩
theorem CoL.a7B:CoL [] []:=⟨rfl,fun j p q h=>by simp at h⟩
theorem CoL.lT {p q:PV} {ps qs:List PV} (h:Co p q) (hs:CoL ps qs):CoL (p::ps) (q::qs):=by
 refine⟨by simp[hs.len],fun j x y a b=>?_⟩
 cases j with
 | zero =>
  simp only[List.getElem?_cons_zero,bKT.injEq] at a b
  subst a; subst b; exact h
 | succ j=>exact hs.at_ j x y (by simpa using a) (by simpa using b)
theorem aH.aEA {C:Ctx} {name:Nat} {R:PV→PH→Prop} {x y:PV} {s:Nat} (h:aH C name [x,y,.sl s []] .nil R):aH C name [x,y,.bGI] .nil R :=
 h.args (.lT (.refl _) (.lT (.refl _) (.lT (.nil s) .a7B)))
theorem aH.seen {C:Ctx} {name:Nat} {args:List PV} {H:PH} {v:PV} (h:aH C name args H (bP v)):aH C name args H (aD v) :=
 h.post fun r H' hr=>⟨v,hr.1,rfl,hr.2⟩
structure ZP (C:Ctx):Prop where
 at_:∀ f:aE,f.Ok→∀ d level:Int,aH C 147 [.agg f.cells,.int .i64 d,.int .i64 level] .nil (aD (.int .i64 (atP f d level)))
 child:∀ f:aE,f.Ok→∀ d:Int,aH C 148 [.agg f.cells,.int .i64 d] .nil (aD (ints (rH f d)))
 bGG:∀ f:aE,f.Ok→∀ d:Int,aH C 149 [.agg f.cells,.int .i64 d] .nil (aD (ints (mF f d)))
 holds:∀ (f:aE) (l:List (List Int)) (room:List Int),f.Ok→eQ l→aH C 150 [.agg f.cells,lay l,ints room] .nil (aD (.bool (oE f l room)))
 loads:∀ (f:aE) (l:List (List Int)),f.Ok→eQ l→aH C 151 [.agg f.cells,lay l] .nil (aD (ints (lH f l)))
 room:∀ (f:aE) (room:List Int),f.Ok→aH C 152 [.agg f.cells,ints room] .nil (aD (ints (lY f room)))
 shaped:∀ (f:aE) (l:List (List Int)),f.Ok→eQ l→aH C 153 [.agg f.cells,lay l] .nil (aD (.bool (qU f l)))
 viol:∀ (f:aE) (l:List (List Int)) (room:List Int),f.Ok→eQ l→aH C 154 [.agg f.cells,lay l,ints room] .nil (aD (lN (jG f l room)))
 fleet:∀ (l:List Nat),(∀ x∈l,x<256)→l.length≤9223372036854775807→∀ bGG bGJ:Nat,bGG≤60→bGJ≤50 →
  aH C 27 [.sl 1 (mV l),.int .i64 bGG,.int .i64 bGJ] .nil (aD (.agg (kK (l.take 400) bGG bGJ 0).1.cells))
def RL (x:RF):Bool:=(x.num.all (fun n=>decide (n<4294967296))&&x.den.all fun n=>decide (n<4294967296))&&(decide (x.num.length≤9)&&decide (x.den.length≤9))
theorem HO {x:RF} (h:RL x=true):x.Ok:=by
 simp only[RL,bJK,bJL,decide_eq_true_eq] at h
 exact⟨h.1.1,h.1.2,by omega,by omega⟩
def EA (l:List RF):Bool:=decide (l.length≤9)&&l.all RL
theorem zM {l:List RF} (h:EA l=true):gS l:=by
 simp only[EA,bJK,bJL,decide_eq_true_eq] at h
 exact⟨by unfold Fits; omega,fun x hx=>HO (h.2 x hx)⟩
def aEB (x:bZ):Bool:=(EA x.start&&EA x.exit)&&(decide (x.bGM.length≤9)&&x.bGM.all EA)
theorem bbR {x:bZ} (h:aEB x=true):x.Ok:=by
 simp only[aEB,bJK,bJL,decide_eq_true_eq] at h
 exact⟨zM h.1.1,zM h.1.2,by unfold Fits; omega,fun r hr=>zM (h.2.2 r hr)⟩
def aII (x:cF):Bool:=(decide (dA x.k∧dA x.m∧dA x.bHM)&&(decide (x.bGH.length≤9)&&x.bGH.all fun m=>decide (dA m)))&&(EA x.repair&&(RL x.target&&RL x.bGU))
theorem beK {x:cF} (h:aII x=true):x.Ok:=by
 simp only[aII,bJK,bJL,decide_eq_true_eq] at h
 exact⟨h.1.1.1,h.1.1.2.1,h.1.1.2.2,by unfold Fits; omega,h.1.2.2,zM h.2.1,HO h.2.2.1,HO h.2.2.2⟩
def okB (f:aE):Bool:=(decide (f.bGR.length≤99∧f.bGH.length≤99∧f.bGK.length≤99∧f.bGG.length≤99∧f.bGL.length≤99∧f.bGJ.length≤99)&&(f.bGR.all aEB&&f.bGL.all aII)) &&
 (f.bGK.all (fun x=>RL x.bHA&&decide (dA x.level∧dA x.parent))&&(f.bGG.all (fun x=>decide (dA x.model∧dA x.machine))&&f.bGJ.all fun x=>decide (dA x.bGW)))
theorem bwD {f:aE} (h:okB f=true):f.Ok:=by
 simp only[okB,bJK,bJL,decide_eq_true_eq] at h
 obtain⟨⟨⟨l1,l2,l3,l4,l5,l6⟩,h1,h2⟩,h3,h4,h5⟩:=h
 exact⟨by unfold Fits; omega,by unfold Fits; omega,by unfold Fits; omega,by unfold Fits; omega,by unfold Fits; omega,by unfold Fits; omega,fun x hx=>bbR (h1 x hx),fun x hx=>⟨HO (h3 x hx).1,(h3 x hx).2⟩,h4,fun x hx=>beK (h2 x hx),h5⟩
noncomputable def lJ:aE:={ (kK [] 1 0 0).1 with bGJ:=[⟨[118,48],0⟩] }
theorem sB:cU lJ=true:=by decide +kernel
theorem zS:lJ.Ok:=bwD (by decide +kernel)
theorem bcU {C:Ctx} (L:ZP C):AX.wp C (aR abS.res (aD (.agg lJ.cells))) (PF.args []) .nil:=by
 simp only[go_sem,δ,AX,anZ,abS]
 refine aO fun o0 h0=>?_
 simp only[go_sem,aoA]
 have h:=L.fleet [] (fun x hx=>by cases hx) (by decide) 1 0 (by decide) (by decide)
 refine aA (h.args (.lT (.nil 1) (.lT (.refl _) (.lT (.refl _) .a7B)))) rfl ?_
 simp only[go_sem,δ]
 refine aO fun o1 h1=>?_
 have n1:¬ o0=o1:=by
  intro e
  subst e
  rw[bA,if_pos rfl] at h1
  cases h1
 have n2:¬ o1=o0:=fun e=>n1 e.symm
 simp only[go_sem,δ,γ,reduceCtorEq,n1,n2]
 have h12:(1:Nat)*2≤16777216:=by decide
 simp only[go_sem,υ,δ,γ,η,θ,ζ,reduceCtorEq,aoB,h12,n1,n2,bJB,bJI,or_false,forall_eq,aoC]
 refine aM (.inr rfl) (vs:=[.agg lJ.cells]) ?_ rfl
 simp only[go_sem,δ,reduceCtorEq,n1,n2]
 rfl
theorem bmZ:atP lJ 0 4=4:=by
 unfold atP
 rw[if_pos ⟨sB,by decide,by decide +kernel,by decide,by decide⟩]
 decide +kernel
theorem aJI:mF lJ 0=[0]:=by
 unfold mF
 rw[if_pos ⟨sB,by decide,by decide +kernel⟩]
 decide +kernel
theorem a8E:(jG lJ [[-1]] []).map eT.cells=[[.int .i64 2,.int .i64 0,.int .i64 0]]:=by
 unfold jG
 rw[if_pos sB,if_pos (by decide +kernel)]
 rfl
theorem aSD:oE lJ [[0]] []=true:=by
 unfold oE jG
 rw[sB,if_pos rfl,if_pos (by decide +kernel)]
 decide +kernel
def DW:aE:=⟨0,[],[],[],[],[],[]⟩
theorem a7J:DW.Ok:=⟨by decide,by decide,by decide,by decide,by decide,by decide,(fun _ h=>by cases h),(fun _ h=>by cases h),(fun _ h=>by cases h),(fun _ h=>by cases h),(fun _ h=>by cases h)⟩
theorem axA:oE DW [] []=false:=rfl
theorem a7I:Co (.agg [.int .i64 0,.bGI,.bGI,.bGI,.bGI,.bGI,.bGI]) (.agg DW.cells):=by
 have:CoL [.int .i64 0,.bGI,.bGI,.bGI,.bGI,.bGI,.bGI] DW.cells :=
  .lT (.refl _) (.lT (.nil _) (.lT (.nil _) (.lT (.nil _) (.lT (.nil _) (.lT (.nil _) (.lT (.nil _) .a7B))))))
 exact .agg this.len this.at_
theorem AU {l:List (List Int)} (h:l.length≤16777216) (h2:l.flatten.length≤16777216):eQ l:=⟨h,h2⟩
theorem bbT {C:Ctx} (L:ZP C) (hs:aH C 23 [] .nil (aD (.agg lJ.cells))):AS.wp C (aR abO.res (aD (.bool true))) (PF.args []) .nil:=by
 simp only[go_sem,AS,anK,anL,abO]
 refine aA hs rfl ?_
 simp only[go_sem,δ]
 refine aO fun o1 h1=>?_
 have h12:(1:Nat)*1≤16777216:=by decide
 have hv:=L.viol lJ [[-1]] [] zS (AU (by decide) (by decide))
 have hh:=L.holds lJ [[0]] [] zS (AU (by decide) (by decide))
 have hn:=L.holds DW [] [] a7J (AU (by decide) (by decide))
 rw[aSD] at hh
 rw[axA] at hn
 rw[show lN (jG lJ [[-1]] [])=.sl 3 [[.int .i64 2,.int .i64 0,.int .i64 0]] from by unfold lN; rw[a8E]] at hv
 simp only[go_sem,ο,υ,δ,γ,η,ζ,reduceCtorEq,anM,h12]
 refine aA hv.aEA rfl ?_
 have c1:(((1:Nat):Int)==1)=true:=rfl
 have ha:=L.at_ lJ zS 0 4
 rw[bmZ] at ha
 have hd:=L.bGG lJ zS 0
 rw[aJI] at hd
 simp only[go_sem,ο,δ,γ,reduceCtorEq,anN]
 refine aA ha rfl ?_
 simp only[go_sem,ρ,ο,δ,γ,reduceCtorEq]
 refine aA hd rfl ?_
 simp only[go_sem,ρ,ο,ν,υ,δ,γ,η,θ,ζ,reduceCtorEq,h12,c1]
 refine aA hh.aEA rfl ?_
 simp only[go_sem,ο,γ,reduceCtorEq]
 refine aA (hn.args (.lT a7I (.lT (.nil 1) (.lT (.nil 1) .a7B)))) rfl ?_
 simp only[go_sem,ο,γ,reduceCtorEq]
 refine aM (.inr rfl) rfl ?_
 rfl
def auM:Rg:=[iZ 4]
def auN:Rg:=[iZ 5]
def auO:Rg:=[iA 6 (.mv (.const (.int .u64 0)))]
def auP:Rg:=[iI 7 0]
def auQ:Rg:=[iM 10 7,iM 11 0,iN 12 11,iB 13 .lss 10 12]
def auR:Rg:=[iM 16 6,iM 8 16]
def auS:Rg:=[iM 17 7,iM 18 1,iN 19 18,iB 20 .lss 17 19]
def auT:Rg:=[iM 21 8,iM 22 1,iM 23 7,iX 24 1 22 23,iL 25 24,iA 26 (.conv .u64 (Tm 25)),iB 27 .add 21 26,iM 8 27]
def PP:Rg:=[iM 28 0,iM 29 7,iX 30 1 28 29,iL 31 30,iA 32 (.conv .u64 (Tm 31)),iM 9 32]
def PQ:Rg:=[iA 6 (.mv (.const (.int .u64 0)))]
def IW:Rg:=[iM 33 9,iM 34 8,iB 35 .lss 33 34]
def IX:Rg:=[iM 36 9,iA 37 (.bin .add (Tm 36) (.const (.int .u64 4294967296))),iM 9 37]
def IY:Rg:=[iA 6 (.mv (.const (.int .u64 1)))]
def wH:Rg:=[iM 38 5,iM 39 9,iM 40 8,iB 41 .sub 39 40,iA 42 (.conv .u32 (Tm 41)),iA 43 (.bGN true 1 1 [(.int .u32 0)] [(0,(Tm 42))]),iA 44 (.append 1 4 (Tm 38) (Tm 43)),iM 5 44]
def wI:Rg:=[iM 14 7,iC 15 .add 14 1,iM 7 15]
def agI:aB:=(.seq (sq auQ (.cond (Tm 13) .skip (.exit 0))) (.seq (.block 1 (sq auR (.seq (sq auS (.cond (Tm 20) (.region auT) .skip)) (sq PP (sq PQ (.seq (sq IW (.cond (Tm 35) (sq IX (.region IY)) .skip)) (.region wH))))))) (.region wI)))
def agJ:Rg:=[iM 45 5,iK 46 38 45,iM 4 46]
def CU:aB:=(sq auM (sq auN (sq auO (.seq (sq auP (.block 0 (.loop agI))) (sq agJ .ret)))))
def bgX:List Nat:=[43]
def agH:aS:=⟨2,47,CU,[.tmp 4]⟩
def aNE:Rg:=[iZ 4]
def aNF:Rg:=[iZ 5]
def aNG:Rg:=[iA 6 (.mv (.const (.int .u64 0)))]
def aNH:Rg:=[iI 7 0]
def aNI:Rg:=[iM 9 7,iM 10 0,iN 11 10,iB 12 .lss 9 11,iM 13 12,gM 14 7 13 false,gM 15 1 13 false,gN 16 15 13 false,gB 17 .lss 14 16 13 false,iQ 18 13 17,iM 19 18,gM 20 6 19 false,iG 21 (.bin .gtr (Tm 20) (.const (.int .u64 0))) 19 false,iQ 22 19 21]
def YW:Rg:=[iM 25 6,iM 8 25]
def YX:Rg:=[iM 26 7,iM 27 0,iN 28 27,iB 29 .lss 26 28]
def YY:Rg:=[iM 30 8,iM 31 0,iM 32 7,iX 33 1 31 32,iL 34 33,iA 35 (.conv .u64 (Tm 34)),iB 36 .add 30 35,iM 8 36]
def JA:Rg:=[iM 37 7,iM 38 1,iN 39 38,iB 40 .lss 37 39]
def JB:Rg:=[iM 41 8,iM 42 1,iM 43 7,iX 44 1 42 43,iL 45 44,iA 46 (.conv .u64 (Tm 45)),iB 47 .add 41 46,iM 8 47]
def AE:Rg:=[iM 48 5,iM 49 8,iA 50 (.conv .u32 (Tm 49)),iA 51 (.bGN true 1 1 [(.int .u32 0)] [(0,(Tm 50))]),iA 52 (.append 1 4 (Tm 48) (Tm 51)),iM 5 52]
def AF:Rg:=[iM 53 8,iA 54 (.bin .shr (Tm 53) (.const (.int .u64 32))),iM 6 54]
def AG:Rg:=[iM 23 7,iC 24 .add 23 1,iM 7 24]
def auU:aB:=(.seq (sq aNI (.cond (Tm 22) .skip (.exit 0))) (.seq (.block 1 (sq YW (.seq (sq YX (.cond (Tm 29) (.region YY) .skip)) (.seq (sq JA (.cond (Tm 40) (.region JB) .skip)) (sq AE (.region AF)))))) (.region AG)))
def PU:Rg:=[iM 55 5,iK 56 38 55,iM 4 56]
def IZ:aB:=(sq aNE (sq aNF (sq aNG (.seq (sq aNH (.block 0 (.loop auU))) (sq PU .ret)))))
def boG:List Nat:=[51]
def ayJ:aS:=⟨2,57,IZ,[.tmp 4]⟩
def auV:Rg:=[iZ 4]
def auW:Rg:=[iM 10 0,iN 11 10,iM 12 1,iN 13 12,iB 14 .add 11 13,iA 15 (.bGS 1 4 [(.int .u32 0)] (Tm 14) (Tm 14)),iM 5 15]
def auX:Rg:=[iI 6 0]
def auY:Rg:=[iM 16 6,iM 17 0,iN 18 17,iB 19 .lss 16 18]
def PY:Rg:=[iA 7 (.mv (.const (.int .u64 0)))]
def PZ:Rg:=[iI 8 0]
def auZ:Rg:=[iM 22 8,iM 23 1,iN 24 23,iB 25 .lss 22 24]
def avA:Rd:=[(iM 28 0,false),(iM 29 6,false),(iX 30 1 28 29,false),(iL 31 30,false),(iA 32 (.conv .u64 (Tm 31)),false),(iM 33 1,false),(iM 34 8,false),(iX 35 1 33 34,false),(iL 36 35,false),(iA 37 (.conv .u64 (Tm 36)),false),(iB 38 .mul 32 37,false),(iM 39 5,false),(iM 40 6,false),(iM 41 8,false),(iB 42 .add 40 41,false),(iX 43 1 39 42,false),(iL 44 43,false),(iA 45 (.conv .u64 (Tm 44)),false),(iB 46 .add 38 45,false),(iM 47 7,false),(iB 48 .add 46 47,false),(iM 9 48,false)]
def avB:Rg:=[iM 49 5,iM 50 6,iM 51 8,iB 52 .add 50 51,iM 53 9,iA 54 (.conv .u32 (Tm 53)),iX 55 1 49 52,iS 1 55 54]
def avC:Rg:=[iM 56 9,iA 57 (.bin .shr (Tm 56) (.const (.int .u64 32))),iM 7 57]
def agM:Rg:=[iM 26 8,iC 27 .add 26 1,iM 8 27]
def JC:aB:=(.seq (sq auZ (.cond (Tm 25) .skip (.exit 2))) (.seq (.block 3 (dq avA (sq avB (.region avC)))) (.region agM)))
def JD:Rg:=[iM 58 5,iM 59 6,iM 60 1,iN 61 60,iB 62 .add 59 61,iM 63 7,iA 64 (.conv .u32 (Tm 63)),iX 65 1 58 62,iS 1 65 64]
def agN:Rg:=[iM 20 6,iC 21 .add 20 1,iM 6 21]
def agL:aB:=(.seq (sq auY (.cond (Tm 19) .skip (.exit 0))) (.seq (.block 1 (sq PY (.seq (sq PZ (.block 2 (.loop JC))) (.region JD)))) (.region agN)))
def agO:Rg:=[iM 66 5,iK 67 38 66,iM 4 67]
def CV:aB:=(sq auV (sq auW (.seq (sq auX (.block 0 (.loop agL))) (sq agO .ret))))
def bgZ:List Nat:=[]
def agK:aS:=⟨2,68,CV,[.tmp 4]⟩
def aZB:Rg:=[iZ 4,iI 5 0]
def aZC:Rg:=[iM 7 0,iK 8 41 7,iM 9 8,gM 10 1 9 false,gK 11 41 10 9 false,iQ 12 9 11]
def alX:Rg:=[iZ 4,iI 5 2]
def aZD:Rg:=[iM 13 0,iK 14 38 13,iM 15 1,iK 16 38 15,iK2 17 43 14 16,iM 6 17]
def aZE:Rg:=[iM 18 6,iK 19 41 18]
def aZF:Rg:=[iZ 4,iI 5 2]
def aZG:Rg:=[iM 20 6,iM 4 20,iI 5 0]
def PI:aB:=(sq aZB (.seq (sq aZC (.cond (Tm 12) (sq alX .ret) .skip)) (sq aZD (.seq (sq aZE (.cond (Tm 19) (sq aZF .ret) .skip)) (sq aZG .ret)))))
def btR:List Nat:=[]
def a8P:aS:=⟨2,21,PI,[.tmp 4,.tmp 5]⟩
def a0L:Rg:=[iZ 4,iI 5 0]
def a0M:Rg:=[iM 6 0,iK 7 41 6,iM 8 7,gM 9 1 8 false,gK 10 41 9 8 false,iQ 11 8 10]
def amB:Rg:=[iZ 4,iI 5 2]
def a0N:Rg:=[iM 12 0,iM 13 1,iK2 14 32 12 13,iC 15 .lss 14 0]
def a0O:Rg:=[iZ 4,iI 5 4]
def a0P:Rg:=[iM 16 0,iK 17 38 16,iM 18 1,iK 19 38 18,iK2 20 42 17 19,iM 4 20,iI 5 0]
def PX:aB:=(sq a0L (.seq (sq a0M (.cond (Tm 11) (sq amB .ret) .skip)) (.seq (sq a0N (.cond (Tm 15) (sq a0O .ret) .skip)) (sq a0P .ret))))
def buD:List Nat:=[]
def a8Z:aS:=⟨2,21,PX,[.tmp 4,.tmp 5]⟩
def a0F:Rg:=[iZ 4,iI 5 0]
def a0G:Rg:=[iM 7 0,iK 8 41 7,iM 9 8,gM 10 1 9 false,gK 11 41 10 9 false,iQ 12 9 11]
def amA:Rg:=[iZ 4,iI 5 2]
def a0H:Rg:=[iM 13 0,iK 14 38 13,iM 15 1,iK 16 38 15,iK2 17 44 14 16,iM 6 17]
def a0I:Rg:=[iM 18 6,iK 19 41 18]
def a0J:Rg:=[iZ 4,iI 5 2]
def a0K:Rg:=[iM 20 6,iM 4 20,iI 5 0]
def PR:aB:=(sq a0F (.seq (sq a0G (.cond (Tm 12) (sq amA .ret) .skip)) (sq a0H (.seq (sq a0I (.cond (Tm 19) (sq a0J .ret) .skip)) (sq a0K .ret)))))
def btZ:List Nat:=[]
def a8X:aS:=⟨2,21,PR,[.tmp 4,.tmp 5]⟩
def aME:Rg:=[iI 2 0]
def aMF:Rg:=[iM 5 0,iK 6 38 5,iM 0 6]
def aMG:Rg:=[iM 7 0,iN 8 7,iC 9 .eql 8 0]
def aMH:Rg:=[iI 2 0]
def aMI:Rg:=[iM 10 0,iN 11 10,iC 12 .sub 11 1,iA 13 (.bin .mul (Ci 32) (Tm 12)),iM 3 13]
def aMJ:Rg:=[iM 14 0,iM 15 0,iN 16 15,iC 17 .sub 16 1,iX 18 1 14 17,iL 19 18,iM 4 19]
def aMK:Rg:=[iM 20 4,iA 21 (.bin .gtr (Tm 20) (.const (.int .u32 0)))]
def aML:Rg:=[iM 24 3,iC 25 .add 24 1,iM 3 25]
def aMM:Rg:=[iM 22 4,iA 23 (.bin .quo (Tm 22) (.const (.int .u32 2))),iM 4 23]
def aMD:aB:=(.seq (sq aMK (.cond (Tm 21) .skip (.exit 0))) (.seq (.block 1 (.region aML)) (.region aMM)))
def auH:Rg:=[iM 26 3,iM 2 26]
def IQ:aB:=(sq aME (sq aMF (.seq (sq aMG (.cond (Tm 9) (sq aMH .ret) .skip)) (sq aMI (.seq (sq aMJ (.block 0 (.loop aMD))) (sq auH .ret))))))
def bnU:List Nat:=[]
def ayG:aS:=⟨1,27,IQ,[.tmp 2]⟩
def bhA:Rg:=[iZ 4]
def bhB:Rg:=[iM 9 0,iN 10 9,iC 11 .eql 10 0]
def bhC:Rg:=[iZ 4]
def bhD:Rg:=[iM 12 1,iC 13 .quo 12 32,iA 14 (.bGS 1 4 [(.int .u32 0)] (Tm 13) (Tm 13)),iM 5 14]
def bhE:Rg:=[iA 6 (.mv (.const (.int .u64 0)))]
def bhF:Rg:=[iI 7 0]
def bhG:Rg:=[iM 15 7,iM 16 0,iN 17 16,iB 18 .lss 15 17]
def bhH:Rg:=[iM 21 0,iM 22 7,iX 23 1 21 22,iL 24 23,iA 25 (.conv .u64 (Tm 24)),iM 26 1,iC 27 .rem 26 32,iA 28 (.conv .u64 (Tm 27)),iB 29 .shl 25 28,iM 30 6,iB 31 .or 29 30,iM 8 31]
def bhI:Rg:=[iM 32 5,iM 33 8,iA 34 (.conv .u32 (Tm 33)),iA 35 (.bGN true 1 1 [(.int .u32 0)] [(0,(Tm 34))]),iA 36 (.append 1 4 (Tm 32) (Tm 35)),iM 5 36]
def bhJ:Rg:=[iM 37 8,iA 38 (.bin .shr (Tm 37) (.const (.int .u64 32))),iM 6 38]
def a0R:Rg:=[iM 19 7,iC 20 .add 19 1,iM 7 20]
def a0Q:aB:=(.seq (sq bhG (.cond (Tm 18) .skip (.exit 0))) (.seq (.block 1 (sq bhH (sq bhI (.region bhJ)))) (.region a0R)))
def a0S:Rg:=[iM 39 5,iM 40 6,iA 41 (.conv .u32 (Tm 40)),iA 42 (.bGN true 1 1 [(.int .u32 0)] [(0,(Tm 41))]),iA 43 (.append 1 4 (Tm 39) (Tm 42)),iK 44 38 43,iM 4 44]
def ZA:aB:=(sq bhA (.seq (sq bhB (.cond (Tm 11) (sq bhC .ret) .skip)) (sq bhD (sq bhE (.seq (sq bhF (.block 0 (.loop a0Q))) (sq a0S .ret))))))
def bwW:List Nat:=[35,42]
def uup:aS:=⟨2,45,ZA,[.tmp 4]⟩
def aMS:Rg:=[iZ 4]
def aMT:Rg:=[iM 8 1,iC 9 .quo 8 32,iM 10 0,iN 11 10,iB 12 .geq 9 11]
def aMU:Rg:=[iZ 4]
def aMV:Rg:=[iZ 5]
def aMW:Rg:=[iM 13 1,iC 14 .quo 13 32,iM 6 14]
def aMX:Rg:=[iM 15 6,iM 16 0,iN 17 16,iB 18 .lss 15 17]
def aMY:Rg:=[iM 21 0,iM 22 6,iX 23 1 21 22,iL 24 23,iA 25 (.conv .u64 (Tm 24)),iM 7 25]
def aMZ:Rg:=[iM 26 6,iC 27 .add 26 1,iM 28 0,iN 29 28,iB 30 .lss 27 29]
def aNA:Rg:=[iM 31 7,iM 32 0,iM 33 6,iC 34 .add 33 1,iX 35 1 32 34,iL 36 35,iA 37 (.conv .u64 (Tm 36)),iA 38 (.bin .shl (Tm 37) (.const (.int .u64 32))),iB 39 .or 31 38,iM 7 39]
def YV:Rg:=[iM 40 5,iM 41 7,iM 42 1,iC 43 .rem 42 32,iA 44 (.conv .u64 (Tm 43)),iB 45 .shr 41 44,iA 46 (.conv .u32 (Tm 45)),iA 47 (.bGN true 1 1 [(.int .u32 0)] [(0,(Tm 46))]),iA 48 (.append 1 4 (Tm 40) (Tm 47)),iM 5 48]
def PN:Rg:=[iM 19 6,iC 20 .add 19 1,iM 6 20]
def auI:aB:=(.seq (sq aMX (.cond (Tm 18) .skip (.exit 0))) (.seq (.block 1 (sq aMY (.seq (sq aMZ (.cond (Tm 30) (.region aNA) .skip)) (.region YV)))) (.region PN)))
def auJ:Rg:=[iM 49 5,iK 50 38 49,iM 4 50]
def IU:aB:=(sq aMS (.seq (sq aMT (.cond (Tm 12) (sq aMU .ret) .skip)) (sq aMV (.seq (sq aMW (.block 0 (.loop auI))) (sq auJ .ret)))))
def bnY:List Nat:=[47]
def ayH:aS:=⟨2,51,IU,[.tmp 4]⟩
def avU:Rg:=[iA 1 (.box true (Tm 0)),iT 2 false]
def avV:Rg:=[iF 3 2 1,iL 4 3,iK 5 38 4,iN 6 5,iC 7 .gtr 6 0,iM 8 7,gF 9 2 1 8 true,gL 10 9 8 true,gK 11 38 10 8 true,gN 12 11 8 true,gC 13 .leq 12 128 8 true,iP 14 8 13,iM 15 14,gF 16 1 1 15 true,gL 17 16 15 true,gK 18 38 17 15 true,gN 19 18 15 true,gC 20 .leq 19 128 15 true,iP 21 15 20,iM 2 21]
def CZ:aB:=(sq avU (sq avV .ret))
def bhU:List Nat:=[1]
def ahF:aS:=⟨1,22,CZ,[.tmp 2]⟩
def avF:Rg:=[iA 1 (.box true (Tm 0)),iT 2 false]
def avG:Rg:=[iF 3 1 1,iL 4 3,iN 5 4,iC 6 .gtr 5 128,iM 7 6,gF 8 2 1 7 false,gL 9 8 7 false,gN 10 9 7 false,gC 11 .gtr 10 128 7 false,iQ 12 7 11,iM 2 12]
def CW:aB:=(sq avF (sq avG .ret))
def bhO:List Nat:=[1]
def agQ:aS:=⟨1,13,CW,[.tmp 2]⟩
def aNS:Rg:=[iA 1 (.box true (Tm 0)),iA 2 (.alloc [(.bool false),.bGI,.bGI]),iI 3 0]
def aNT:Rg:=[iO 4 3 1,iK 5 48 4]
def aNU:Rg:=[iA 6 (.build [(.bool false),.bGI,.bGI] []),iS 3 2 6,iI 3 2]
def aNV:Rg:=[iO 7 3 1,iS 3 2 7,iI 3 0]
def JG:aB:=(sq aNS (.seq (sq aNT (.cond (Tm 5) (sq aNU .ret) .skip)) (sq aNV .ret)))
def boM:List Nat:=[1]
def ayQ:aS:=⟨1,8,JG,[.cell 2 (some 3),.tmp 3]⟩
def ahA:Rg:=[iA 1 (.box true (Tm 0)),iA 2 (.alloc [(.bool false),.bGI,.bGI]),iI 3 0]
def ahB:Rg:=[iO 4 3 1,iK 5 56 4,iA 6 (.un .not (Tm 5))]
def ahC:Rg:=[iA 7 (.build [(.bool false),.bGI,.bGI] []),iS 3 2 7,iI 3 1]
def ahD:Rg:=[iF 8 0 1,iL 9 8,iF 10 1 1,iL 11 10,iF 12 2 1,iL 13 12,iA 14 (.call 58 [(Tm 9),(Tm 11),(Tm 13)]),iS 3 2 14,iI 3 0]
def yR:aB:=(sq ahA (.seq (sq ahB (.cond (Tm 6) (sq ahC .ret) .skip)) (sq ahD .ret)))
def a9J:List Nat:=[1]
def RW:aS:=⟨1,15,yR,[.cell 2 (some 3),.tmp 3]⟩
def avR:Rg:=[iZ 4]
def avS:Rg:=[iM 8 0,iM 9 1,iK2 10 36 8 9,iM 7 10,iE 11 7 0,iE 12 7 1,iM 5 11,iM 6 12]
def avT:Rg:=[iM 13 5,iM 4 13]
def CY:aB:=(sq avR (sq avS (sq avT .ret)))
def bhS:List Nat:=[]
def ahE:aS:=⟨2,14,CY,[.tmp 4]⟩
def avH:Rg:=[iA 2 (.box true (Tm 0)),iA 3 (.box true (Tm 1)),iI 4 0]
def avI:Rd:=[(iF 9 1 2,false),(iL 10 9,false),(iF 11 2 3,false),(iL 12 11,false),(iK2 13 60 10 12,true),(iF 14 1 3,true),(iL 15 14,true),(iF 16 2 2,true),(iL 17 16,true),(iK2 18 60 15 17,true),(iM 5 13,false),(iM 6 18,false)]
def avJ:Rg:=[iF 19 0 2,iL 20 19,iM 21 20,gM 22 5 21 true,gN 23 22 21 true,gC 24 .gtr 23 0 21 true,iP 25 21 24,iF 26 0 3,iL 27 26,iM 28 27,gM 29 6 28 true,gN 30 29 28 true,gC 31 .gtr 30 0 28 true,iP 32 28 31,iM 7 25,iM 8 32]
def avK:Rg:=[iM 34 7,iM 35 34,gM 36 8 35 true,iG 37 (.un .not (Tm 36)) 35 true,iP 38 35 37,iM 33 38]
def avL:Rg:=[iI 4 (-1)]
def avM:Rg:=[iM 40 8,iM 41 40,gM 42 7 41 true,iG 43 (.un .not (Tm 42)) 41 true,iP 44 41 43,iM 39 44]
def avN:Rg:=[iI 4 1]
def avO:Rg:=[iM 46 7,iM 45 46]
def avP:Rg:=[iM 47 6,iM 48 5,iK2 49 32 47 48,iM 4 49]
def avQ:Rg:=[iM 50 5,iM 51 6,iK2 52 32 50 51,iM 4 52]
def CX:aB:=(sq avH (dq avI (sq avJ (.seq (.block 0 (sq avK (.cond (Tm 33) (sq avL .ret) (sq avM (.cond (Tm 39) (sq avN .ret) (sq avO (.cond (Tm 45) (sq avP .ret) .skip))))))) (sq avQ .ret)))))
def bhQ:List Nat:=[2,3]
def agZ:aS:=⟨2,53,CX,[.tmp 4]⟩
def aNW:Rg:=[iA 2 (.box true (Tm 0)),iA 3 (.box true (Tm 1)),iT 4 false]
def aNX:Rg:=[iO 5 3 2,iO 6 3 3,iK2 7 51 5 6,iC 8 .lss 7 0,iM 4 8]
def JH:aB:=(sq aNW (sq aNX .ret))
def boP:List Nat:=[2,3]
def ayR:aS:=⟨2,9,JH,[.tmp 4]⟩
def aOD:Rg:=[iA 2 (.box true (Tm 0)),iA 3 (.box true (Tm 1)),iT 4 false]
def aOE:Rg:=[iO 5 3 2,iO 6 3 3,iK2 7 51 5 6,iC 8 .eql 7 0,iM 4 8]
def JL:aB:=(sq aOD (sq aOE .ret))
def boT:List Nat:=[2,3]
def ayT:aS:=⟨2,9,JL,[.tmp 4]⟩
def aOF:Rg:=[iA 1 (.box true (Tm 0)),iI 2 0]
def aOG:Rd:=[(iO 3 3 1,true),(iA 4 (.call 47 [(Ci 0)]),true),(iK2 5 51 3 4,true),(iM 2 5,false)]
def JM:aB:=(sq aOF (dq aOG .ret))
def boV:List Nat:=[1]
def ayU:aS:=⟨1,6,JM,[.tmp 2]⟩
def a0T:Rg:=[iA 2 (.box true (Tm 0)),iA 3 (.box true (Tm 1)),iA 4 (.alloc [(.bool false),.bGI,.bGI]),iI 5 0]
def a0U:Rg:=[iO 15 3 2,iK 16 56 15,iA 17 (.un .not (Tm 16)),iM 18 17,gO 19 3 3 18 false,gK 20 56 19 18 false,iG 21 (.un .not (Tm 20)) 18 false,iQ 22 18 21]
def amC:Rg:=[iA 23 (.build [(.bool false),.bGI,.bGI] []),iS 3 4 23,iI 5 1]
def a0V:Rd:=[(iF 24 1 2,false),(iL 25 24,false),(iF 26 2 3,false),(iL 27 26,false),(iK2 28 60 25 27,true),(iF 29 1 3,true),(iL 30 29,true),(iF 31 2 2,true),(iL 32 31,true),(iK2 33 60 30 32,true),(iF 34 2 2,true),(iL 35 34,true),(iF 36 2 3,true),(iL 37 36,true),(iK2 38 60 35 37,true),(iM 6 28,false),(iM 7 33,false),(iM 8 38,false)]
def a0W:Rg:=[iF 39 0 2,iL 40 39,iF 41 0 3,iL 42 41,iA 43 (.eqb false (Tm 40) (Tm 42))]
def a0X:Rg:=[iM 45 6,iM 46 7,iK2 47 30 45 46,iM 44 47,iE 48 44 0,iE 49 44 1,iM 9 48,iM 10 49]
def a0Y:Rg:=[iF 50 0 2,iL 51 50,iM 52 9,iM 53 8,iA 54 (.call 58 [(Tm 51),(Tm 52),(Tm 53)]),iK 55 57 54,iE 56 55 0,iE 57 55 1,iS 3 4 56,iM 5 57]
def a0Z:Rg:=[iM 58 6,iM 59 7,iK2 60 32 58 59,iC 61 .geq 60 0]
def a1A:Rg:=[iM 63 6,iM 64 7,iK2 65 37 63 64,iM 62 65,iE 66 62 0,iE 67 62 1,iM 11 66,iM 12 67]
def a1B:Rg:=[iF 68 0 2,iL 69 68,iM 70 11,iM 71 8,iA 72 (.call 58 [(Tm 69),(Tm 70),(Tm 71)]),iK 73 57 72,iE 74 73 0,iE 75 73 1,iS 3 4 74,iM 5 75]
def aNP:Rg:=[iM 77 7,iM 78 6,iK2 79 37 77 78,iM 76 79,iE 80 76 0,iE 81 76 1,iM 13 80,iM 14 81]
def aNQ:Rg:=[iF 82 0 3,iL 83 82,iM 84 13,iM 85 8,iA 86 (.call 58 [(Tm 83),(Tm 84),(Tm 85)]),iK 87 57 86,iE 88 87 0,iE 89 87 1,iS 3 4 88,iM 5 89]
def AH:aB:=(sq a0T (.seq (sq a0U (.cond (Tm 22) (sq amC .ret) .skip)) (dq a0V (.seq (sq a0W (.cond (Tm 43) (sq a0X (sq a0Y .ret)) .skip)) (.seq (sq a0Z (.cond (Tm 61) (sq a1A (sq a1B .ret)) .skip)) (sq aNP (sq aNQ .ret)))))))
def buF:List Nat:=[2,3]
def aNO:aS:=⟨2,90,AH,[.cell 4 (some 3),.tmp 5]⟩
def a1H:Rg:=[iA 2 (.alloc [(.bool false),.bGI,.bGI]),iI 3 0]
def a1I:Rg:=[iA 8 (.call 47 [(Ci 0)]),iA 4 (.alloc [(.bool false),.bGI,.bGI]),iS 3 4 8]
def a1J:Rg:=[iI 5 0]
def a1K:Rg:=[iM 9 5,iM 10 0,iN 11 10,iB 12 .lss 9 11]
def a1L:Rd:=[(iO 16 3 4,false),(iM 17 0,false),(iM 18 5,false),(iX 19 3 17 18,false),(iO 20 3 19,false),(iK2 21 46 16 20,true),(iM 15 21,false),(iE 22 15 0,false),(iE 23 15 1,true),(iA 6 (.alloc [(.bool false),.bGI,.bGI]),true),(iS 3 6 22,true),(iM 7 23,false)]
def amE:Rg:=[iM 24 7,iC 25 .neq 24 0]
def a1M:Rg:=[iA 26 (.build [(.bool false),.bGI,.bGI] []),iM 27 7,iS 3 2 26,iM 3 27]
def a1N:Rg:=[iO 28 3 6,iS 3 4 28]
def a1O:Rg:=[iM 13 5,iC 14 .add 13 1,iM 5 14]
def a1G:aB:=(.seq (sq a1K (.cond (Tm 12) .skip (.exit 0))) (.seq (.block 1 (dq a1L (.seq (sq amE (.cond (Tm 25) (sq a1M .ret) .skip)) (.region a1N)))) (.region a1O)))
def aOL:Rg:=[iO 29 3 4,iS 3 2 29,iI 3 0]
def QD:aB:=(sq a1H (sq a1I (.seq (sq a1J (.block 0 (.loop a1G))) (sq aOL .ret))))
def buK:List Nat:=[]
def a9K:aS:=⟨1,30,QD,[.cell 2 (some 3),.tmp 3]⟩
def tF:Rg:=[iT 4 false]
def tG:Rg:=[iM 5 0,iC 6 .geq 5 1,iM 7 6,gM 8 0 7 true,gC 9 .leq 8 6 7 true,iP 10 7 9,iM 11 10,gM 12 1 11 true,gC 13 .geq 12 0 11 true,iP 14 11 13,iM 15 14,gM 16 1 15 true,gC 17 .leq 16 4 15 true,iP 18 15 17,iM 19 18,gM 20 0 19 true,gM 21 1 19 true,gB 22 .add 20 21 19 true,gC 23 .leq 22 8 19 true,iP 24 19 23,iM 4 24]
def mU:aB:=(sq tF (sq tG .ret))
def bmW:List Nat:=[]
def zN:aS:=⟨2,25,mU,[.tmp 4]⟩
def ahS:Rg:=[iT 2 false]
def ahT:Rg:=[iM 3 0,iA 4 (.bin .geq (Tm 3) (.const (.int .u8 97))),iM 5 4,gM 6 0 5 true,iG 7 (.bin .leq (Tm 6) (.const (.int .u8 122))) 5 true,iP 8 5 7,iM 9 8,gM 10 0 9 false,iG 11 (.bin .geq (Tm 10) (.const (.int .u8 65))) 9 false,gM 12 11 9 false,gM 13 0 12 true,iG 14 (.bin .leq (Tm 13) (.const (.int .u8 90))) 12 true,iG 15 (.pick (Tm 12) (Tm 14) (.const (.bool false))) 9 false,iQ 16 9 15,iM 2 16]
def yU:aB:=(sq ahS (sq ahT .ret))
def a9Q:List Nat:=[]
def RZ:aS:=⟨1,17,yU,[.tmp 2]⟩
def avW:Rg:=[iT 2 false]
def avX:Rg:=[iM 3 0,iA 4 (.bin .geq (Tm 3) (.const (.int .u8 48))),iM 5 4,gM 6 0 5 true,iG 7 (.bin .leq (Tm 6) (.const (.int .u8 57))) 5 true,iP 8 5 7,iM 2 8]
def DB:aB:=(sq avW (sq avX .ret))
def bhW:List Nat:=[]
def ahG:aS:=⟨1,9,DB,[.tmp 2]⟩
def ahH:Rg:=[iT 2 false]
def ahI:Rg:=[iM 3 0,iK 4 65 3,iM 5 4,gM 6 0 5 false,gK 7 63 6 5 false,iQ 8 5 7,iM 9 8,gM 10 0 9 false,iG 11 (.bin .eql (Tm 10) (.const (.int .u8 45))) 9 false,iQ 12 9 11,iM 13 12,gM 14 0 13 false,iG 15 (.bin .eql (Tm 14) (.const (.int .u8 46))) 13 false,iQ 16 13 15,iM 2 16]
def yS:aB:=(sq ahH (sq ahI .ret))
def a9M:List Nat:=[]
def RX:aS:=⟨1,17,yS,[.tmp 2]⟩
def ahK:Rg:=[iT 2 false]
def ahL:Rg:=[iM 4 0,iA 5 (.bHQ (Tm 4)),iC 6 .lss 5 1,iM 7 6,gM 8 0 7 false,iG 9 (.bHQ (Tm 8)) 7 false,gC 10 .gtr 9 16 7 false,iQ 11 7 10,iM 12 11,gM 13 0 12 false,iG 14 (.bHR (Tm 13) (Ci 0)) 12 false,gK 15 65 14 12 false,iG 16 (.un .not (Tm 15)) 12 false,iQ 17 12 16]
def wL:Rg:=[iT 2 false]
def ahM:Rg:=[iI 3 0]
def ahN:Rg:=[iM 18 3,iM 19 0,iA 20 (.bHQ (Tm 19)),iB 21 .lss 18 20]
def ahO:Rg:=[iM 24 0,iM 25 3,iA 26 (.bHR (Tm 24) (Tm 25)),iK 27 64 26,iA 28 (.un .not (Tm 27))]
def ahP:Rg:=[iT 2 false]
def ahQ:Rg:=[iM 22 3,iC 23 .add 22 1,iM 3 23]
def ahJ:aB:=(.seq (sq ahN (.cond (Tm 21) .skip (.exit 0))) (.seq (.block 1 (sq ahO (.cond (Tm 28) (sq ahP .ret) .skip))) (.region ahQ)))
def ahR:Rg:=[iT 2 true]
def yT:aB:=(sq ahK (.seq (sq ahL (.cond (Tm 17) (sq wL .ret) .skip)) (.seq (sq ahM (.block 0 (.loop ahJ))) (sq ahR .ret))))
def a9O:List Nat:=[]
def RY:aS:=⟨1,29,yT,[.tmp 2]⟩
theorem oY (P:List Nat) (v:Nat):aK P++[[.int .u32 (v:Int)]]=aK (P++[v]):=by simp[aK]
theorem oX {P:List Nat} (h:P.length≤35184372087808):roomFor (aK P).length 1 4:=by
 unfold roomFor
 rw[bT]
 simp only[maxLen]; omega
def RU (a b:List Nat) (v:PV) (c i:Nat):PF:=(((((PF.nil.set 0 (aI a)).set 1 (aI b)).set 5 (v)).set 6 (.int .u64 c)).set 7 (.int .i64 i))
theorem bgW {C:Ctx} (L:oP C) (a b:List Nat) (ha:Lim a) (hb:Lim b) (hle:val b≤val a) (hl:b.length≤a.length) (h1:a.length≤35184372087808) :
  CU.wp C (aR agH.res (bP (aI (aG (val a-val b))))) (PF.args [aI a,aI b]) .nil:=by
 simp only[go_sem,CU,auM,auN,auO,auP,agH]
 refine wp_loop (α:=List Nat × Nat × PV × PH) (fun s=>RU a b s.2.2.1 s.2.1 s.1.length) (fun s=>s.2.2.2)
  (fun s=>s.1.length≤a.length∧Lim s.1∧s.2.1≤1∧val (a.take s.1.length)+4294967296 ^ s.1.length*s.2.1=val s.1+val (b.take s.1.length)∧aX s.2.2.2 1 s.2.2.1 (aK s.1)) (fun s=>a.length-s.1.length) ([],0,.bGI,.nil) ⟨by simp,by simp[Lim],by simp,by simp[val],.nil⟩ ?_ PH.nil_le ?_
 ·unfold RU
  exact Lq
 rintro⟨P,c,v,H0⟩ ⟨hP,bHF,hc,bHB,hO⟩
 simp only at hP bHF hc bHB hO ⊢
 simp only[go_sem,γ,reduceCtorEq,agI,auQ,RU]
 by_cases c1:P.length<a.length
 ·have c1':(P.length:Int)<(a.length:Nat):=by omega
  have hai:=ha _ (bIS c1)
  have hta:=bW a c1
  have hac:(aK a)[P.length]?=some [.int .u32 ((a[P.length]:Nat):Int)]:=bN a c1
  generalize hx:a[P.length]=x at *
  have ex:IntKind.u64.wrap ((x:Nat):Int)=((x:Nat):Int):=bE Om
  have fin:∀ (t:Nat) (F':PF),t<4294967296→val (b.take (P.length+1))=val (b.take P.length)+4294967296 ^ P.length*t →
    F' 0=some (aI a)→F' 1=some (aI b)→F' 5=some v→F' 8=some (.int .u64 (c+t:Nat))→F' 7=some (.int .i64 P.length) →
    ∀ K:bX,(∀ P' c' v' F2 H2,P'.length=P.length+1→Lim P'→c'≤1→val (a.take (P.length+1))+4294967296 ^ P'.length*c'=val P'+val (b.take (P.length+1))→(RU a b v' c' P'.length).le F2→aX H2 1 v' (aK P')→K .normal F2 H2) →
    aB.wp C (.seq (.region PP) (.seq (.region PQ) (.seq (.seq (.region IW) (.cond (.tmp 35) (.seq (.region IX) (.region IY)) .skip)) (.region wH)))) (dJ 1 (hC C (aB.wp C (.region wI)) K)) F' H0:=by
   intro t F' ht htb g0 g1 g5 g8 g7 K hK
   have step:∀ (d c':Nat),d<4294967296→c'≤1→x+4294967296*c'=d+(c+t)→val (a.take (P.length+1))+4294967296 ^ (P.length+1)*c'=val (P++[d])+val (b.take (P.length+1)):=by
    intro d c' hd hc' he
    have h2:4294967296 ^ P.length*(x+4294967296*c')=4294967296 ^ P.length*(d+(c+t)):=by rw[he]
    rw[bJA,bJA,bJA] at h2
    rw[iY,bKB,bJH,hta,htb]
    omega
   simp only[go_sem,γ,PP,g0,g7,hac,ex,PQ,IW,g8]
   by_cases c2:x<c+t
   ·have c2':((x:Nat):Int)<((c+t:Nat):Int):=by omega
    have e1:IntKind.u64.wrap ((x:Int)+4294967296)=((x+4294967296:Nat):Int):=by
     rw[show (x:Int)+4294967296=((x+4294967296:Nat):Int) by omega]
     exact bE Om
    have e2:IntKind.u64.wrap (((x+4294967296:Nat):Int)-((c+t:Nat):Int))=((x+4294967296-(c+t):Nat):Int):=by
     rw[show ((x+4294967296:Nat):Int)-((c+t:Nat):Int)=((x+4294967296-(c+t):Nat):Int) by omega]
     exact bE Om
    have e3:IntKind.u32.wrap ((x+4294967296-(c+t):Nat):Int)=((x+4294967296-(c+t):Nat):Int):=by
     rw[cA,bJT Om]
    have hb1:(1:Nat)*1≤16777216:=by decide
    simp only[go_sem,υ,γ,η,ζ,c2',IX,e1,IY,wH,g5,g8,e2,e3,hb1]
    refine cX (src:=[[.int .u32 ((x+4294967296-(c+t):Nat):Int)]]) hO rfl (oX Om) fun v' H' hO' _=>?_
    rw[oY] at hO'
    simp only[go_sem,γ,wI,g7,cS (Om:P.length<9223372036854775807)]
    refine hK _ 1 v' _ H' (by simp) (bHF.app fun y hy=>by simp at hy; subst hy; omega) (bIU _) ?_ ?_ hO'
    ·rw[bIQ,bIX]
     exact step _ 1 Om (bIU _) Om
    ·unfold RU
     rw[bIQ,bIX]
     exact Lq
   ·have c2':¬ ((x:Nat):Int)<((c+t:Nat):Int):=by omega
    have e2:IntKind.u64.wrap (((x:Nat):Int)-((c+t:Nat):Int))=((x-(c+t):Nat):Int):=by
     rw[show ((x:Nat):Int)-((c+t:Nat):Int)=((x-(c+t):Nat):Int) by omega]
     exact bE Om
    have e3:IntKind.u32.wrap ((x-(c+t):Nat):Int)=((x-(c+t):Nat):Int):=by
     rw[cA,bJT Om]
    have hb1:(1:Nat)*1≤16777216:=by decide
    simp only[go_sem,υ,γ,η,ζ,c2',wH,g5,g8,e2,e3,hb1]
    refine cX (src:=[[.int .u32 ((x-(c+t):Nat):Int)]]) hO rfl (oX Om) fun v' H' hO' _=>?_
    rw[oY] at hO'
    simp only[go_sem,γ,wI,g7,cS (Om:P.length<9223372036854775807)]
    refine hK _ 0 v' _ H' (by simp) (bHF.app fun y hy=>by simp at hy; subst hy; omega) (by decide) ?_ ?_ hO'
    ·rw[bIQ,bIX]
     exact step _ 0 Om (by decide) Om
    ·unfold RU
     rw[bIQ,bIX]
     exact Lq
  simp only[aB.wp,go_sem] at fin
  simp only[go_sem,γ,reduceCtorEq,c1',auR,auS]
  by_cases c3:P.length<b.length
  ·have c3':(P.length:Int)<(b.length:Nat):=by omega
   have hbi:=hb _ (bIS c3)
   have htb:=bW b c3
   have eb:IntKind.u64.wrap ((b[P.length]:Nat):Int)=((b[P.length]:Nat):Int):=bE Om
   have es:IntKind.u64.wrap ((c:Int)+(b[P.length]:Int))=((c+b[P.length]:Nat):Int):=eN Om
   simp only[go_sem,γ,reduceCtorEq,c3',auT,bN b c3,eb,es]
   refine fin b[P.length] _ hbi htb rfl rfl rfl rfl rfl _ ?_
   intro P' c' v' F2 H2 e1 e2 e3 e4 e5 e6
   rw[← e1] at e4
   exact aC (α:=List Nat × Nat × PV × PH) (P',c',v',H2) ⟨by simp only; omega,e2,e3,e4,e6⟩ (by simp only; omega) e5 PH.le_refl
  ·have c3':¬ (P.length:Int)<(b.length:Nat):=by omega
   have htb:val (b.take (P.length+1))=val (b.take P.length)+4294967296 ^ P.length*0:=by rw[bJD Om,bJD Om]; simp
   simp only[go_sem,c3']
   refine fin 0 _ (by decide) htb rfl rfl rfl rfl rfl _ ?_
   intro P' c' v' F2 H2 e1 e2 e3 e4 e5 e6
   rw[← e1] at e4
   exact aC (α:=List Nat × Nat × PV × PH) (P',c',v',H2) ⟨by simp only; omega,e2,e3,e4,e6⟩ (by simp only; omega) e5 PH.le_refl
 ·have e:P.length=a.length:=by omega
  have c1':¬ (P.length:Int)<(a.length:Nat):=by omega
  have hV:val P=val a-val b:=by
   rw[e,bJN,bJD hl] at bHB
   have hlt:=eM bHF
   rw[e] at hlt
   rcases bKN c with h | h
   ·subst h; omega
   ·have:c=1:=by omega
    subst this; omega
  simp only[go_sem,γ,reduceCtorEq,c1',agJ]
  have hs:=L.trim _ bHF Om
  rw[hV] at hs
  refine sF hs hO rfl fun F1 H1 _=>?_
  simp only[go_sem]
  exact aV (.inr rfl) .nil rfl PH.nil_le ⟨.refl _,rfl⟩
def qI (a b:List Nat) (o i:Nat):PF:=((((PF.nil.set 0 (aI a)).set 1 (aI b)).set 5 (.osl o 1 0 (a.length+b.length))).set 6 (.int .i64 i))
def utG (a b:List Nat) (o i c j:Nat):PF:=((((((PF.nil.set 0 (aI a)).set 1 (aI b)).set 5 (.osl o 1 0 (a.length+b.length))).set 6 (.int .i64 i)).set 7 (.int .u64 c)).set 8 (.int .i64 j))
theorem a9A {C:Ctx} (a b:List Nat) (ha:Lim a) (hb:Lim b) (h1:a.length≤35184372087808) (h2:b.length≤35184372087808) (L:List Nat) (i:Nat) (hi:i<a.length) (hI:DJ a b L i) (q:Nat) (K:bX) (F:PF) (H:PH) (hF:(qI a b q i).le F) (hH:H q=some (.rows 1 (aK L)))
  (hK:∀ L' F' H',DJ a b L' (i+1)→(qI a b q i).le F'→H' q=some (.rows 1 (aK L'))→K .normal F' H') :
  aB.wp C (.block 1 (.seq (.region PY) (.seq (.seq (.region PZ) (.block 2 (.loop JC))) (.region JD)))) K F H:=by
 have f0:=hF 0 _ (by unfold qI; simp only[go_sem,reduceCtorEq]; rfl)
 have f1:=hF 1 _ (by unfold qI; simp only[go_sem,γ,reduceCtorEq]; rfl)
 have f5:=hF 5 _ (by unfold qI; simp only[go_sem,γ,reduceCtorEq]; rfl)
 have f6:=hF 6 _ (by unfold qI; simp only[go_sem,γ,reduceCtorEq]; rfl)
 have hx:=ha _ (bIS hi)
 have hta:=bW a hi
 generalize hxe:a[i]=x at *
 have hax:(aK a)[i]?=some [.int .u32 ((x:Nat):Int)]:=by rw[bN a hi,hxe]
 simp only[go_sem,PY,PZ]
 refine wp_loop (α:=List Nat × Nat × Nat) (fun t=>utG a b q i t.2.1 t.2.2) (fun t=>PH.nil.set q (.rows 1 (aK t.1)))
  (fun t=>t.2.2≤b.length∧t.1.length=a.length+b.length∧Lim t.1∧t.2.1<4294967296∧val t.1+4294967296 ^ (i+t.2.2)*t.2.1=val (a.take i)*val b+4294967296 ^ i*(x*val (b.take t.2.2))∧∀ j y,i+b.length≤j→t.1[j]?=some y→y=0) (fun t=>b.length-t.2.2) (L,0,0)
  ⟨by simp,hI.len,hI.lim,by simp,by simp[val,hI.v],hI.z⟩ ?_ (PH.aF PH.nil_le hH) ?_
 ·unfold utG
  exact Lq
 rintro⟨M,c,j⟩ ⟨hj,hM,bHF,hc,bHB,hz⟩
 simp only at hj hM bHF hc bHB hz
 simp only[go_sem,γ,reduceCtorEq,JC,auZ,utG]
 by_cases c1:j<b.length
 ·have c1':(j:Int)<(b.length:Nat):=by omega
  have hy:=hb _ (bIS c1)
  have htb:=bW b c1
  generalize hye:b[j]=y at *
  have hby:(aK b)[j]?=some [.int .u32 ((y:Nat):Int)]:=by rw[bN b c1,hye]
  have hij:i+j<M.length:=by omega
  have hz0:=bHF _ (bIS hij)
  have bIF:=EG hij
  generalize hze:M[i+j]=z at *
  have hMz:(aK M)[i+j]?=some [.int .u32 ((z:Nat):Int)]:=by rw[bN M hij,hze]
  have ex:IntKind.u64.wrap ((x:Nat):Int)=((x:Nat):Int):=bE Om
  have ey:IntKind.u64.wrap ((y:Nat):Int)=((y:Nat):Int):=bE Om
  have ez:IntKind.u64.wrap ((z:Nat):Int)=((z:Nat):Int):=bE Om
  have em:=aWI hx hy
  have hxy:x*y≤4294967295*4294967295:=Nat.mul_le_mul Om Om
  have e1:IntKind.u64.wrap (((x*y:Nat):Int)+(z:Int))=((x*y+z:Nat):Int):=eN Om
  have e2:IntKind.u64.wrap (((x*y+z:Nat):Int)+(c:Int))=((x*y+z+c:Nat):Int):=eN Om
  have eij:IntKind.i64.wrap ((i:Int)+(j:Int))=((i+j:Nat):Int):=fS Om
  have hlt:((i+j:Nat):Int)<((a.length+b.length:Nat):Int):=by omega
  generalize ht:x*y+z+c=t at *
  have htt:t<4294967296*4294967296:=by omega
  have bGV:(aK M).set (i+j) [.int .u32 ((t%4294967296:Nat):Int)]=aK (M.set (i+j) (t%4294967296)):=eX M (i+j) _
  simp only[go_sem,c1']
  refine bK .nil dC PH.nil_le ?_
  simp only[go_sem,γ,reduceCtorEq,avA,hax,hby,ex,ey,em,eij,hlt,hMz,ez,e1,e2,avB,cA,bGV,avC,wD,agM,ws j]
  refine aC (M.set (i+j) (t%4294967296),t/4294967296,j+1) ⟨by simp only; omega,by simp only[bKU]; exact hM,bHF.set _ (bJX _ (by decide)),by simp only; omega,?_,ahV hz _ _ Om⟩ (by simp only; omega) ?_ (PH.aF PH.nil_le Sq)
  ·simp only
   have h3:=bIF (t%4294967296)
   have h4:4294967296 ^ (i+(j+1))*(t/4294967296)+4294967296 ^ (i+j)*(t%4294967296)=4294967296 ^ (i+j)*t:=by
    rw[← bKS,bKB,bJH,← bJA,bLN]
   have h5:4294967296 ^ (i+j)*t=4294967296 ^ (i+j)*(x*y)+4294967296 ^ (i+j)*z+4294967296 ^ (i+j)*c:=by rw[← ht,bJA,bJA]
   have h6:4294967296 ^ i*(x*val (b.take (j+1)))=4294967296 ^ i*(x*val (b.take j))+4294967296 ^ (i+j)*(x*y):=by
    rw[htb,bJA,bJA,Nat.pow_add]
    congr 1
    rw[Nat.mul_left_comm x,bJH]
   omega
  ·exact Lq
 ·have he:j=b.length:=by omega
  have c1':¬ (j:Int)<(b.length:Nat):=by omega
  subst he
  have hij:i+b.length<M.length:=by omega
  have hz0:M[i+b.length]=0:=hz _ _ (bIU _) (bIZ hij)
  have bIF:=EG hij
  have hMz:(aK M)[i+b.length]?=some [.int .u32 ((0:Nat):Int)]:=by rw[bN M hij,hz0]
  have eij:IntKind.i64.wrap ((i:Int)+((b.length:Nat):Int))=((i+b.length:Nat):Int):=fS Om
  have hlt:((i+b.length:Nat):Int)<((a.length+b.length:Nat):Int):=by omega
  have bGV:(aK M).set (i+b.length) [.int .u32 ((c%4294967296:Nat):Int)]=aK (M.set (i+b.length) c):=by
   rw[bJT hc]; exact eX M _ _
  simp only[go_sem,γ,reduceCtorEq,c1',JD,eij,cA,hlt,hMz,bGV]
  refine hK (M.set (i+b.length) c) _ _ ⟨by rw[bKU]; exact hM,bHF.set _ hc,?_,fun j y hj hy=>?_⟩ (by unfold qI; exact Lq) Sq
  ·have h3:=bIF c
   rw[hz0,Nat.mul_zero,bKF] at h3
   rw[h3,bHB,bJN,hta,bJP,bJH]
  ·rw[List.getElem?_set_ne Om] at hy
   exact hz j y Om hy
theorem bgY {C:Ctx} (L:oP C) (a b:List Nat) (ha:Lim a) (hb:Lim b) (h1:a.length≤8388608) (h2:b.length≤8388608) :
  CV.wp C (aR agK.res (bP (aI (aG (val a*val b))))) (PF.args [aI a,aI b]) .nil:=by
 have hlen:IntKind.i64.wrap (((a.length:Nat):Int)+((b.length:Nat):Int))=((a.length+b.length:Nat):Int):=fS Om
 have hm1:((a.length+b.length:Nat):Int)*((4:Nat):Int)≤140737488355328:=by omega
 have hm2:((a.length+b.length:Nat):Int)≤9223372036854775807:=by omega
 have hz:bIP (a.length+b.length) [PV.int .u32 0]=aK (bIP (a.length+b.length) 0):=by
  simp[aK]
 simp only[go_sem,γ,reduceCtorEq,CV,auV,auW,agK,bIM,hlen,hm1,hm2,hz]
 refine aO fun o ho=>?_
 simp only[go_sem,γ,auX]
 refine wp_loop (α:=List Nat × Nat) (fun t=>qI a b o t.2) (fun t=>PH.nil.set o (.rows 1 (aK t.1))) (fun t=>t.2≤a.length∧DJ a b t.1 t.2) (fun t=>a.length-t.2) (bIP (a.length+b.length) 0,0)
  ⟨by simp,by simp,uH _,by simp[val,qY],fun j x _ hx=>by rw[List.getElem?_replicate] at hx; split at hx<;>simp_all⟩ ?_ (PH.aF PH.nil_le Sq) ?_
 ·unfold qI
  exact Lq
 rintro⟨M,i⟩ ⟨hi,hI⟩
 simp only at hi hI
 simp only[go_sem,γ,reduceCtorEq,agL,auY,qI]
 by_cases c1:i<a.length
 ·have c1':(i:Int)<(a.length:Nat):=by omega
  have key:=a9A (C:=C) a b ha hb Om Om M i c1 hI o
  simp only[go_sem] at key
  simp only[go_sem,c1']
  refine key _ _ _ (by unfold qI; exact Lq) Sq ?_
  intro L' F' H' hI' hF' hH'
  have g6:=hF' 6 _ (by unfold qI; simp only[go_sem,γ,reduceCtorEq]; rfl)
  have g0:=hF' 0 _ (by unfold qI; simp only[go_sem,reduceCtorEq]; rfl)
  have g1:=hF' 1 _ (by unfold qI; simp only[go_sem,γ,reduceCtorEq]; rfl)
  have g5:=hF' 5 _ (by unfold qI; simp only[go_sem,γ,reduceCtorEq]; rfl)
  simp only[go_sem,γ,agN,g6,ws i]
  refine aC (L',i+1) ⟨by simp only; omega,hI'⟩ (by simp only; omega) ?_ (PH.aF PH.nil_le hH')
  exact Lq
 ·have he:i=a.length:=by omega
  subst he
  have c1':¬ ((a.length:Nat):Int)<(a.length:Nat):=by omega
  have hV:val M=val a*val b:=by rw[hI.v,bJN]
  simp only[go_sem,γ,reduceCtorEq,agO]
  have hs:=L.trim _ hI.lim (by rw[hI.len]; omega)
  rw[hV] at hs
  refine pF (o:=o) (s:=1) (k:=a.length+b.length) (rs:=aK M) (v:=aI (aG (val a*val b))) ?_ rfl Sq (by rw[bT,hI.len]; exact bIU _) ?_
  ·rw[bJD (by rw[bT,hI.len]; exact bIU _)]; exact hs
  ·simp only[go_sem,γ,reduceCtorEq]
   exact aV (.inr rfl) .nil rfl PH.nil_le ⟨.refl _,rfl⟩
structure azF (C:Ctx):Prop extends azD C where
 minus:∀ a b,Lim a→Lim b→val b≤val a→b.length≤a.length→a.length≤35184372087808→aH C 42 [aI a,aI b] .nil (aD (aI (aG (val a-val b))))
 times:∀ a b,Lim a→Lim b→a.length≤8388608→b.length≤8388608→aH C 44 [aI a,aI b] .nil (aD (aI (aG (val a*val b))))
theorem btY {C:Ctx} (L:azF C) (a b:List Nat) (ha:Lim a) (hb:Lim b) (la:a.length≤35184372087808) (lb:b.length≤35184372087808) :
  PR.wp C (aR a8X.res (bP (opV (dK (val a) (val b)) (val a*val b)))) (PF.args [aI a,aI b]) .nil:=by
 unfold opV
 simp only[go_sem,reduceCtorEq,PR,a0F,a0G,a8X]
 refine aA (L.large a ha la) rfl ?_
 by_cases c1:nl (val a)>512
 ·simp only[go_sem,γ,c1,amA]
  rw[if_pos (by simp[dK,c1])]
  exact eE rfl
 simp only[go_sem,γ,c1]
 refine aA (L.large b hb lb) rfl ?_
 by_cases c2:nl (val b)>512
 ·simp only[go_sem,γ,reduceCtorEq,c2,amA]
  rw[if_pos (by simp[dK,c2])]
  exact eE rfl
 rw[if_neg (by simp[dK,c1,c2])]
 simp only[go_sem,γ,reduceCtorEq,c2,a0H]
 refine aA (L.trim a ha la) rfl ?_
 simp only[go_sem,γ]
 refine aA (L.trim b hb lb) rfl ?_
 simp only[go_sem]
 have ht:=L.times (aG (val a)) (aG (val b)) (aU _) (aU _) (by rw[aZ]; omega) (by rw[aZ]; omega)
 rw[aQ,aQ] at ht
 refine aA ht rfl ?_
 have n1:=kO (a:=val a) (b:=val b) (m:=512) (n:=512) Om Om
 have hl:=L.large (aG (val a*val b)) (aU _) (by rw[aZ]; omega)
 rw[aQ] at hl
 simp only[go_sem,γ,a0I]
 refine aA hl rfl ?_
 unfold szV szL szE
 by_cases c3:nl (val a*val b)>512
 ·rw[if_pos c3,if_pos c3]
  simp only[go_sem,γ,c3,a0J]
  exact eE rfl
 ·rw[if_neg c3,if_neg c3]
  simp only[go_sem,γ,c3,a0K]
  exact aV (.inr rfl) .nil rfl PH.nil_le ⟨.refl _,rfl⟩
def vH (a:List Nat) (i:Nat):Nat:=a.getD i 0
theorem azV {a:List Nat} (h:Lim a) (i:Nat):vH a i<4294967296:=by
 unfold vH
 rw[bJE]
 rcases bJG i a.length with h1 | h1
 ·rw[bIZ h1]; exact h _ (bIS h1)
 ·rw[bJY h1]; decide
theorem VB {a:List Nat} {i:Nat} (h:i<a.length):vH a i=a[i]:=by simp[vH,bJE,h]
theorem LL {a:List Nat} {i:Nat} (h:¬ i<a.length):vH a i=0:=by simp[vH,bJE,h]
theorem QA (a:List Nat) (i:Nat):val (a.take (i+1))=val (a.take i)+4294967296 ^ i*vH a i:=by
 rcases bJG i a.length with h | h
 ·rw[VB h]; exact bW a h
 ·rw[LL Om,bJD Om,bJD Om]; simp
def sD (a b:List Nat) (v:PV) (c i:Nat):PF:=(((((PF.nil.set 0 (aI a)).set 1 (aI b)).set 5 (v)).set 6 (.int .u64 c)).set 7 (.int .i64 i))
theorem boF {C:Ctx} (L:oP C) (a b:List Nat) (ha:Lim a) (hb:Lim b) (h1:a.length≤8388608) (h2:b.length≤8388608) :
  IZ.wp C (aR ayJ.res (bP (aI (aG (val a+val b))))) (PF.args [aI a,aI b]) .nil:=by
 simp only[go_sem,IZ,aNE,aNF,aNG,aNH,ayJ]
 refine wp_loop (α:=List Nat × Nat × PV × PH) (fun s=>sD a b s.2.2.1 s.2.1 s.1.length) (fun s=>s.2.2.2)
  (fun s=>s.1.length≤max a.length b.length+1∧(s.1.length≤max a.length b.length∨s.2.1=0)∧Lim s.1∧s.2.1≤1∧val s.1+4294967296 ^ s.1.length*s.2.1=val (a.take s.1.length)+val (b.take s.1.length)∧aX s.2.2.2 1 s.2.2.1 (aK s.1)) (fun s=>max a.length b.length+1-s.1.length) ([],0,.bGI,.nil)
  ⟨by simp,by simp,by simp[Lim],by simp,by simp[val],.nil⟩ ?_ PH.nil_le ?_
 ·unfold sD
  exact Lq
 rintro⟨P,c,v,H0⟩ ⟨hP,hPc,bHF,hc,bHB,hO⟩
 simp only at hP hPc bHF hc bHB hO ⊢
 have hda:=azV ha P.length
 have hdb:=azV hb P.length
 have hta:=QA a P.length
 have htb:=QA b P.length
 generalize hx:vH a P.length=x at *
 generalize hy:vH b P.length=y at *
 have ex:IntKind.u64.wrap ((x:Nat):Int)=((x:Nat):Int):=bE Om
 have ey:IntKind.u64.wrap ((y:Nat):Int)=((y:Nat):Int):=bE Om
 have e1:IntKind.u64.wrap ((c:Int)+(x:Int))=((c+x:Nat):Int):=eN Om
 have e2:IntKind.u64.wrap (((c+x:Nat):Int)+(y:Int))=((c+x+y:Nat):Int):=eN Om
 have hra:P.length<a.length→(aK a)[P.length]?=some [.int .u32 ((x:Nat):Int)]:=fun h=>by rw[bN a h,← hx,VB h]
 have hrb:P.length<b.length→(aK b)[P.length]?=some [.int .u32 ((y:Nat):Int)]:=fun h=>by rw[bN b h,← hy,VB h]
 have hxa:¬ P.length<a.length→x=0:=fun h=>by rw[← hx,LL h]
 have hyb:¬ P.length<b.length→y=0:=fun h=>by rw[← hy,LL h]
 have body:(P.length≤max a.length b.length)→∀ K:bX,(∀ P' c' v' F2 H2,P'.length=P.length+1→Lim P'→c'≤1→(P.length+1≤max a.length b.length∨c'=0)→val P'+4294967296 ^ P'.length*c'=val (a.take (P.length+1))+val (b.take (P.length+1))→(sD a b v' c' P'.length).le F2→aX H2 1 v' (aK P')→K .normal F2 H2) →
   ∀ F:PF,(sD a b v c P.length).le F→aB.wp C (.seq (.block 1 (.seq (.region YW) (.seq (.seq (.region YX) (.cond (.tmp 29) (.region YY) .skip)) (.seq (.seq (.region JA) (.cond (.tmp 40) (.region JB) .skip)) (.seq (.region AE) (.region AF)))))) (.region AG)) K F H0:=by
  intro hle K hK F hF
  have g0:F 0=some (aI a):=hF 0 _ (by unfold sD; simp only[go_sem,reduceCtorEq])
  have g1:F 1=some (aI b):=hF 1 _ (by unfold sD; simp only[go_sem,γ,reduceCtorEq])
  have g5:F 5=some v:=hF 5 _ (by unfold sD; simp only[go_sem,γ,reduceCtorEq])
  have g6:F 6=some (.int .u64 c):=hF 6 _ (by unfold sD; simp only[go_sem,γ,reduceCtorEq])
  have g7:F 7=some (.int .i64 P.length):=hF 7 _ (by unfold sD; simp only[go_sem,γ,reduceCtorEq])
  have fin:∀ F':PF,F' 0=some (aI a)→F' 1=some (aI b)→F' 5=some v→F' 7=some (.int .i64 P.length)→F' 8=some (.int .u64 (c+x+y:Nat)) →
    aB.wp C (.seq (.region AE) (.region AF)) (dJ 1 (hC C (aB.wp C (.region AG)) K)) F' H0:=by
   intro F' q0 q1 q5 q7 q8
   have hb1:(1:Nat)*1≤16777216:=by decide
   generalize ht:c+x+y=t at *
   have htt:t<2*4294967296:=by omega
   simp only[go_sem,υ,γ,η,ζ,AE,q5,q8,hb1,cA]
   refine cX (src:=[[.int .u32 ((t%4294967296:Nat):Int)]]) hO rfl (oX Om) fun v' H' hO' _=>?_
   rw[oY] at hO'
   simp only[go_sem,γ,AF,q8,wD,AG,q7,cS (Om:P.length<9223372036854775807)]
   refine hK (P++[t%4294967296]) (t/4294967296) v' _ H' (by simp) (bHF.app fun y hy=>by simp at hy; subst hy; omega) Om ?_ ?_ ?_ hO'
   ·rcases bJG P.length (max a.length b.length) with h | h
    ·exact .inl h
    ·right
     have h1:=hxa Om
     have h2:=hyb Om
     omega
   ·rw[iY,bIQ,bIX,hta,htb,bKB,bJH,bKS,← bJA]
    rw[show t%4294967296+4294967296*(t/4294967296)=t from Nat.mod_add_div t 4294967296]
    have h3:4294967296 ^ P.length*t=4294967296 ^ P.length*c+4294967296 ^ P.length*x+4294967296 ^ P.length*y:=by rw[← ht,bJA,bJA]
    omega
   ·unfold sD
    rw[bIQ,bIX]
    exact Lq
  simp only[aB.wp,go_sem] at fin
  simp only[go_sem,γ,reduceCtorEq,YW,g6,YX,g7,g0]
  by_cases c1:P.length<a.length
  ·have c1':(P.length:Int)<(a.length:Nat):=by omega
   simp only[go_sem,γ,reduceCtorEq,c1',YY,g0,g7,hra c1,ex,e1,JA,g1]
   by_cases c2:P.length<b.length
   ·have c2':(P.length:Int)<(b.length:Nat):=by omega
    simp only[go_sem,γ,c2',JB,g1,g7,hrb c2,ey,e2]
    exact fin _ (by simp only[go_sem,reduceCtorEq,g0]) (by simp only[go_sem,γ,g1]) (by simp only[go_sem,γ,g5]) (by simp only[go_sem,γ,g7]) rfl
   ·have c2':¬ (P.length:Int)<(b.length:Nat):=by omega
    have h0:=hyb c2
    simp only[go_sem,c2']
    exact fin _ (by simp only[go_sem,reduceCtorEq,g0]) (by simp only[go_sem,γ,g1]) (by simp only[go_sem,γ,g5]) (by simp only[go_sem,γ,g7]) (by simp only[go_sem,γ,h0])
  ·have c1':¬ (P.length:Int)<(a.length:Nat):=by omega
   have h0:=hxa c1
   simp only[go_sem,γ,c1',JA,g1,g7]
   by_cases c2:P.length<b.length
   ·have c2':(P.length:Int)<(b.length:Nat):=by omega
    have e2':IntKind.u64.wrap ((c:Int)+(y:Int))=((c+x+y:Nat):Int):=by rw[h0]; exact eN Om
    simp only[go_sem,γ,c2',JB,g1,g7,hrb c2,ey,e2']
    exact fin _ (by simp only[go_sem,reduceCtorEq,g0]) (by simp only[go_sem,γ,g1]) (by simp only[go_sem,γ,g5]) (by simp only[go_sem,γ,g7]) rfl
   ·have c2':¬ (P.length:Int)<(b.length:Nat):=by omega
    have h0':=hyb c2
    simp only[go_sem,c2']
    exact fin _ (by simp only[go_sem,reduceCtorEq,g0]) (by simp only[go_sem,γ,g1]) (by simp only[go_sem,γ,g5]) (by simp only[go_sem,γ,g7]) (by simp only[go_sem,γ,h0,h0'])
 simp only[aB.wp,go_sem] at body
 have hexit:¬ P.length<a.length→¬ P.length<b.length→c=0→∀ F:PF,F 5=some v→aB.wp C (.seq (.region PU) .ret) (aR [.tmp 4] (bP (aI (aG (val a+val b))))) F H0:=by
  intro n1 n2 n3 F f5
  have hV:val P=val a+val b:=by
   rw[n3,bJD Om,bJD Om] at bHB
   omega
  have hs:=L.trim _ bHF Om
  rw[hV] at hs
  simp only[go_sem,PU,f5]
  refine sF hs hO rfl fun F1 H1 _=>?_
  simp only[go_sem]
  exact aV (.inr rfl) .nil rfl PH.nil_le ⟨.refl _,rfl⟩
 simp only[aB.wp,go_sem] at hexit
 simp only[go_sem,γ,reduceCtorEq,auU,aNI,sD]
 by_cases c1:P.length<a.length
 ·have c1':(P.length:Int)<(a.length:Nat):=by omega
  simp only[go_sem,γ,reduceCtorEq,c1']
  refine body Om _ ?_ _ (by unfold sD; exact Lq)
  intro P' c' v' F2 H2 e1 e2 e3 e4 e5 e6 e7
  rw[← e1] at e5 e4
  exact aC (α:=List Nat × Nat × PV × PH) (P',c',v',H2) ⟨by simp only; omega,e4,e2,e3,e5,e7⟩ (by simp only; omega) e6 PH.le_refl
 ·have c1':¬ (P.length:Int)<(a.length:Nat):=by omega
  simp only[go_sem,γ,reduceCtorEq,c1']
  by_cases c2:P.length<b.length
  ·have c2':(P.length:Int)<(b.length:Nat):=by omega
   simp only[go_sem,γ,reduceCtorEq,c2']
   refine body Om _ ?_ _ (by unfold sD; exact Lq)
   intro P' c' v' F2 H2 e1 e2 e3 e4 e5 e6 e7
   rw[← e1] at e5 e4
   exact aC (α:=List Nat × Nat × PV × PH) (P',c',v',H2) ⟨by simp only; omega,e4,e2,e3,e5,e7⟩ (by simp only; omega) e6 PH.le_refl
  ·have c2':¬ (P.length:Int)<(b.length:Nat):=by omega
   simp only[go_sem,γ,reduceCtorEq,c2']
   by_cases c3:c=0
   ·have c3':¬ (c:Int)>0:=by omega
    simp only[go_sem,c3']
    exact hexit c1 c2 c3 _ rfl
   ·have c3':(c:Int)>0:=by omega
    simp only[go_sem,c3']
    refine body Om _ ?_ _ (by unfold sD; exact Lq)
    intro P' c' v' F2 H2 e1 e2 e3 e4 e5 e6 e7
    rw[← e1] at e5 e4
    exact aC (α:=List Nat × Nat × PV × PH) (P',c',v',H2) ⟨by simp only; omega,e4,e2,e3,e5,e7⟩ (by simp only; omega) e6 PH.le_refl
structure ZU (C:Ctx):Prop extends azF C where
 plus:∀ a b,Lim a→Lim b→a.length≤8388608→b.length≤8388608→aH C 43 [aI a,aI b] .nil (aD (aI (aG (val a+val b))))
theorem btQ {C:Ctx} (L:ZU C) (a b:List Nat) (ha:Lim a) (hb:Lim b) (la:a.length≤35184372087808) (lb:b.length≤35184372087808) :
  PI.wp C (aR a8P.res (bP (opV (dK (val a) (val b)) (val a+val b)))) (PF.args [aI a,aI b]) .nil:=by
 unfold opV
 simp only[go_sem,reduceCtorEq,PI,aZB,aZC,a8P]
 refine aA (L.large a ha la) rfl ?_
 by_cases c1:nl (val a)>512
 ·simp only[go_sem,γ,c1,alX]
  rw[if_pos (by simp[dK,c1])]
  exact eE rfl
 simp only[go_sem,γ,c1]
 refine aA (L.large b hb lb) rfl ?_
 by_cases c2:nl (val b)>512
 ·simp only[go_sem,γ,reduceCtorEq,c2,alX]
  rw[if_pos (by simp[dK,c2])]
  exact eE rfl
 rw[if_neg (by simp[dK,c1,c2])]
 simp only[go_sem,γ,reduceCtorEq,c2,aZD]
 refine aA (L.trim a ha la) rfl ?_
 simp only[go_sem,γ]
 refine aA (L.trim b hb lb) rfl ?_
 simp only[go_sem]
 have ht:=L.plus (aG (val a)) (aG (val b)) (aU _) (aU _) (by rw[aZ]; omega) (by rw[aZ]; omega)
 rw[aQ,aQ] at ht
 refine aA ht rfl ?_
 have n1:=aHC (a:=val a) (b:=val b) (m:=512) Om Om
 have hl:=L.large (aG (val a+val b)) (aU _) (by rw[aZ]; omega)
 rw[aQ] at hl
 simp only[go_sem,γ,aZE]
 refine aA hl rfl ?_
 unfold szV szL szE
 by_cases c3:nl (val a+val b)>512
 ·rw[if_pos c3,if_pos c3]
  simp only[go_sem,γ,c3,aZF]
  exact eE rfl
 ·rw[if_neg c3,if_neg c3]
  simp only[go_sem,γ,c3,aZG]
  exact aV (.inr rfl) .nil rfl PH.nil_le ⟨.refl _,rfl⟩
theorem buC {C:Ctx} (L:ZU C) (a b:List Nat) (ha:Lim a) (hb:Lim b) (la:a.length≤35184372087808) (lb:b.length≤35184372087808) :
  PX.wp C (aR a8Z.res (bP (qH (val a) (val b)))) (PF.args [aI a,aI b]) .nil:=by
 unfold qH
 simp only[go_sem,reduceCtorEq,PX,a0L,a0M,a8Z]
 refine aA (L.large a ha la) rfl ?_
 by_cases c1:nl (val a)>512
 ·simp only[go_sem,γ,c1,amB]
  rw[if_pos (by simp[dK,c1])]
  exact eE rfl
 simp only[go_sem,γ,c1]
 refine aA (L.large b hb lb) rfl ?_
 by_cases c2:nl (val b)>512
 ·simp only[go_sem,γ,reduceCtorEq,c2,amB]
  rw[if_pos (by simp[dK,c2])]
  exact eE rfl
 rw[if_neg (by simp[dK,c1,c2])]
 simp only[go_sem,γ,reduceCtorEq,c2,a0N]
 refine aA (L.cmp a b ha hb la lb) rfl ?_
 by_cases c3:val a<val b
 ·have:cY (val a) (val b)=-1:=by simp[cY,c3]
  rw[if_pos c3]
  simp only[go_sem,ο,γ,this,show ((-1:Int)<0) by decide,a0O]
  exact eE rfl
 ·have:¬ cY (val a) (val b)<0:=by
   unfold cY
   rw[if_neg c3]
   split<;>decide
  rw[if_neg c3]
  have n1:=fF (Nat.sub_le (val a) (val b))
  have n2:=fF (Om:val b≤val a)
  simp only[go_sem,γ,reduceCtorEq,this,a0P]
  refine aA (L.trim a ha la) rfl ?_
  simp only[go_sem,γ]
  refine aA (L.trim b hb lb) rfl ?_
  simp only[go_sem]
  have ht:=L.minus (aG (val a)) (aG (val b)) (aU _) (aU _) (by rw[aQ,aQ]; omega) (by rw[aZ,aZ]; exact n2) (by rw[aZ]; omega)
  rw[aQ,aQ] at ht
  refine aA ht rfl ?_
  rw[yL Om]
  simp only[go_sem,γ]
  exact aV (.inr rfl) .nil rfl PH.nil_le ⟨.refl _,rfl⟩
def aMC (k:Nat) (v:Nat):PF:=((PF.nil.set 3 (.int .i64 k)).set 4 (.int .u32 v))
theorem bnT {C:Ctx} (L:oP C) (xs:List Nat) (hx:Lim xs) (lx:xs.length≤35184372087808) :
  IQ.wp C (aR ayG.res (aD (.int .i64 (cC (val xs):Nat)))) (PF.args [aI xs]) .nil:=by
 simp only[go_sem,reduceCtorEq,IQ,aME,aMF,ayG]
 refine aA (L.trim xs hx lx) rfl ?_
 have bx:=eW hx
 simp only[go_sem,γ,reduceCtorEq,aMG,bIM,aZ,AD]
 by_cases c1:nl (val xs)=0
 ·simp only[go_sem,decide_eq_true c1,aMH]
  refine aM (.inr rfl) rfl ?_
  have:val xs=0:=gJ.1 c1
  simp[bH,this,jC]
 obtain⟨n,hn⟩:∃ n,nl (val xs)=n+1:=⟨nl (val xs)-1,by omega⟩
 obtain⟨t,ht,ht0⟩:=aKX (xs:=aG (val xs)) (aU _) (by rw[aQ]; exact hn)
 have htl:t<4294967296:=aU _ t (bKX ht)
 have hv:val xs=val ((aG (val xs)).take n)+4294967296 ^ n*t:=by
  have:=aQ (val xs)
  have hnl:n<(aG (val xs)).length:=by rw[aZ]; omega
  have hg:(aG (val xs))[n]=t:=by rw[bIZ hnl] at ht; exact bKT.inj ht
  conv=>lhs; rw[← this,← bJD (l:=aG (val xs)) (i:=n+1) (by rw[aZ]; omega)]
  rw[bW _ hnl,hg]
 have hb:cC (val xs)=32*n+cC t:=by
  have h3:=eM ((aU (val xs)).take n)
  rw[bJF,aZ,bKJ Om] at h3
  have hk:=azR (lo:=val ((aG (val xs)).take n)) (k:=32*n) (hi:=t) (by rw[Nat.pow_mul]; exact h3) ht0
  rw[← hk,Nat.pow_mul]
  exact congrArg cC hv
 have bGV:(aK (aG (val xs)))[n]?=some [.int .u32 (t:Nat)]:=by
  simp[aK,ht]
 have e1:IntKind.i64.wrap (((nl (val xs):Nat):Int)-1)=(n:Int):=by rw[wrap_i64 Om Om]; omega
 have e2:IntKind.i64.wrap (32*(n:Int))=((32*n:Nat):Int):=by rw[wrap_i64 Om Om]; omega
 simp only[go_sem,γ,reduceCtorEq,decide_eq_false c1,aMI,aMJ,bIM,aZ,e1,e2,bGV]
 refine wp_loop (α:=Nat × Nat) (fun a=>aMC a.1 a.2) (fun _=>.nil) (fun a=>a.1+cC a.2=32*n+cC t∧a.2<4294967296) (fun a=>a.2) (32*n,t) ⟨rfl,htl⟩ ?_ PH.nil_le ?_
 ·unfold aMC
  exact Lq
 rintro⟨k,v⟩ ⟨hk,hlt⟩
 simp only at hk hlt
 have hk32:cC t≤32:=(kZ t 32).2 htl
 simp only[go_sem,γ,aMD,aMK,aMC]
 by_cases c2:(v:Int)>0
 ·have hv0:v≠0:=by omega
  have hsh:IntKind.u32.wrap (Int.tdiv (v:Int) 2)=((v/2:Nat):Int):=by
   rw[show Int.tdiv (v:Int) 2=((v/2:Nat):Int) from Int.ofNat_tdiv v 2,cA,bJT Om]
  simp only[go_sem,μ,γ,c2,aML,aMM,hsh,ws k]
  refine aC (k+1,v/2) ⟨?_,?_⟩ (Nat.div_lt_self Om (by decide)) ?_ PH.nil_le
  ·have:=nZ hv0
   simp only; omega
  ·simp only; omega
  ·exact Lq
 ·have:v=0:=by omega
  subst this
  simp only[go_sem,γ,c2,auH]
  refine aM (.inr rfl) rfl ?_
  rw[jC] at hk
  simp only[bH,PV.int.injEq,true_and]
  omega
theorem apW (n:Nat):4294967296 ^ (n/32)*2 ^ (n%32)=2 ^ n:=by
 rw[show (4294967296:Nat)=2 ^ 32 by decide,← Nat.pow_mul,← Nat.pow_add]
 congr 1
 omega
theorem bgC (n:Nat):IntKind.i64.wrap (Int.tdiv (n:Int) 32)=IntKind.i64.wrap ((n/32:Nat):Int):=by
 rw[show Int.tdiv (n:Int) 32=((n/32:Nat):Int) from Int.ofNat_tdiv n 32]
theorem bgH (n:Nat):Int.tmod (n:Int) 32=((n%32:Nat):Int):=Int.ofNat_tmod n 32
def boK (a:List Nat) (n:Nat) (v:PV) (c i:Nat):PF:=(((((PF.nil.set 0 (aI a)).set 1 (.int .i64 n)).set 5 (v)).set 6 (.int .u64 c)).set 7 (.int .i64 i))
theorem bwV {C:Ctx} (L:oP C) (a:List Nat) (n:Nat) (ha:Lim a) (h1:a.length≤8388608) (hn:n≤8388608) (h0:a.length=0→val a=0) :
  ZA.wp C (aR uup.res (mN 1 (aK (aG (val a*2 ^ n))))) (PF.args [aI a,.int .i64 n]) .nil:=by
 simp only[go_sem,γ,reduceCtorEq,ZA,bhA,bhB,uup,bIM,AD]
 by_cases c0:a.length=0
 ·simp only[go_sem,decide_eq_true c0,bhC]
  rw[h0 c0,Nat.zero_mul,fA]
  exact DZ (.inr rfl) rfl
 have ez:IntKind.i64.wrap (Int.tdiv (n:Int) 32)=((n/32:Nat):Int):=by rw[bgC,yX Om]
 have em:=bgH n
 have eu:IntKind.u64.wrap ((n%32:Nat):Int)=((n%32:Nat):Int):=bE Om
 have hsp:=apW n
 have hs:n%32<32:=bJX _ (by decide)
 have hz:n/32≤8388608:=by omega
 generalize hzz:n/32=z at *
 generalize hss:n%32=s at *
 have hm1:((z:Nat):Int)*((4:Nat):Int)≤140737488355328:=by omega
 have hm2:((z:Nat):Int)≤9223372036854775807:=by omega
 have hzr:bIP z [PV.int .u32 0]=aK (bIP z 0):=by
  simp[aK]
 have h2s:2 ^ s≤2147483648:=Nat.pow_le_pow_right (show 0<2 by decide) (Om:s≤31)
 have h2s0:0<2 ^ s:=bKY (by decide)
 simp only[go_sem,μ,γ,decide_eq_false c0,bhD,ez,hm1,hm2,hzr]
 refine aO fun o ho=>?_
 simp only[go_sem,γ,bhE,bhF]
 refine wp_loop (α:=List Nat × Nat × Nat × PV × PH) (fun t=>boK a n t.2.2.2.1 t.2.1 t.2.2.1) (fun t=>t.2.2.2.2)
  (fun t=>t.2.2.1≤a.length∧t.1.length=z+t.2.2.1∧Lim t.1∧t.2.1<2 ^ s∧val t.1+4294967296 ^ t.1.length*t.2.1=val (a.take t.2.2.1)*2 ^ n∧aX t.2.2.2.2 1 t.2.2.2.1 (aK t.1)) (fun t=>a.length-t.2.2.1) (bIP z 0,0,0,.osl o 1 0 z,PH.nil.set o (.rows 1 (aK (bIP z 0))))
  ⟨by simp,by simp,uH _,h2s0,by simp[val,qY],.inr ⟨o,aK (bIP z 0),by rw[bT,List.length_replicate],by simp only[go_sem],by rw[bT]; exact bIU _,bJN⟩⟩ ?_ PH.le_refl ?_
 ·unfold boK
  exact Lq
 rintro⟨P,c,i,v,H0⟩ ⟨hi,hP,bHF,hc,bHB,hO⟩
 simp only at hi hP bHF hc bHB hO ⊢
 simp only[go_sem,γ,reduceCtorEq,a0Q,bhG,boK]
 by_cases c1:i<a.length
 ·have c1':(i:Int)<(a.length:Nat):=by omega
  have hai:=ha _ (bIS c1)
  have hta:=bW a c1
  have hax:=bN a c1
  generalize hx:a[i]=x at *
  have hxs:x*2 ^ s≤4294967295*2147483648:=Nat.mul_le_mul Om h2s
  have ex:IntKind.u64.wrap ((x:Nat):Int)=((x:Nat):Int):=bE Om
  have hxs':2 ^ s*x=x*2 ^ s:=bJM _ _
  have esh:shift .shl .u64 (x:Int) (s:Int)=some (.int .u64 ((2 ^ s*x:Nat):Int)):=HV Om Om
  have eor:=orI (a:=2 ^ s*x) (b:=c) (n:=c+2 ^ s*x) Om Om (by rw[Nat.or_comm]; exact aIC hc Om) Om
  have hdig:(c+2 ^ s*x)/4294967296<2 ^ s:=by
   rw[bLC (by decide)]
   have:2 ^ s*(x+1)≤2 ^ s*4294967296:=bKO _ Om
   rw[bJA,Nat.mul_one] at this
   omega
  have hb1:(1:Nat)*1≤16777216:=by decide
  simp only[go_sem,μ,υ,γ,η,ζ,reduceCtorEq,c1',bhH,hax,ex,em,eu,esh,eor,bhI,cA,hb1]
  refine cX (src:=[[.int .u32 (((c+2 ^ s*x)%4294967296:Nat):Int)]]) hO rfl (oX Om) fun v' H' hO' _=>?_
  rw[oY] at hO'
  simp only[go_sem,γ,reduceCtorEq,bhJ,wD,a0R,ws i]
  refine aC (P++[(c+2 ^ s*x)%4294967296],(c+2 ^ s*x)/4294967296,i+1,v',H') ⟨by simp only; omega,by simp; omega,bHF.app fun y hy=>by simp at hy; subst hy; exact bJX _ (by decide),hdig,?_,hO'⟩ (by simp only; omega) ?_ PH.le_refl
  ·simp only
   have hp:4294967296 ^ P.length*(2 ^ s*x)=4294967296 ^ i*x*2 ^ n:=by
    rw[hP,Nat.pow_add,← hsp]
    rw[bJH,Nat.mul_left_comm (4294967296 ^ i),← bJH (4294967296 ^ z),bJM (4294967296 ^ z*2 ^ s),bJH,bJM x]
   rw[iY,bIQ,bIX,bKB,bJH,bKS,← bJA,Nat.mod_add_div,hta,bJA,bJP,← bKS,bHB,hp]
  ·exact Lq
 ·have e:i=a.length:=by omega
  subst e
  have c1':¬ ((a.length:Nat):Int)<(a.length:Nat):=by omega
  have hb1:(1:Nat)*1≤16777216:=by decide
  have hV:val (P++[c])=val a*2 ^ n:=by
   rw[iY,bHB,bJN]
  have hLc:Lim (P++[c]):=bHF.app fun x hx=>by simp at hx; omega
  have ec:IntKind.u32.wrap ((c:Nat):Int)=((c:Nat):Int):=by rw[cA,bJT Om]
  simp only[go_sem,υ,γ,η,ζ,reduceCtorEq,c1',a0S,ec,hb1]
  refine cX (src:=[[.int .u32 ((c:Nat):Int)]]) hO rfl (oX Om) fun v' H' hO' _=>?_
  rw[oY] at hO'
  have hs:=L.trimM _ hLc (by simp; omega)
  rw[hV] at hs
  refine axG hs hO' rfl fun F1 H1 _ r H2 hr _=>?_
  simp only[go_sem]
  exact beT (.inr rfl) hr rfl
def PL (a:List Nat) (n:Nat) (v:PV) (i:Nat):PF:=((((PF.nil.set 0 (aI a)).set 1 (.int .i64 n)).set 5 (v)).set 6 (.int .i64 i))
theorem bnX {C:Ctx} (L:oP C) (a:List Nat) (n:Nat) (ha:Lim a) (h1:a.length≤8388608) (hn:n≤1000000000) :
  IU.wp C (aR ayH.res (bP (aI (aG (val a/2 ^ n))))) (PF.args [aI a,.int .i64 n]) .nil:=by
 have ez:IntKind.i64.wrap (Int.tdiv (n:Int) 32)=((n/32:Nat):Int):=by rw[bgC,yX Om]
 have em:=bgH n
 have eu:IntKind.u64.wrap ((n%32:Nat):Int)=((n%32:Nat):Int):=bE Om
 have hsp:=apW n
 have hs:n%32<32:=bJX _ (by decide)
 have hz:n/32≤1000000000:=by omega
 generalize hzz:n/32=z at *
 generalize hss:n%32=s at *
 simp only[go_sem,μ,γ,reduceCtorEq,IU,aMS,aMT,ayH,bIM,ez]
 by_cases c0:a.length≤z
 ·have c0':((z:Nat):Int)≥(a.length:Nat):=by omega
  have hq:val a/2 ^ n=0:=by
   refine bLO (Nat.lt_of_lt_of_le (eM ha) ?_)
   rw[← hsp]
   exact bKG (Nat.pow_le_pow_right (by decide) c0) (Nat.le_mul_of_pos_right _ (bKY (by decide)))
  simp only[go_sem,c0',aMU]
  rw[hq,fA]
  exact aV (vs:=[.bGI]) (.inr rfl) .nil rfl PH.nil_le ⟨.nil 1,rfl⟩
 have c0':¬ ((z:Nat):Int)≥(a.length:Nat):=by omega
 have hR:val a/2 ^ n=val (a.drop z)/2 ^ s:=by
  rw[tI ha Om,← hsp,Nat.div_div_eq_div_mul]
 have hLd:Lim (a.drop z):=ha.drop z
 simp only[go_sem,μ,γ,c0',aMV,aMW,ez]
 refine wp_loop (α:=List Nat × PV × PH) (fun t=>PL a n t.2.1 (z+t.1.length)) (fun t=>t.2.2)
  (fun t=>z+t.1.length≤a.length∧t.1=dE t.1.length (val (a.drop z)/2 ^ s)∧aX t.2.2 1 t.2.1 (aK t.1)) (fun t=>a.length-t.1.length) ([],.bGI,.nil)
  ⟨by simp; omega,rfl,.nil⟩ ?_ PH.nil_le ?_
 ·unfold PL
  (repeat' (first|exact PF.nil_le|refine PF.aF ?_ ?_))<;>first|(simp only[go_sem,γ,reduceCtorEq,bLA]<;>rfl)|rfl
 rintro⟨P,v,H0⟩ ⟨hP,hD,hO⟩
 simp only at hP hD hO ⊢
 simp only[go_sem,γ,reduceCtorEq,auI,aMX,PL]
 have hlimP:Lim P:=by rw[hD]; exact lL _ _
 by_cases c1:z+P.length<a.length
 ·have c1':((z+P.length:Nat):Int)<(a.length:Nat):=by omega
  have hai:=ha _ (bIS c1)
  have hax:=bN a c1
  have hkl:P.length≤(a.drop z).length:=by rw[bKQ]; omega
  have hvd:=tI hLd hkl
  have hdrop:(a.drop z).drop P.length=a[z+P.length]::a.drop (z+P.length+1):=by
   rw[List.drop_drop,bKE c1]
  generalize hx:a[z+P.length]=x at *
  have ex:IntKind.u64.wrap ((x:Nat):Int)=((x:Nat):Int):=bE Om
  have hb1:(1:Nat)*1≤16777216:=by decide
  have ew:IntKind.i64.wrap (((z+P.length:Nat):Int)+1)=((z+P.length+1:Nat):Int):=cS Om
  have fin:∀ (t:Nat) (F:PF),t<18446744073709551616→val (a.drop z)/4294967296 ^ P.length%(4294967296*4294967296)=t→F 0=some (aI a)→F 1=some (.int .i64 n)→F 5=some v→F 6=some (.int .i64 (z+P.length:Nat))→F 7=some (.int .u64 t) →
    ∀ K:bX,(∀ v' F2 H2,(PL a n v' (z+(P.length+1))).le F2→aX H2 1 v' (aK (P++[t/2 ^ s%4294967296]))→(P++[t/2 ^ s%4294967296])=dE (P.length+1) (val (a.drop z)/2 ^ s)→K .normal F2 H2) →
    aB.wp C (.region YV) (dJ 1 (hC C (aB.wp C (.region PN)) K)) F H0:=by
   intro t F ht hte f0 f1 f5 f6 f7 K hK
   have esh:shift .shr .u64 (t:Int) (s:Int)=some (.int .u64 ((t/2 ^ s:Nat):Int)):=bwR Om
   simp only[go_sem,μ,υ,γ,η,ζ,YV,f5,f7,f1,em,eu,esh,cA,hb1]
   refine cX (src:=[[.int .u32 ((t/2 ^ s%4294967296:Nat):Int)]]) hO rfl (oX Om) fun v' H' hO' _=>?_
   rw[oY] at hO'
   simp only[go_sem,γ,PN,f6,ew]
   refine hK v' _ H' ?_ hO' ?_
   ·unfold PL
    exact Lq
   ·rw[uD,← hD]
    congr 2
    have e:val (a.drop z)/4294967296 ^ P.length=t%4294967296+4294967296*(t/4294967296+4294967296*(val (a.drop z)/4294967296 ^ P.length/(4294967296*4294967296))):=by
     have:=Nat.mod_add_div (val (a.drop z)/4294967296 ^ P.length) (4294967296*4294967296)
     rw[hte] at this
     have h2:=Nat.mod_add_div t 4294967296
     rw[bJA,← bKS,h2,← bJH]
     exact this.symm
    have:=TV hs e
    rw[this]
    congr 2
    have h2:=Nat.mod_add_div t 4294967296
    omega
  simp only[aB.wp,go_sem] at fin
  simp only[go_sem,γ,reduceCtorEq,c1',aMY,hax,ex,aMZ,ew]
  by_cases c2:z+P.length+1<a.length
  ·have c2':((z+P.length+1:Nat):Int)<(a.length:Nat):=by omega
   have hai2:=ha _ (bIS c2)
   have hax2:=bN a c2
   rw[bKE c2] at hdrop
   generalize hy:a[z+P.length+1]=y at *
   have ey:IntKind.u64.wrap ((y:Nat):Int)=((y:Nat):Int):=bE Om
   have esh:shift .shl .u64 (y:Int) ((32:Nat):Int)=some (.int .u64 ((2 ^ 32*y:Nat):Int)):=HV (by decide) Om
   have eor:=orI (a:=x) (b:=2 ^ 32*y) (n:=x+2 ^ 32*y) Om Om (aIC Om Om) Om
   simp only[go_sem,γ,reduceCtorEq,c2',aNA,ew,hax2,ey,show shift .shl .u64 (y:Int) 32=_ from esh,eor]
   refine fin (x+2 ^ 32*y) _ Om ?_ rfl rfl rfl rfl rfl _ ?_
   ·rw[← hvd,hdrop]
    simp only[val]
    omega
   ·intro v' F2 H2 e1 e2 e3
    refine aC (α:=List Nat × PV × PH) (P++[(x+2 ^ 32*y)/2 ^ s%4294967296],v',H2) ⟨by simp; omega,by simpa using e3,e2⟩ (by simp; omega) ?_ PH.le_refl
    simp only[bIQ,bIX]
    exact e1
  ·have c2':¬ ((z+P.length+1:Nat):Int)<(a.length:Nat):=by omega
   rw[bLT (l:=a) (i:=z+P.length+1) Om] at hdrop
   simp only[go_sem,c2']
   refine fin x _ Om ?_ rfl rfl rfl rfl rfl _ ?_
   ·rw[← hvd,hdrop]
    simp only[val]
    omega
   ·intro v' F2 H2 e1 e2 e3
    refine aC (α:=List Nat × PV × PH) (P++[x/2 ^ s%4294967296],v',H2) ⟨by simp; omega,by simpa using e3,e2⟩ (by simp; omega) ?_ PH.le_refl
    simp only[bIQ,bIX]
    exact e1
 ·have e:z+P.length=a.length:=by omega
  have c1':¬ ((z+P.length:Nat):Int)<(a.length:Nat):=by omega
  have hV:val P=val (a.drop z)/2 ^ s:=by
   rw[hD]
   refine nI (Nat.lt_of_le_of_lt (Nat.div_le_self _ _) ?_)
   have:=eM hLd
   rw[bKQ] at this
   rw[show P.length=a.length-z by omega]
   exact this
  have hs:=L.trim _ hlimP Om
  rw[hV,← hR] at hs
  simp only[go_sem,γ,reduceCtorEq,c1',auJ]
  refine sF hs hO rfl fun F1 H1 _=>?_
  simp only[go_sem]
  exact aV (.inr rfl) .nil rfl PH.nil_le ⟨.refl _,rfl⟩
structure KY (C:Ctx):Prop extends ZU C where
 bits:∀ xs,Lim xs→xs.length≤35184372087808→aH C 31 [aI xs] .nil (aD (.int .i64 (cC (val xs):Nat)))
 upM:∀ (a:List Nat) (n:Nat),Lim a→a.length≤8388608→n≤8388608→(a.length=0→val a=0)→aH C 45 [aI a,.int .i64 n] .nil (mN 1 (aK (aG (val a*2 ^ n))))
 down:∀ (a:List Nat) (n:Nat),Lim a→a.length≤8388608→n≤1000000000→aH C 40 [aI a,.int .i64 n] .nil (aD (aI (aG (val a/2 ^ n))))
def udS:Spec:=fun name vs=>match name,vs with
 | 35,[.int _ v]=>some ([],fun _=>aD (aI (aG v.toNat)))
 | 44,[x,y]=>some ([],fun _=>aD (aI (aG (val (iD x)*val (iD y)))))
 | 32,[x,.osl q _ _ _]=>some ([q],fun H0 r H'=>H'=H0∧∀ xs,Lim xs→H0 q=some (.rows 1 (aK xs))→r=.int .i64 (cY (val (iD x)) (val xs)))
 | _,_=>none
theorem bnW (v:Nat):udS 35 [.int .u64 v]=some ([],fun _=>aD (aI (aG v))):=rfl
theorem bgS (x y:List Nat):udS 44 [aI x,aI y]=some ([],fun _=>aD (aI (aG (val x*val y)))):=by
 show some ([],fun _=>aD (aI (aG (val (iD (aI x))*val (iD (aI y))))))=_; rw[dU,dU]
theorem biT (q:Nat) (x L:List Nat):(PH.nil.set q (.rows 1 (aK L)))=(PH.nil.set q (.rows 1 (aK L)))∧∀ xs,Lim xs→(PH.nil.set q (.rows 1 (aK L))) q=some (.rows 1 (aK xs))→(PV.int .i64 (cY (val x) (val L)))=.int .i64 (cY (val (iD (aI x))) (val xs)):=by
 refine⟨rfl,fun xs hx e=>?_⟩
 rw[jD] at e
 have:aK L=aK xs:=(cE.rows.inj (bKT.inj e)).2
 rw[ND this,dU]
def duF (n o lx:Nat) (y:List Nat) (top oq lq:Nat) (k:Int):PF :=
 ((((((PF.nil.set 10 (.int .i64 n)).set 11 (.osl o 1 0 lx)).set 12 (aI y)).set 13 (.int .u64 top)).set 14 (.osl oq 1 0 lq)).set 15 (.int .i64 k))
abbrev dL (X:List Nat) (Z:List (List PV)):List (List PV):=aK X++Z
theorem JO {X:List Nat} {Z:List (List PV)} {i:Nat} (h:i<X.length):(dL X Z)[i]?=some [.int .u32 ((X[i]:Nat):Int)]:=by
 rw[dL,bLF (by rw[bT]; exact h),bN X h]
theorem avZ {X:List Nat} {Z:List (List PV)} {i:Nat} (h:i<X.length) (v:Nat):(dL X Z).set i [.int .u32 (v:Int)]=dL (X.set i v) Z:=by
 rw[dL,List.set_append_left _ _ (by rw[bT]; exact h),eX]
theorem avY {X:List Nat} {Z:List (List PV)} {j m:Nat} (h:j+m≤X.length):((dL X Z).drop j).take m=aK ((X.drop j).take m):=by
 rw[dL,List.drop_append_of_le_length (by rw[bT]; omega),List.take_append_of_le_length (by rw[bKQ,bT]; omega)]
 unfold aK
 rw[← List.map_drop,← List.map_take]
theorem bwU {C:Ctx} (L:KY C) (n o lx:Nat) (y:List Nat) (top oq lq j:Nat) (X:List Nat) (Z:List (List PV)) (hne:oq≠o) (hy:Lim y) (hX:Lim X) (hlx:X.length=lx) (hl:lx≤5000) (hj:j+(y.length+1)≤lx) (hy0:0<val y)
  (qv:cE) (g0:Nat) (hg:val ((X.drop j).take (y.length+1))/val y≤g0) (hg0:g0<4294967296) (K:bX) (F:PF) (H:PH) (hF:((duF n o lx y top oq lq j).set 17 (.int .u64 g0)).le F) (hH:((PH.nil.set o (.rows 1 (dL X Z))).set oq qv).le H)
  (hK:∀ F' H',((duF n o lx y top oq lq j).set 17 (.int .u64 (val ((X.drop j).take (y.length+1))/val y:Nat))).le F'→((PH.nil.set o (.rows 1 (dL X Z))).set oq qv).le H'→K .normal F' H') :
  aB.wp C (.block 4 (.loop tU)) K F H:=by
 have bHN:¬ o=oq:=fun h=>hne h.symm
 have hWl:((X.drop j).take (y.length+1)).length=y.length+1:=by rw[bJF,bKQ]; omega
 have hWL:Lim ((X.drop j).take (y.length+1)):=(hX.drop _).take _
 have hcut:=avY (X:=X) (Z:=Z) (j:=j) (m:=y.length+1) Om
 have bII:j+(y.length+1)≤(dL X Z).length:=by rw[dL,bIQ,bT]; omega
 have hWn:aK ((X.drop j).take (y.length+1))≠[]:=fun h=>by
  have:=congrArg List.length h
  rw[bT,hWl] at this
  simp at this
 generalize hW:(X.drop j).take (y.length+1)=W at *
 generalize hqq:val W/val y=qq at *
 simp only[go_sem]
 refine wp_loop (α:=Nat) (fun g=>(duF n o lx y top oq lq j).set 17 (.int .u64 g)) (fun _=>(PH.nil.set o (.rows 1 (dL X Z))).set oq qv) (fun g=>qq≤g∧g<4294967296) (fun g=>g) g0 ⟨hg,hg0⟩ hF hH ?_
 rintro g ⟨hge,hlt⟩
 have e1:IntKind.i64.wrap ((j:Int)+((y.length:Nat):Int))=((j+y.length:Nat):Int):=fS Om
 have e2:IntKind.i64.wrap (((j+y.length:Nat):Int)+1)=((j+y.length+1:Nat):Int):=cS Om
 have b1:(j:Int)≤((j+y.length+1:Nat):Int):=by omega
 have b2:((j+y.length+1:Nat):Int)≤(lx:Nat):=by omega
 have b3:j+y.length+1-j=y.length+1:=by omega
 have mk:=L.make g Om
 have tm:=L.times y (aG g) hy (aU _) Om (by
  have h1:nl g≤1:=mT (by rw[Nat.pow_one]; exact hlt)
  rw[aZ]; omega)
 rw[aQ] at tm
 have hnt:(aG (val y*g)).length≤35184372087808:=by
  have h1:nl g≤1:=mT (by rw[Nat.pow_one]; exact hlt)
  have h2:=kO (a:=val y) (b:=g) (eW hy) h1
  rw[aZ]; omega
 have cm:=L.cmp (aG (val y*g)) W (aU _) hWL hnt Om
 rw[aQ] at cm
 simp only[go_sem,tU]
 refine bK .nil udS PH.nil_le ?_
 simp only[go_sem,γ,UJ,duF]
 refine bC (bnW g) mk Sq PH.nil_le ?_
 simp only[go_sem]
 have tS:=bgS y (aG g)
 rw[aQ] at tS
 refine bC tS tm Sq PH.nil_le ?_
 simp only[go_sem,γ,reduceCtorEq,bIM,e1,e2,b1,b2,b3]
 refine yV (src:=aK W) ?_ ?_ (fun h=>absurd h hWn) fun _ o' ho'=>?_
 ·simp only[go_sem,bHN,bII,hcut]
 ·unfold roomFor
  rw[bT,hWl]
  simp only[maxLen]; omega
 refine⟨PH.nil_le,?_⟩
 rw[bT,hWl]
 have n1:¬ o'=oq:=(gT.1 ho').1
 refine biW (o:=o') (s:=1) (rs:=aK W) (vs:=[aI (aG (val y*g)),.osl o' 1 0 (y.length+1)]) (v:=.int .i64 (cY (val y*g) (val W))) rfl (.int _ _) Sq ?_ ?_ ?_ Sq PH.nil_le ?_
 ·rw[bKD,bKD,bKW,wV (by rw[bT,hWl]; exact bIU _),bJD (by rw[bT,hWl]; exact bIU _)]
  exact cm
 ·have:=biT o' (aG (val y*g)) W
  rw[aQ] at this
  exact this
 ·rintro r H' ⟨h1,h2⟩
  have:=h2 W hWL (by rw[jD])
  rw[dU,aQ] at this
  exact⟨this,h1⟩
 simp only[go_sem,γ]
 by_cases c:val W<val y*g
 ·have hc:cY (val y*g) (val W)=1:=by
   unfold cY
   rw[if_neg Om,if_pos c]
  have hq:qq<g:=by rw[← hqq]; exact (bLC hy0).2 (by rw[bJM]; exact c)
  have ew:IntKind.u64.wrap ((g:Int)-1)=((g-1:Nat):Int):=by rw[wrap_u64 Om Om]; omega
  simp only[go_sem,γ,hc,show (1:Int)>0 by decide,UK,ew]
  refine aC (g-1) ⟨by omega,by omega⟩ Om ?_ ?_
  ·exact Lq
  ·refine PH.aF (PH.aF PH.nil_le ?_) ?_
   ·have n2:¬ o=o':=fun h=>by
     subst h
     rw[bA,if_neg bHN,jD] at ho'
     cases ho'
    simp only[go_sem,n2,bHN]
   ·have n3:¬ oq=o':=fun h=>n1 h.symm
    simp only[go_sem,n3]
 ·have hc:¬ cY (val y*g) (val W)>0:=by
   unfold cY
   rw[if_neg c]
   split<;>decide
  have hq:g=qq:=by
   have:g≤qq:=by rw[← hqq]; exact (Nat.le_div_iff_mul_le hy0).2 (by rw[bJM]; omega)
   omega
  simp only[go_sem,hc]
  refine hK _ _ ?_ ?_
  ·unfold duF
   (repeat' (first|exact PF.nil_le|refine PF.aF ?_ ?_))<;>first|(simp only[go_sem,γ,← hq]<;>rfl)|rfl
  ·refine PH.aF (PH.aF PH.nil_le ?_) ?_
   ·have n2:¬ o=o':=fun h=>by
     subst h
     rw[bA,if_neg bHN,jD] at ho'
     cases ho'
    simp only[go_sem,n2,bHN]
   ·have n3:¬ oq=o':=fun h=>n1 h.symm
    simp only[go_sem,n3]
theorem brV (R k:Nat) (h:k<nl R):∃ h':k<(aG R).length,(aG R)[k]=R/4294967296 ^ k%4294967296:=by
 have hl:k<(aG R).length:=by rw[aZ]; exact h
 refine⟨hl,?_⟩
 have h1:=tI (aU R) (Nat.le_of_lt hl)
 rw[aQ,bKE hl] at h1
 have h2:=aU R _ (bIS hl)
 simp only[val] at h1
 rw[← h1,Nat.add_mul_mod_self_left,bJT h2]
theorem bkJ (R k:Nat) (h:nl R≤k):R/4294967296 ^ k%4294967296=0:=by
 rw[bLO ((jE R k).1 h)]
theorem btJ {A P W Z:List Nat} {i:Nat} (hP:P.length=i) (hi:i<W.length) (v:Nat):(A++(P++W.drop i)++Z).set (A.length+i) v=A++((P++[v])++W.drop (i+1))++Z :=
 ND (by rw[← eX]; exact EC hP hi v)
theorem bzI {C:Ctx} (n o lx:Nat) (y:List Nat) (top oq lq j:Nat) (X:List Nat) (Z:List (List PV)) (hne:oq≠o) (hlx:X.length=lx) (hl:lx≤5000) (hj:j+(y.length+1)≤lx)
  (qv:cE) (g R:Nat) (K:bX) (F:PF) (H:PH) (hF:((((duF n o lx y top oq lq j).set 17 (.int .u64 g)).set 18 (aI (aG R))).set 19 (.int .i64 0)).le F) (hH:((PH.nil.set o (.rows 1 (dL X Z))).set oq qv).le H)
  (hK:∀ F' H',((duF n o lx y top oq lq j).set 17 (.int .u64 g)).le F'→((PH.nil.set o (.rows 1 (dL (X.take j++dE (y.length+1) R++X.drop (j+(y.length+1))) Z))).set oq qv).le H'→K .normal F' H') :
  aB.wp C (.block 6 (.loop tV)) K F H:=by
 have bHN:¬ o=oq:=fun h=>hne h.symm
 have hA:(X.take j).length=j:=by rw[bJF]; omega
 have hWl:((X.drop j).take (y.length+1)).length=y.length+1:=by rw[bJF,bKQ]; omega
 have hZl:(X.drop (j+(y.length+1))).length=lx-(j+(y.length+1)):=by rw[bKQ,hlx]
 have hsplit:X.take j++(X.drop j).take (y.length+1)++X.drop (j+(y.length+1))=X:=by
  rw[bJO,← List.drop_drop,bLB,bLB]
 rw[← hsplit] at hH
 generalize hAA:X.take j=A at *
 generalize hWW:(X.drop j).take (y.length+1)=W at *
 generalize hZZ:X.drop (j+(y.length+1))=Zx at *
 simp only[go_sem]
 refine wp_loop (α:=List Nat) (fun P=>(((duF n o lx y top oq lq j).set 17 (.int .u64 g)).set 18 (aI (aG R))).set 19 (.int .i64 P.length)) (fun P=>(PH.nil.set o (.rows 1 (dL (A++(P++W.drop P.length)++Zx) Z))).set oq qv)
  (fun P=>P.length≤y.length+1∧P=dE P.length R) (fun P=>y.length+1-P.length) [] ⟨bIT _,rfl⟩ hF (by simpa using hH) ?_
 rintro P ⟨hP,hD⟩
 simp only[go_sem,γ,tV,UL,duF]
 by_cases c:P.length<y.length+1
 ·have c':(P.length:Int)≤(y.length:Nat):=by omega
  have ei:IntKind.i64.wrap ((j:Int)+(P.length:Int))=((j+P.length:Nat):Int):=fS Om
  have hlen:(A++(P++W.drop P.length)++Zx).length=lx:=by
   simp only[bIQ,bKQ]; omega
  have hi:j+P.length<(A++(P++W.drop P.length)++Zx).length:=by omega
  have b1:((j+P.length:Nat):Int)<(lx:Nat):=by omega
  have r1:=JO (Z:=Z) hi
  have s1:=avZ (Z:=Z) hi 0
  have hi2:j+P.length<((A++(P++W.drop P.length)++Zx).set (j+P.length) 0).length:=by rw[bKU]; exact hi
  have hput:=fun v=>btJ (A:=A) (P:=P) (W:=W) (Z:=Zx) (i:=P.length) rfl Om v
  rw[hA] at hput
  generalize hXX:A++(P++W.drop P.length)++Zx=XX at *
  have r2:(dL (A++((P++[0])++W.drop (P.length+1))++Zx) Z)[j+P.length]?=some [.int .u32 ((0:Nat):Int)]:=by
   rw[← hput 0,JO hi2,List.getElem_set_self]
  have s2:∀ v,(dL (A++((P++[0])++W.drop (P.length+1))++Zx) Z).set (j+P.length) [.int .u32 ((v:Nat):Int)]=dL (A++((P++[v])++W.drop (P.length+1))++Zx) Z:=by
   intro v
   rw[← hput 0,avZ hi2,List.set_set,hput]
  have bHK:=uD P.length R
  rw[← hD] at bHK
  have ew:IntKind.i64.wrap ((P.length:Int)+1)=((P.length+1:Nat):Int):=cS Om
  simp only[go_sem,γ,c',UM,ei,b1,bHN,r1,show ([PV.int .u32 (0:Int)])=[PV.int .u32 ((0:Nat):Int)] from rfl,s1,UN,aZ]
  by_cases c2:P.length<nl R
  ·have c2':(P.length:Int)<(nl R:Nat):=by omega
   obtain⟨hl',hv⟩:=brV R P.length c2
   have hr:=bN (aG R) hl'
   rw[hv] at hr
   simp only[go_sem,γ,c2',UO,hr,ei,b1,bHN,r2,s2,List.set_set,hput,CO,ew]
   refine aC (P++[R/4294967296 ^ P.length%4294967296]) ⟨by simp; omega,by rw[bIQ,bIX]; exact bHK.symm⟩ (by simp; omega) ?_ ?_
   ·rw[bIQ,bIX]
    exact Lq
   ·rw[bIQ,bIX]
    refine PH.aF (PH.aF PH.nil_le ?_) ?_<;>simp only[go_sem,bHN,show ¬ oq=o from hne]
  ·have c2':¬ (P.length:Int)<(nl R:Nat):=by omega
   have hv:=bkJ R P.length Om
   rw[hv] at bHK
   simp only[go_sem,γ,c2',hput,CO,ew]
   refine aC (P++[0]) ⟨by simp; omega,by rw[bIQ,bIX]; exact bHK.symm⟩ (by simp; omega) ?_ ?_
   ·rw[bIQ,bIX]
    exact Lq
   ·rw[bIQ,bIX]
    refine PH.aF (PH.aF PH.nil_le ?_) ?_<;>simp only[go_sem,bHN,show ¬ oq=o from hne]
 ·have c':¬ (P.length:Int)≤(y.length:Nat):=by omega
  have e:P.length=y.length+1:=by omega
  simp only[go_sem,c']
  refine hK _ _ (by unfold duF; exact Lq) ?_
  have h2:A++dE (y.length+1) R++Zx=A++(P++W.drop P.length)++Zx:=by
   rw[bLT Om,bJZ,← e,← hD]
  rw[h2]
  exact PH.le_refl
theorem bjY {y W:List Nat} {m:Nat} (hy:Lim y) (hW:Lim W) (hly:y.length=m+1) (hlW:W.length=m+2) (ht:0<y[m]):val W/val y≤(4294967296*W[m+1]+W[m])/y[m]:=by
 have h1:=bW y (Om:m<y.length)
 rw[bJD Om] at h1
 have h2:=bW W (Om:m+1<W.length)
 rw[bJD Om,bW W (Om:m<W.length)] at h2
 have h3:=eM (hW.take m)
 rw[bJF,bKJ Om] at h3
 have hp:0<4294967296 ^ m:=bKY (by decide)
 have hb:4294967296 ^ m*y[m]≤val y:=by omega
 have hpos:0<4294967296 ^ m*y[m]:=Nat.mul_pos hp ht
 have e:val W=val (W.take m)+4294967296 ^ m*(4294967296*W[m+1]+W[m]):=by
  rw[h2,bKB,bJA,bJH]; omega
 refine bKG (Nat.div_le_div_left hb hpos) ?_
 rw[← Nat.div_div_eq_div_mul,e,Nat.add_mul_div_left _ _ hp,bLO h3,bJJ]
 exact bIU _
theorem bgT {C:Ctx} (L:KY C) (U0 n o lx lq oq m:Nat) (y z:List Nat) (hne:oq≠o) (hy:Lim y) (hly:y.length=m+1) (ht:0<y[m]) (hlu:lx=lq+(m+1)) (bID:lx≤5000) (X:List Nat) (hI:nS U0 (val y) (m+1) lx lq lq X (bIP lq 0)) (K:bX) (F:PF) (H:PH)
  (hF:(duF n o lx y (y[m]) oq lq ((lq:Int)-1)).le F) (hH:((PH.nil.set o (.rows 1 (dL X (aK z)))).set oq (.rows 1 (aK (bIP lq 0)))).le H)
  (hK:∀ X' Q' F' H',nS U0 (val y) (m+1) lx lq 0 X' Q'→(duF n o lx y (y[m]) oq lq (-1)).le F'→((PH.nil.set o (.rows 1 (dL X' (aK z)))).set oq (.rows 1 (aK Q'))).le H'→K .normal F' H') :
  aB.wp C (.block 2 (.loop tW)) K F H:=by
 have bHN:¬ o=oq:=fun h=>hne h.symm
 have hne2:¬ oq=o:=hne
 have hV:val y<4294967296 ^ (m+1):=by have:=eM hy; rw[hly] at this; exact this
 have hV0:0<val y:=by
  have h1:=bW y (Om:m<y.length)
  rw[bJD Om] at h1
  have:0<4294967296 ^ m*y[m]:=Nat.mul_pos (bKY (by decide)) ht
  omega
 have htl:=hy _ (bIS (Om:m<y.length))
 generalize htop:y[m]=top at *
 simp only[go_sem]
 refine wp_loop (α:=Nat × List Nat × List Nat) (fun t=>duF n o lx y top oq lq ((t.1:Int)-1)) (fun t=>(PH.nil.set o (.rows 1 (dL t.2.1 (aK z)))).set oq (.rows 1 (aK t.2.2)))
  (fun t=>t.1≤lq∧nS U0 (val y) (m+1) lx lq t.1 t.2.1 t.2.2) (fun t=>t.1) (lq,X,bIP lq 0) ⟨bIU _,hI⟩ hF hH ?_
 rintro⟨k,X,Q⟩ ⟨hk,hI⟩
 simp only at hk hI
 simp only[go_sem,γ,tW,UE,duF]
 by_cases h0:0<k
 ·obtain⟨j,rfl⟩:∃ j,k=j+1:=⟨k-1,by omega⟩
  have hz:((j+1:Nat):Int)-1=(j:Int):=by omega
  have hge:(j:Int)≥0:=by omega
  have dst:=azX hI hV Om hlu
  rw[show m+1+1=m+2 from rfl] at dst
  obtain⟨hlt,hI'⟩:=dst
  have hXl:=hI.lu'
  have hQl:=hI.lq'
  have hWl:((X.drop j).take (m+2)).length=m+2:=by rw[bJF,bKQ]; omega
  have hWL:Lim ((X.drop j).take (m+2)):=(hI.limU.drop _).take _
  have hg1:m+1<((X.drop j).take (m+2)).length:=by omega
  have hg0:m<((X.drop j).take (m+2)).length:=by omega
  have a1:j+(m+1)<X.length:=by omega
  have a0:j+m<X.length:=by omega
  have w1:((X.drop j).take (m+2))[m+1]=X[j+(m+1)]:=by simp
  have w0:((X.drop j).take (m+2))[m]=X[j+m]:=by simp
  have hgu:=bjY hy hWL hly hWl (by rw[htop]; exact ht)
  rw[w1,w0,htop] at hgu
  have r1:=JO (Z:=aK z) a1
  have r0:=JO (Z:=aK z) a0
  have l1:=hI.limU _ (bIS a1)
  have l0:=hI.limU _ (bIS a0)
  generalize hx1:X[j+(m+1)]=x1 at *
  generalize hx0:X[j+m]=x0 at *
  have e1:IntKind.i64.wrap ((j:Int)+((y.length:Nat):Int))=((j+(m+1):Nat):Int):=by rw[hly]; exact fS Om
  have e0:IntKind.i64.wrap (((j+(m+1):Nat):Int)-1)=((j+m:Nat):Int):=by rw[wrap_i64 Om Om]; omega
  have b1:((j+(m+1):Nat):Int)<(lx:Nat):=by omega
  have b0:((j+m:Nat):Int)<(lx:Nat):=by omega
  have ex1:IntKind.u64.wrap ((x1:Nat):Int)=((x1:Nat):Int):=bE Om
  have ex0:IntKind.u64.wrap ((x0:Nat):Int)=((x0:Nat):Int):=bE Om
  have esh:shift .shl .u64 (x1:Int) 32=some (.int .u64 ((2 ^ 32*x1:Nat):Int)):=HV (s:=32) Om Om
  have e32:(2:Nat) ^ 32=4294967296:=by decide
  have eor:=orI (a:=2 ^ 32*x1) (b:=x0) (n:=2 ^ 32*x1+x0) Om Om (Nat.two_pow_add_eq_or_of_lt Om x1).symm Om
  rw[e32] at esh eor
  have hdd:¬ ((top:Nat):Int)=0:=by omega
  have hq64:(4294967296*x1+x0)/top<18446744073709551616:=Nat.lt_of_le_of_lt (Nat.div_le_self _ _) Om
  have equo:IntKind.u64.wrap (Int.tdiv ((4294967296*x1+x0:Nat):Int) ((top:Nat):Int))=(((4294967296*x1+x0)/top:Nat):Int):=by
   rw[show Int.tdiv ((4294967296*x1+x0:Nat):Int) ((top:Nat):Int)=(((4294967296*x1+x0)/top:Nat):Int) from rfl]
   exact bE hq64
  have hqB:val ((X.drop j).take (m+2))/val y<4294967296:=(bLC hV0).2 (by rw[bJM]; exact hlt)
  have hcut:=avY (X:=X) (Z:=aK z) (j:=j) (m:=m+2) Om
  have bII:j+(m+2)≤(dL X (aK z)).length:=by rw[dL,bIQ,bT]; omega
  have hrest:val ((X.drop j).take (m+2))-val y*(val ((X.drop j).take (m+2))/val y)=val ((X.drop j).take (m+2))%val y:=by
   have:=bLN (val ((X.drop j).take (m+2))) (val y)
   omega
  have hmulle:val y*(val ((X.drop j).take (m+2))/val y)≤val ((X.drop j).take (m+2)):=Nat.mul_div_le _ _
  clear w1 w0
  have gu:=fun g0=>bwU (C:=C) L n o lx y top oq lq j X (aK z) hne hy hI.limU hXl bID Om hV0 (.rows 1 (aK Q)) g0
  rw[hly,show m+1+1=m+2 from rfl] at gu
  generalize hW:(X.drop j).take (m+2)=W at *
  generalize hqq:val W/val y=qq at *
  have hWn:aK W≠[]:=fun h=>by
   have:=congrArg List.length h
   rw[bT,hWl] at this
   simp at this
  have tail:∀ (g0:Nat) (F:PF) (H:PH),qq≤g0→g0<4294967296→((duF n o lx y top oq lq j).set 17 (.int .u64 g0)).le F→((PH.nil.set o (.rows 1 (dL X (aK z)))).set oq (.rows 1 (aK Q))).le H →
    aB.wp C (.seq (.block 4 (.loop tU)) (.seq (.region CM) (.seq (.seq (.region CN) (.block 6 (.loop tV))) (.region CP)))) (dJ 3 (hC C (aB.wp C (.region CQ)) (dQ (fun (t:Nat × List Nat × List Nat)=>duF n o lx y top oq lq ((t.1:Int)-1)) (fun t=>(PH.nil.set o (.rows 1 (dL t.2.1 (aK z)))).set oq (.rows 1 (aK t.2.2))) (fun t=>t.1≤lq∧nS U0 (val y) (m+1) lx lq t.1 t.2.1 t.2.2) (fun t=>t.1) (j+1) (dJ 2 K)))) F H:=by
   intro g0 F H hg hgB hF hH
   have gu:=gu g0 hg hgB
   simp only[go_sem] at gu
   simp only[go_sem]
   refine gu _ F H hF hH ?_
   intro F1 H1 hF1 hH1
   have f11:F1 11=some (.osl o 1 0 lx):=hF1 11 _ (by unfold duF; simp only[go_sem,γ])
   have f12:F1 12=some (aI y):=hF1 12 _ (by unfold duF; simp only[go_sem,γ])
   have f15:F1 15=some (.int .i64 j):=hF1 15 _ (by unfold duF; simp only[go_sem,γ])
   have f17:F1 17=some (.int .u64 (qq:Nat)):=hF1 17 _ (by unfold duF; simp only[go_sem,γ])
   have f10:F1 10=some (.int .i64 n):=hF1 10 _ (by unfold duF; simp only[go_sem,γ])
   have f13:F1 13=some (.int .u64 top):=hF1 13 _ (by unfold duF; simp only[go_sem,γ])
   have f14:F1 14=some (.osl oq 1 0 lq):=hF1 14 _ (by unfold duF; simp only[go_sem,γ])
   have ho:H1 o=some (.rows 1 (dL X (aK z))):=hH1 o _ (by simp only[go_sem,bHN])
   have hoq:H1 oq=some (.rows 1 (aK Q)):=hH1 oq _ Sq
   have b3:(j:Int)≤((j+(m+1)+1:Nat):Int):=by omega
   have b4:((j+(m+1)+1:Nat):Int)≤(lx:Nat):=by omega
   have b5:j+(m+1)+1-j=m+2:=by omega
   have e2:IntKind.i64.wrap (((j+(m+1):Nat):Int)+1)=((j+(m+1)+1:Nat):Int):=cS Om
   simp only[go_sem,γ,reduceCtorEq,CM,f11,f15,f12,bIM,e1,e2,b3,b4,b5]
   refine yV (src:=aK W) ?_ ?_ (fun h=>absurd h hWn) fun _ o' ho'=>?_
   ·simp only[go_sem,ho,bII,hcut]
   ·unfold roomFor
    rw[bT,hWl]
    simp only[maxLen]; omega
   rw[bT,hWl]
   have n1:¬ oq=o':=fun h=>by subst h; rw[hoq] at ho'; cases ho'
   have n2:¬ o=o':=fun h=>by subst h; rw[ho] at ho'; cases ho'
   have nq:nl qq≤1:=mT (by rw[Nat.pow_one]; exact hqB)
   have tm:=L.times y (aG qq) hy (aU _) Om (by rw[aZ]; omega)
   rw[aQ] at tm
   have nW:=eW hWL
   have mn:=L.minus W (aG (val y*qq)) hWL (aU _) (by rw[aQ]; exact hmulle) (by rw[aZ]; exact bKG (fF hmulle) nW) Om
   rw[aQ,hrest] at mn
   have hWt:(aK W).take (m+2)=aK W:=bJD (by rw[bT]; omega)
   simp only[go_sem,f17]
   refine aA (L.make qq Om) Sq ?_
   simp only[go_sem,f12]
   refine aA tm Sq ?_
   simp only[go_sem]
   refine pP (o:=o') (s:=1) (rs:=aK W) mn Sq (by simp only[go_sem,γ,show m+2≤W.length by omega,hWt]) ?_
   simp only[go_sem,γ,CN]
   have hfx:(dL X (aK z)).map (fun r=>r.map (PV.dP o' 1 (aK W)))=dL X (aK z):=by
    have:dL X (aK z)=aK (X++z):=by simp[dL,aK]
    rw[this]; exact qO _ _ _ _
   have hfq:(aK Q).map (fun r=>r.map (PV.dP o' 1 (aK W)))=aK Q:=qO _ _ _ _
   have ur:=bzI (C:=C) n o lx y top oq lq j X (aK z) hne hXl bID Om (.rows 1 (aK Q)) qq (val W%val y)
   rw[hly,show m+1+1=m+2 from rfl] at ur
   simp only[go_sem] at ur
   refine ur _ _ _ ?_ ?_ ?_
   ·unfold duF
    (repeat' (first|exact PF.nil_le|refine PF.aF ?_ ?_))<;>first|(simp only[go_sem,γ,f10,f11,f12,f13,f14,f15,f17,n1,n2]<;>rfl)|rfl
   ·refine PH.aF (PH.aF PH.nil_le ?_) ?_
    ·simp only[go_sem,bHN,n2,ho,cE.frz,hfx]
    ·simp only[go_sem,n1,hoq,cE.frz,hfq]
   intro F3 H3 hF3 hH3
   have k10:F3 10=some (.int .i64 n):=hF3 10 _ (by unfold duF; simp only[go_sem,γ])
   have k11:F3 11=some (.osl o 1 0 lx):=hF3 11 _ (by unfold duF; simp only[go_sem,γ])
   have k12:F3 12=some (aI y):=hF3 12 _ (by unfold duF; simp only[go_sem,γ])
   have k13:F3 13=some (.int .u64 top):=hF3 13 _ (by unfold duF; simp only[go_sem,γ])
   have k14:F3 14=some (.osl oq 1 0 lq):=hF3 14 _ (by unfold duF; simp only[go_sem,γ])
   have k15:F3 15=some (.int .i64 j):=hF3 15 _ (by unfold duF; simp only[go_sem,γ])
   have k17:F3 17=some (.int .u64 qq):=hF3 17 _ (by unfold duF; simp only[go_sem,γ])
   have ho3:H3 o=some (.rows 1 (dL (X.take j++dE (m+2) (val W%val y)++X.drop (j+(m+2))) (aK z))):=hH3 o _ (by simp only[go_sem,bHN])
   have hq3:H3 oq=some (.rows 1 (aK Q)):=hH3 oq _ Sq
   have hjq:j<Q.length:=by omega
   have rq:=bN Q hjq
   have hjl:(j:Int)<(lq:Nat):=by omega
   have sq:=eX Q j qq
   have ec:IntKind.u32.wrap ((qq:Nat):Int)=((qq:Nat):Int):=by rw[cA,bJT hqB]
   have ej:IntKind.i64.wrap ((j:Int)-1)=(j:Int)-1:=wrap_i64 Om Om
   simp only[go_sem,γ,CP,k14,k15,k17,hjl,hq3,rq,ec,sq,CQ,ej]
   refine aC (α:=Nat × List Nat × List Nat) (j,_,_) ⟨by simp only; omega,hI'⟩ (by simp only; omega) ?_ ?_
   ·unfold duF
    (repeat' (first|exact PF.nil_le|refine PF.aF ?_ ?_))<;>first|(simp only[go_sem,γ,k10,k11,k12,k13,k14]<;>rfl)|rfl
   ·refine PH.aF (PH.aF PH.nil_le ?_) ?_
    ·simp only[go_sem,bHN,ho3]
    ·simp only[go_sem]
  simp only[aB.wp,go_sem] at tail
  simp only[go_sem,hz,hge]
  refine bK .nil dC PH.nil_le ?_
  simp only[go_sem,γ,reduceCtorEq,UF,e1,e0,b1,b0,bHN,r1,r0,ex1,ex0,esh,eor,UG,hdd,equo,UH]
  by_cases c:(4294967296*x1+x0)/top>4294967295
  ·have c':(((4294967296*x1+x0)/top:Nat):Int)>4294967295:=by omega
   simp only[go_sem,c',UI]
   exact tail 4294967295 _ _ Om (by decide) (by unfold duF; exact Lq) PH.le_refl
  ·have c':¬ (((4294967296*x1+x0)/top:Nat):Int)>4294967295:=by omega
   simp only[go_sem,c']
   exact tail _ _ _ hgu Om (by unfold duF; exact Lq) PH.le_refl
 ·have:k=0:=by omega
  subst this
  have hz:¬ ((0:Nat):Int)-1≥0:=by decide
  simp only[go_sem,hz]
  refine hK X Q _ _ hI ?_ PH.le_refl
  unfold duF
  (repeat' (first|exact PF.nil_le|refine PF.aF ?_ ?_))<;>first|(simp only[go_sem,ο,γ,show ((0:Nat):Int)-1=-1 from rfl]<;>rfl)|rfl
def bnV (a:List Nat) (d q k r:Nat):PF:=(((((PF.nil.set 0 (aI a)).set 1 (aI [d])).set 6 (.osl q 1 0 a.length)).set 7 (.int .u64 r)).set 8 (.int .i64 ((k:Int)-1)))
theorem a8S {C:Ctx} (L:KY C) (a:List Nat) (d:Nat) (ha:Lim a) (hd0:0<d) (hd:d<4294967296) (h1:a.length≤1000) (F:PF) (f0:F 0=some (aI a)) (f1:F 1=some (aI [d])) :
  aB.wp C (.seq (.region IR) (.seq (.region IS) (.seq (.seq (.region IT) (.block 0 (.loop CG))) (.seq (.region CH) .ret)))) (aR [.tmp 4,.tmp 5] (bP (pH (val a) d))) F .nil:=by
 have hm1:((a.length:Nat):Int)*((4:Nat):Int)≤140737488355328:=by omega
 have hm2:((a.length:Nat):Int)≤9223372036854775807:=by omega
 have hz:bIP a.length [PV.int .u32 0]=aK (bIP a.length 0++[]):=by
  simp[aK]
 simp only[go_sem,γ,IR,f0,bIM,hm1,hm2,hz]
 refine aO fun o ho=>?_
 simp only[go_sem,γ,reduceCtorEq,IS,IT,f0,bIM]
 refine wp_loop (α:=Nat × List Nat × Nat) (fun t=>bnV a d o t.1 t.2.2) (fun t=>PH.nil.set o (.rows 1 (aK (bIP t.1 0++t.2.1))))
  (fun t=>t.1+t.2.1.length=a.length∧Lim t.2.1∧t.2.2<d∧val t.2.1*d+t.2.2=val (a.drop t.1)) (fun t=>t.1) (a.length,[],0) ⟨by simp,by simp[Lim],hd0,by simp[val]⟩ ?_ ?_ ?_
 ·unfold bnV
  (repeat' (first|exact PF.nil_le|refine PF.aF ?_ ?_))<;>first|(simp only[go_sem,γ,reduceCtorEq,f0,f1,wrap_i64 (Om:-9223372036854775808≤((a.length:Nat):Int)-1) (Om:((a.length:Nat):Int)-1≤9223372036854775807)]<;>rfl)|rfl
 ·exact PH.aF PH.nil_le Sq
 rintro⟨k,S,r⟩ ⟨hk,bHF,hr,bHB⟩
 simp only at hk bHF hr bHB
 simp only[go_sem,γ,reduceCtorEq,CG,agD,bnV]
 by_cases h0:0<k
 ·obtain⟨m,rfl⟩:∃ m,k=m+1:=⟨k-1,by omega⟩
  have hzz:((m+1:Nat):Int)-1=(m:Int):=by omega
  have hge:(m:Int)≥0:=by omega
  have hml:m<a.length:=by omega
  have hlt:(m:Int)<(a.length:Nat):=by omega
  have hai:=ha _ (bIS hml)
  have hdrop:val (a.drop m)=a[m]+4294967296*val (a.drop (m+1)):=by rw[bKE hml]; rfl
  have hax:=bN a hml
  generalize hx:a[m]=x at *
  have ex:IntKind.u64.wrap ((x:Nat):Int)=((x:Nat):Int):=bE Om
  have ed:IntKind.u64.wrap ((d:Nat):Int)=((d:Nat):Int):=bE Om
  have esh:shift .shl .u64 (r:Int) 32=some (.int .u64 ((2 ^ 32*r:Nat):Int)):=HV (s:=32) Om Om
  have e32:(2:Nat) ^ 32=4294967296:=by decide
  have eor:=orI (a:=2 ^ 32*r) (b:=x) (n:=2 ^ 32*r+x) Om Om (Nat.two_pow_add_eq_or_of_lt Om r).symm Om
  rw[e32] at esh eor
  have hq:(4294967296*r+x)/d<4294967296:=by
   rw[bLC hd0]
   have:4294967296*(r+1)≤4294967296*d:=bKO _ hr
   omega
  have hdd:¬ ((d:Nat):Int)=0:=by omega
  have equo:IntKind.u64.wrap (Int.tdiv ((4294967296*r+x:Nat):Int) ((d:Nat):Int))=(((4294967296*r+x)/d:Nat):Int):=by
   rw[show Int.tdiv ((4294967296*r+x:Nat):Int) ((d:Nat):Int)=(((4294967296*r+x)/d:Nat):Int) from rfl]
   exact bE Om
  have erem:Int.tmod ((4294967296*r+x:Nat):Int) ((d:Nat):Int)=(((4294967296*r+x)%d:Nat):Int):=rfl
  have ec:IntKind.u32.wrap (((4294967296*r+x)/d:Nat):Int)=(((4294967296*r+x)/d:Nat):Int):=by rw[cA,bJT hq]
  have bIH:bIP (m+1) 0++S=bIP m 0++(0::S):=by
   rw[List.replicate_succ',bJO]; rfl
  have hin:(aK (bIP m 0++(0::S)))[m]?=some [.int .u32 ((0:Nat):Int)]:=by
   rw[bN _ (by simp)]; simp
  have bGV:(aK (bIP m 0++(0::S))).set m [.int .u32 (((4294967296*r+x)/d:Nat):Int)]=aK (bIP m 0++(((4294967296*r+x)/d)::S)):=by
   rw[eX,bLM _ _ (by simp)]; simp
  simp only[go_sem,ν,γ,reduceCtorEq,hzz,hge,agE,esh,hax,ex,eor,agF,ed,hdd,equo,ec,hlt,bIH,hin,bGV,UA,erem,UB]
  refine aC (m,((4294967296*r+x)/d)::S,(4294967296*r+x)%d) ⟨by simp only[bLG]; omega,fun y hy=>?_,bJX _ hd0,?_⟩ (by simp only; omega) ?_ (PH.aF PH.nil_le Sq)
  ·rw[bJB] at hy
   rcases hy with rfl | hy
   ·exact hq
   ·exact bHF y hy
  ·simp only[val]
   rw[hdrop,← bHB,bJP,bJA,bJH]
   have:=bLN (4294967296*r+x) d
   rw[bJM d] at this
   omega
  ·(repeat' (first|exact PF.nil_le|refine PF.aF ?_ ?_))<;>first|(simp only[go_sem,γ,reduceCtorEq,wrap_i64 (Om:-9223372036854775808≤(m:Int)-1) (Om:(m:Int)-1≤9223372036854775807)]<;>rfl)|rfl
 ·have:k=0:=by omega
  subst this
  have hzz:¬ ((0:Nat):Int)-1≥0:=by decide
  rw[bJR] at bHB
  have hS:S.length=a.length:=by omega
  have hq:val S=val a/d:=by
   rw[← bHB,bJM,Nat.mul_add_div hd0,bLO hr,bKF]
  have hrm:r=val a%d:=by rw[← bHB,bJM,Nat.mul_add_mod,bJT hr]
  have hn0:bIP 0 0++S=S:=by simp
  have hl:=L.trim S bHF Om
  have hSt:(aK S).take a.length=aK S:=bJD (by rw[bT]; omega)
  simp only[go_sem,υ,γ,reduceCtorEq,hzz,CH,List.nil_append]
  refine pP (o:=o) (s:=1) (rs:=aK S) hl Sq (by simp only[go_sem,γ,reduceCtorEq,hSt,show a.length≤S.length by omega]) ?_
  simp only[go_sem,γ,reduceCtorEq]
  refine aA (L.make r Om) Sq ?_
  simp only[go_sem,γ,reduceCtorEq]
  refine aV (vs:=[aI (aG (val S)),aI (aG r)]) (.inr rfl) .nil Ev PH.nil_le ⟨?_,rfl⟩
  rw[hq,hrm]
  exact .refl _
theorem bpU {B m:Nat} (h:nl B=m+1):32*m<cC B∧cC B≤32*(m+1):=by
 refine⟨?_,(lC B (m+1)).2 Om⟩
 rcases bJG (32*m) (cC B) with h1 | h1
 ·exact h1
 ·have:=(lC B m).1 h1
  omega
theorem bpV {B:Nat} (h:B≠0):2 ^ (cC B-1)≤B:=by
 rcases bJG B (2 ^ (cC B-1)) with h1 | h1
 ·have h2:=(kZ B _).2 h1
  have h3:cC B≠0:=fun e=>h (jK.1 e)
  omega
 ·exact h1
theorem a8T {C:Ctx} (L:KY C) (A B:Nat) (hB:B≠0) (hA:nl A≤512) (hBl:nl B≤512) :
  yO.wp C (aR RT.res (bP (pH A B))) (PF.args [aI (aG A),aI (aG B)]) .nil:=by
 have LA:=aU A
 have LB:=aU B
 have vA:=aQ A
 have vB:=aQ B
 have lA:(aG A).length=nl A:=rfl
 have lB:(aG B).length=nl B:=rfl
 simp only[go_sem,γ,reduceCtorEq,yO,afZ,agA,RT]
 refine aA (L.cmp _ _ LA LB Om Om) rfl ?_
 rw[vA,vB]
 by_cases c1:A<B
 ·have hc:cY A B<0:=by simp[cY,c1]
  simp only[go_sem,γ,reduceCtorEq,hc,agB]
  refine aA (L.trim _ LA Om) rfl ?_
  rw[vA]
  simp only[go_sem,γ]
  refine aV (vs:=[.bGI,aI (aG A)]) (.inr rfl) .nil rfl PH.nil_le ⟨?_,rfl⟩
  rw[pH,bLO c1,bJT c1,fA]
  exact CoL.tup (CoL.cons (.nil 1) (CoL.cons (.refl _) .nil))
 have hc:¬ cY A B<0:=by
  unfold cY
  rw[if_neg c1]
  split<;>decide
 have hB0:0<B:=bKP hB
 have hnB:nl B≠0:=fun h=>hB (gJ.1 h)
 simp only[go_sem,γ,hc,agC,bIM,lB]
 by_cases c2:nl B=1
 ·have hBB:B<4294967296:=by have:=(jE B 1).1 Om; simpa using this
  have hlb:aG B=[B]:=nE hB hBB
  have sh:=a8S (C:=C) L (aG A) B LA hB0 hBB Om
  rw[vA] at sh
  simp only[aB.wp,go_sem] at sh
  simp only[go_sem,bO (Om:((nl B:Nat):Int)=1)]
  exact sh _ rfl (by simp only[go_sem,γ,hlb])
 obtain⟨m,hm⟩:∃ m,nl B=m+1:=⟨nl B-1,by omega⟩
 have hm1:1≤m:=by omega
 obtain⟨hb1,hb2⟩:=bpU hm
 obtain⟨n,hn⟩:∃ n,n+cC B=32*(m+1):=⟨32*(m+1)-cC B,by omega⟩
 have hn32:n<32:=by omega
 have hp2:0<2 ^ n:=bKY (by decide)
 have hBlt:B<2 ^ cC B:=(kZ B _).1 (bIU _)
 have hBge:=bpV hB
 have hVhi:B*2 ^ n<4294967296 ^ (m+1):=by
  have:B*2 ^ n<2 ^ cC B*2 ^ n:=Nat.mul_lt_mul_of_pos_right hBlt hp2
  rw[← Nat.pow_add,show cC B+n=32*(m+1) by omega,Nat.pow_mul] at this
  exact this
 have hVlo:4294967296 ^ m*2147483648≤B*2 ^ n:=by
  have:2 ^ (cC B-1)*2 ^ n≤B*2 ^ n:=bJQ _ hBge
  rw[← Nat.pow_add,show cC B-1+n=32*m+31 by omega,Nat.pow_add,Nat.pow_mul] at this
  exact this
 have nV:nl (B*2 ^ n)=m+1:=by
  have h1:=(jE (B*2 ^ n) (m+1)).2 hVhi
  rcases bJG (nl (B*2 ^ n)) (m+1) with h | h
  ·have:=(jE (B*2 ^ n) m).1 Om
   have hpp:0<4294967296 ^ m:=bKY (by decide)
   omega
  ·omega
 have hV0:B*2 ^ n≠0:=Nat.mul_ne_zero hB Om
 have nU1:nl (A*2 ^ n)≤nl A+1:=kO (bIU _) (mT (by rw[Nat.pow_one]; exact Nat.pow_lt_pow_right (a:=2) (m:=n) (n:=32) (by decide) hn32))
 have hUV:B*2 ^ n≤A*2 ^ n:=bJQ _ Om
 have nUV:m+1≤nl (A*2 ^ n):=by rw[← nV]; exact fF hUV
 have hU0:A*2 ^ n≠0:=by omega
 have e32:IntKind.i64.wrap (32*((nl B:Nat):Int))=((32*(m+1):Nat):Int):=by rw[wrap_i64 Om Om]; omega
 have en:IntKind.i64.wrap (((32*(m+1):Nat):Int)-((cC B:Nat):Int))=(n:Int):=by rw[wrap_i64 Om Om]; omega
 have bt:=L.bits (aG B) LB Om
 rw[vB] at bt
 have ua:=L.upM (aG A) n LA Om Om (fun h=>by have:=eM LA; rw[h] at this; omega)
 have ub:=(L.upM (aG B) n LB Om Om (fun h=>by have:=eM LB; rw[h] at this; omega)).freeze
 rw[vA] at ua
 rw[vB] at ub
 have tail:∀ (o:Nat) (F:PF) (H:PH),F 0=some (aI (aG A))→F 1=some (aI (aG B))→F 10=some (.int .i64 n)→F 11=some (.osl o 1 0 (nl (A*2 ^ n)+2))→F 12=some (aI (aG (B*2 ^ n)))→H o=some (.rows 1 (aK (aG (A*2 ^ n))++[[.int .u32 0],[.int .u32 0]])) →
   aB.wp C (.seq (.region CI) (.seq (.region CJ) (.seq (.region CK) (.seq (.seq (.region CL) (.block 2 (.loop tW))) (.seq (.region CR) .ret))))) (aR [.tmp 4,.tmp 5] (bP (pH A B))) F H:=by
  intro o F H f0 f1 f10 f11 f12 hH
  have LU:=aU (A*2 ^ n)
  have LV:=aU (B*2 ^ n)
  have vU:=aQ (A*2 ^ n)
  have vV:=aQ (B*2 ^ n)
  have lU:(aG (A*2 ^ n)).length=nl (A*2 ^ n):=rfl
  have lV:(aG (B*2 ^ n)).length=m+1:=nV
  have eu:IntKind.i64.wrap (((nl (A*2 ^ n):Nat):Int)+1)=((nl (A*2 ^ n)+1:Nat):Int):=cS Om
  have b1:((nl (A*2 ^ n)+1:Nat):Int)≤((nl (A*2 ^ n)+2:Nat):Int):=by omega
  simp only[go_sem,γ,reduceCtorEq,CI,f11,f0,f10]
  refine aA ua.freeze rfl ?_
  obtain⟨lq,hlq⟩:∃ lq,nl (A*2 ^ n)+1-(m+1)=lq:=⟨_,rfl⟩
  have hlx:nl (A*2 ^ n)+1=lq+(m+1):=by omega
  have em:IntKind.i64.wrap (((m+1:Nat):Int)-1)=((m:Nat):Int):=by rw[wrap_i64 Om Om]; omega
  have hmV:m<(aG (B*2 ^ n)).length:=by omega
  have rm:=bN (aG (B*2 ^ n)) hmV
  have tl:=LV _ (bIS hmV)
  have htop:0<(aG (B*2 ^ n))[m]:=by
   have h1:=bW (aG (B*2 ^ n)) hmV
   rw[bJD Om,vV] at h1
   have h2:=eM (LV.take m)
   rw[bJF,bKJ Om] at h2
   have hpp:0<4294967296 ^ m:=bKY (by decide)
   rcases bKN (aG (B*2 ^ n))[m] with h | h
   ·rw[h] at h1; omega
   ·exact h
  have htop31:2147483648≤(aG (B*2 ^ n))[m]:=by
   have h1:=bW (aG (B*2 ^ n)) hmV
   rw[bJD Om,vV] at h1
   have h2:=eM (LV.take m)
   rw[bJF,bKJ Om] at h2
   rcases bJG (aG (B*2 ^ n))[m] 2147483648 with h | h
   ·exfalso
    have h3:4294967296 ^ m*((aG (B*2 ^ n))[m]+1)≤4294967296 ^ m*2147483648:=bKO _ h
    rw[bJA,Nat.mul_one] at h3
    omega
   ·exact h
  have key0:=bgT (C:=C) L (A*2 ^ n) n o (nl (A*2 ^ n)+1) lq
  have hI:nS (A*2 ^ n) (val (aG (B*2 ^ n))) (m+1) (nl (A*2 ^ n)+1) lq lq (aG (A*2 ^ n)++[0]) (bIP lq 0):=by
   refine⟨by rw[bIQ,lU]; rfl,List.length_replicate,LU.app fun x hx=>by simp at hx; omega,uH _,?_,?_,fun i x _ hx=>aOP hx⟩
   ·rw[fL,vU,qY]; simp[val]
   ·have hlen:(aG (A*2 ^ n)++[0]).length=nl (A*2 ^ n)+1:=by rw[bIQ,lU]; rfl
    have hv0:val (aG (A*2 ^ n)++[0])=A*2 ^ n:=by rw[fL,vU]; simp[val]
    rw[tI (LU.app fun x hx=>by simp at hx; omega) Om,hv0,vV,bLC (bKY (by decide))]
    have h1:A*2 ^ n<4294967296 ^ nl (A*2 ^ n):=(jE _ _).1 (bIU _)
    have hx:nl (A*2 ^ n)=m+lq:=by omega
    rw[hx,Nat.pow_add] at h1
    have h2:4294967296 ^ m*4294967296 ^ lq≤(B*2 ^ n)*4294967296 ^ lq:=bJQ _ Om
    omega
  have hrows:aK (aG (A*2 ^ n))++[[PV.int .u32 0],[PV.int .u32 0]]=dL (aG (A*2 ^ n)++[0]) (aK [0]):=by
   simp[dL,aK]
  rw[hrows] at hH
  generalize htp:(aG (B*2 ^ n))[m]=top at *
  have et:IntKind.u64.wrap ((top:Nat):Int)=((top:Nat):Int):=bE Om
  have k2:IntKind.i64.wrap (((nl (A*2 ^ n)+1:Nat):Int)-((m+1:Nat):Int))=((lq:Nat):Int):=by rw[wrap_i64 Om Om]; omega
  have k3:((lq:Nat):Int)*((4:Nat):Int)≤140737488355328:=by omega
  have k4:((lq:Nat):Int)≤9223372036854775807:=by omega
  have hz:bIP lq [PV.int .u32 0]=aK (bIP lq 0):=by simp[aK]
  have jq:IntKind.i64.wrap ((lq:Int)-1)=(lq:Int)-1:=wrap_i64 Om Om
  simp only[go_sem,ν,γ,reduceCtorEq,bIM,lU,eu,b1,CJ,f12,lV,em,rm,et,CK,k2,k3,k4,hz]
  refine aO fun oq hoq=>?_
  have hne:oq≠o:=by rintro rfl; rw[hH] at hoq; cases hoq
  have bHN:¬ o=oq:=fun h=>hne h.symm
  have key:=key0 oq m (aG (B*2 ^ n)) [0] hne LV lV (by rw[htp]; exact htop) hlx Om _ hI
  rw[htp] at key
  simp only[go_sem,ο] at key
  simp only[go_sem,γ,CL,jq]
  refine key _ _ _ ?_ ?_ ?_
  ·unfold duF
   exact Lq
  ·refine PH.aF (PH.aF PH.nil_le ?_) ?_
   ·simp only[go_sem,bHN,hH]
   ·simp only[go_sem]
  clear key key0
  intro X Q F1 H1 hI1 hF1 hH1
  have g10:F1 10=some (.int .i64 n):=hF1 10 _ (by unfold duF; simp only[go_sem,ο,γ])
  have g11:F1 11=some (.osl o 1 0 (nl (A*2 ^ n)+1)):=hF1 11 _ (by unfold duF; simp only[go_sem,ο,γ])
  have g14:F1 14=some (.osl oq 1 0 lq):=hF1 14 _ (by unfold duF; simp only[go_sem,ο,γ])
  have ho1:H1 o=some (.rows 1 (dL X (aK [0]))):=hH1 o _ (by simp only[go_sem,bHN])
  have hq1:H1 oq=some (.rows 1 (aK Q)):=hH1 oq _ Sq
  have hu:val X<val (aG (B*2 ^ n)):=by have:=hI1.r; rwa [bJR] at this
  have hv':=hI1.v
  rw[vV] at hu hv'
  have hQv:val Q=A/B:=by
   have:A*2 ^ n/(B*2 ^ n)=val Q:=by
    rw[← hv',Nat.add_mul_div_right _ _ Om,bLO hu,bJJ]
   rw[← this,Nat.mul_div_mul_right _ _ hp2]
  have hUv:val X/2 ^ n=A%B:=by
   have:A*2 ^ n%(B*2 ^ n)=val X:=by rw[← hv',Nat.add_mul_mod_self_right,bJT hu]
   rw[← this,Nat.mul_mod_mul_right,Nat.mul_div_cancel _ hp2]
  have lX:=hI1.lu'
  have lQ:=hI1.lq'
  have hQt:(aK Q).take lq=aK Q:=bJD (by rw[bT]; omega)
  have hXt:(dL X (aK [0])).take (nl (A*2 ^ n)+1)=aK X:=by
   rw[dL,List.take_append_of_le_length (by rw[bT]; omega),bJD (by rw[bT]; omega)]
  have hXl:nl (A*2 ^ n)+1≤(dL X (aK [0])).length:=by rw[dL,bIQ,bT]; omega
  have hfx:(dL X (aK [0])).map (fun r=>r.map (PV.dP oq 1 (aK Q)))=dL X (aK [0]):=by
   have:dL X (aK [0])=aK (X++[0]):=by simp[dL,aK]
   rw[this]; exact qO _ _ _ _
  have nX:=eW hI1.limU
  have t1:=L.trim Q hI1.limQ Om
  have t2:=L.trim X hI1.limU Om
  have dn:=L.down (aG (val X)) n (aU _) (by rw[aZ]; omega) Om
  rw[aQ,hUv] at dn
  rw[hQv] at t1
  generalize aK [0]=Z0 at ho1 hXt hXl hfx
  simp only[go_sem,CR,g14]
  refine pP (o:=oq) (s:=1) (rs:=aK Q) t1 hq1 (by simp only[go_sem,hQt,show lq≤Q.length by omega]) ?_
  simp only[go_sem,γ,g11,bHN]
  refine pP (o:=o) (s:=1) (rs:=dL X Z0) t2 (by simp only[go_sem,bHN,ho1,cE.frz,hfx]) (by simp only[go_sem,γ,hXt,hXl]) ?_
  simp only[go_sem,γ,g10]
  refine aA dn rfl ?_
  simp only[go_sem,γ]
  exact aV (vs:=[aI (aG (A/B)),aI (aG (A%B))]) (.inr rfl) .nil rfl PH.nil_le ⟨.refl _,rfl⟩
 simp only[aB.wp,go_sem] at tail
 simp only[go_sem,γ,bF (Om:¬ ((nl B:Nat):Int)=1),UC,bIM,lB]
 refine aA bt rfl ?_
 simp only[go_sem,γ,reduceCtorEq,e32,en,UD]
 refine mX ua rfl PH.nil_le fun r H1 hr _=>?_
 have hb2:(2:Nat)*1≤16777216:=by decide
 rcases hr with ⟨h0,_⟩ | ⟨o,rs,rfl,rfl,hrl,hrt⟩
 ·exfalso
  have:=congrArg List.length h0
  rw[bT,aZ] at this
  simp at this
  omega
 rw[PH.oJ]
 rw[bT,aZ] at hrl hrt
 simp only[go_sem,υ,δ,γ,η,ζ,hb2,bT,aZ]
 refine aOM (src:=[[.int .u32 0],[.int .u32 0]]) (rs:=rs) rfl ?_ Sq hrl ?_ fun o' ho'=>?_
 ·unfold roomFor
  simp only[maxLen,bLG,bLA]; omega
 ·rw[hrt]
  simp only[go_sem,δ]
  refine aA ub rfl ?_
  simp only[go_sem,γ]
  exact tail o _ _ rfl rfl rfl rfl rfl Sq
 ·rw[hrt]
  simp only[go_sem,δ]
  refine aA ub rfl ?_
  simp only[go_sem,γ]
  exact tail o' _ _ rfl rfl rfl rfl rfl Sq
def aL (C:Ctx) (k:Nat) (pf:aS):Prop:=∀ (args:List PV) (H:PH) (R:PV→PH→Prop),args.length≤pf.ntmps→pf.body.wp C (aR pf.res R) (PF.args args) H→aH C k args H R
theorem aL.go {C:Ctx} {k:Nat} {pf:aS} (r:aL C k pf) {args:List PV} {H:PH} {R:PV→PH→Prop} (h:pf.body.wp C (aR pf.res R) (PF.args args) H) (hl:Nat.ble args.length pf.ntmps=true):aH C k args H R:=r args H R (Nat.le_of_ble_eq_true hl) h
theorem bD {C:Ctx} (T:Tbl) (hP:C.P=T.P) (hN:C.num=T.num) {k:Nat} {fn:Func} {pf:aS} (hf:C.P.funcs[C.num k]?=some fn) (hm:(fn.name=="runtime.NumGoroutine")=false) (hc:T.func fn=some pf):aL C k pf:=fun _ _ _ hl h=>baO hP hN hf hm hc hl h
structure dY (C:Ctx):Prop where
 r0:aL C 0 abW
 r1:aL C 1 axU
 r2:aL C 2 a5Z
 r4:aL C 4 acU
 r5:aL C 5 a6O
 r7:aL C 7 acT
 r20:aL C 20 abO
 r23:aL C 23 abS
 r27:aL C 27 abT
 r28:aL C 28 a6N
 r29:aL C 29 axV
 r30:aL C 30 a8P
 r31:aL C 31 ayG
 r32:aL C 32 a8Q
 r33:aL C 33 udiv
 r34:aL C 34 a8V
 r35:aL C 35 ayI
 r36:aL C 36 a8X
 r37:aL C 37 a8Z
 r38:aL C 38 ayK
 r39:aL C 39 RT
 r40:aL C 40 ayH
 r41:aL C 41 agG
 r42:aL C 42 agH
 r43:aL C 43 ayJ
 r44:aL C 44 agK
 r45:aL C 45 uup
 r47:aL C 47 a9E
 r50:aL C 50 agY
 r58:aL C 58 RV
 r59:aL C 59 ayV
 r95:aL C 95 a3X
 r96:aL C 96 a4D
 r97:aL C 97 abB
 r98:aL C 98 axM
 r99:aL C 99 axN
 r100:aL C 100 axO
 r101:aL C 101 gone
 r102:aL C 102 axP
 r103:aL C 103 abC
 r104:aL C 104 gin
 r105:aL C 105 a3Y
 r106:aL C 106 a3Z
 r107:aL C 107 axQ
 r108:aL C 108 axR
 r109:aL C 109 abG
 r110:aL C 110 axS
 r111:aL C 111 aCB
 r112:aL C 112 a4A
 r113:aL C 113 VD
 r114:aL C 114 a3I
 r115:aL C 115 aaQ
 r116:aL C 116 DQ
 r117:aL C 117 ajY
 r118:aL C 118 abA
 r119:aL C 119 a3H
 r120:aL C 120 qN
 r121:aL C 121 aaZ
 r122:aL C 122 axL
 r123:aL C 123 abQ
 r124:aL C 124 MJ
 r125:aL C 125 MM
 r126:aL C 126 DS
 r127:aL C 127 a6R
 r128:aL C 128 axW
 r129:aL C 129 a6T
 r130:aL C 130 a6V
 r131:aL C 131 a7A
 r132:aL C 132 axX
 r133:aL C 133 a7G
 r134:aL C 134 a7K
 r135:aL C 135 axY
 r136:aL C 136 RI
 r137:aL C 137 adH
 r138:aL C 138 xC
 r139:aL C 139 HD
 r140:aL C 140 adI
 r141:aL C 141 adK
 r142:aL C 142 zK
 r143:aL C 143 nup
 r147:aL C 147 tat
 r148:aL C 148 afF
 r149:aL C 149 RR
 r150:aL C 150 afQ
 r151:aL C 151 aeU
 r152:aL C 152 ayE
 r153:aL C 153 RQ
 r154:aL C 154 ayF
 r155:aL C 155 afD
 r156:aL C 156 ayD
 r157:aL C 157 afR
 r158:aL C 158 a8O
 r159:aL C 159 afY
 r160:aL C 160 EF
 r161:aL C 161 afX
theorem vZ {C:Ctx} (c:dY C):pQ C :=
 have len:∀ xs,Lim xs→xs.length≤35184372087808→aH C 138 [aI xs] .nil (aD (.int .i64 (nl (val xs):Nat))):=fun xs h l=>c.r138.go (a7E xs h l) rfl
 {length:=len
  large:=fun xs h l=>c.r137.go (bdL xs (len xs h l)) rfl
  sized:=fun xs h l=>(c.r141.go (bdQ xs h (len xs h l)) rfl).seen
  trim:=fun xs h l=>(c.r135.go (bmC xs h l (len xs h l)) rfl).seen
  make:=fun v h=>c.r132.go (blZ v h len) rfl
  cmp:=fun xs ys hx hy lx ly=>c.r129.go (bsK xs ys hx hy lx ly (len xs hx lx) (len ys hy ly)) rfl }
theorem bzF {C:Ctx} (c:dY C):axI C :=
 {subtract:=fun A W Z v f o hW hv hl h1 hf bHX=>c.r142.go (aHT A W Z v f hW hv hl h1 hf bHX o) rfl
  restore:=fun A W Z v o hW hv hl h1=>c.r139.go (aRV A W Z v hW hv hl h1 o) rfl }
theorem blW {C:Ctx} (c:dY C):azC C :=
 {L:=vZ c
  D:=bzF c
  up:=fun a s ha hs h1=>c.r143.go (bwB a s ha hs h1) rfl
  short:=fun a d ha h0 hd h1=>c.r140.go (bdO (vZ c) a d ha h0 hd h1) rfl
  lengthO:=fun xs o hx hl=>c.r138.go (aRU xs hx hl o) rfl }
theorem aGE {C:Ctx} (c:dY C) (A B:Nat) (hB:B≠0) (hA:nl A≤900) (hBl:nl B≤900):aH C 136 [aI (aG A),aI (aG B)] .nil (aD (pH A B)) :=
 (c.r136.go (a6Y (blW c) A B hB hA hBl) rfl).seen
theorem xZ {C:Ctx} (c:dY C):rD C :=
 {vZ c with
  bits:=fun xs h l=>c.r128.go (blX xs h l ((vZ c).length xs h l)) rfl
  add:=fun xs ys hx hy lx ly=>(c.r127.go (bsH (vZ c) xs ys hx hy lx ly) rfl).seen
  sub:=fun xs ys hx hy lx ly=>(c.r134.go (bsS (vZ c) xs ys hx hy lx ly) rfl).seen
  mul:=fun xs ys hx hy lx ly=>(c.r133.go (bsQ (vZ c) xs ys hx hy lx ly) rfl).seen
  gcd:=fun xs ys hx hy lx ly=>(c.r131.go (bsO (vZ c) (aGE c) xs ys hx hy lx ly) rfl).seen
  div:=fun xs ys hx hy lx ly=>(c.r130.go (bsM (vZ c) (aGE c) xs ys hx hy lx ly) rfl).seen }
theorem QV {C:Ctx} (c:dY C):EI C :=
 {xZ c with
  times:=fun a b ha hb la lb na nb=>c.r121.go (bbA (xZ c) a b ha hb la lb na nb) rfl
  zero:=fun neg a b ha la=>c.r122.go (bjJ (xZ c) neg a b ha la) rfl
  valid:=fun neg a b ha hb la lb=>c.r118.go (bbC (xZ c) neg a b ha hb la lb) rfl
  abs:=fun v h1 h2=>c.r119.go (bqE (xZ c) v h1 h2) rfl
  lowest:=fun neg a b ha hb la lb na nb h0=>(c.r120.go (a3O (xZ c) neg a b ha hb la lb na nb h0) rfl).seen }
theorem baZ {C:Ctx} (c:dY C) (x y:RF) (hx:x.Ok) (hy:y.Ok):aH C 113 [.agg x.cells,.agg y.cells] .nil (aD (frV (gY x.v y.v))) :=
 (c.r113.go (bqG (QV c) x.neg y.neg x.num x.den y.num y.den hx.1 hx.2.1 hy.1 hy.2.1 hx.2.2.1 hx.2.2.2 hy.2.2.1 hy.2.2.2) rfl).seen
theorem a3Q {C:Ctx} (c:dY C):axH C :=
 {QV c with
  frac:=fun n d hn hd=>(c.r115.go (bjG (QV c) n d hn.1 hn.2 hd.1 hd.2) rfl).seen
  red:=fun x hx=>by
   rw[← a7R]
   exact (c.r116.go (a3R (QV c) x.neg x.num x.den hx.1 hx.2.1 hx.2.2.1 hx.2.2.2) rfl).seen
  ord:=fun x y hx hy=>(c.r114.go (bqI (QV c) x.neg y.neg x.num x.den y.num y.den hx.1 hx.2.1 hy.1 hy.2.1 hx.2.2.1 hx.2.2.2 hy.2.2.1 hy.2.2.2) rfl).seen
  plus:=baZ c
  tot:=fun l hl=>(c.r117.go (bqQ (QV c) (baZ c) l hl.all hl.fits) rfl).seen }
theorem QU {C:Ctx} (c:dY C):rB C :=
 have inn:∀ n lo hi:Int,aH C 104 [.int .i64 n,.int .i64 lo,.int .i64 hi] .nil (aD (.bool (within n lo hi))):=fun n lo hi=>(c.r104.go (bvM n lo hi) rfl).seen
 have kR:∀ x:RF,x.Ok→aH C 97 [.agg x.cells] .nil (aD (.bool (cB x))):=fun x hx=>(c.r97.go (bbE (xZ c) x hx) rfl).seen
 have lim:∀ x:RF,x.Ok→aH C 105 [.agg x.cells] .nil (aD (.bool (cI x))):=fun x hx=>(c.r105.go (bqW (a3Q c) x hx) rfl).seen
 have letter:∀ n:Nat,aH C 126 [.int .u8 n] .nil (aD (.bool (fE n))):=fun n=>c.r126.go (a5C n) rfl
 have digit:∀ n:Nat,aH C 124 [.int .u8 n] .nil (aD (.bool (lE n))):=fun n=>c.r124.go (bbW n) rfl
 {a3Q c with
  inn:=inn
  kR:=kR
  lim:=lim
  one:=fun x hx=>(c.r101.go (brA (a3Q c) x hx) rfl).seen
  allf:=fun p fn l hl h=>(c.r99.go (bjN p fn l hl h) rfl).seen
  alli:=fun p fn l hl h=>(c.r100.go (bjP p fn l hl h) rfl).seen
  allb:=fun p fn l hl h=>(c.r98.go (bjL p fn l hl h) rfl).seen
  ends1:=fun b=>(c.r103.go (bbG b) rfl).seen
  num1:=fun n=>(c.r107.go (bjU inn n) rfl).seen
  rate1:=fun x hx=>(c.r109.go (bbJ lim kR x hx) rfl).seen
  name:=fun s=>c.r123.go (bkW letter (fun n=>c.r125.go (bcH letter digit n) rfl) s) rfl }
theorem baW {C:Ctx} (c:dY C):ayY C :=
 {QU c with
  num:=fun p hp=>(c.r106.go (bqY (QU c) p hp) rfl).seen
  rate:=fun p hp=>(c.r108.go (bjW (QU c) p hp) rfl).seen
  uniq:=fun l hl=>(c.r110.go (bjZ (QU c) l hl) rfl).seen }
theorem baX {C:Ctx} (c:dY C):ZM C :=
 {baW c with
  ends:=fun l hl he=>(c.r102.go (bjS (QU c) l hl he) rfl).seen }
theorem bvK {C:Ctx} (c:dY C):jP C :=
 {baX c with
  law:=fun l hl=>(c.r95.go (bqU (baX c) l hl) rfl).seen
  pol:=fun p n hp hn=>(c.r112.go (brC (baW c) p hp n hn) rfl).seen
  bGT:=fun f hf=>(c.r111.go (bqS (QU c) f hf) rfl).seen }
theorem bqM {C:Ctx} (c:dY C) (f:aE) (hf:f.Ok):aH C 96 [.agg f.cells] .nil (aD (.int .i64 (JF f))):=(c.r96.go (brE (bvK c) f hf) rfl).seen
theorem afU {C:Ctx} (c:dY C):QM C :=
 {valid:=fun f hf=>(c.r161.go (bgO (bqM c) f hf) rfl).seen
  kR:=fun f d level hv hd h0 h4=>(c.r155.go (bfV f hv d hd level h0 h4) rfl).seen
  frag:=fun f v hv h=>(c.r156.go (bnI f hv v h) rfl).seen }
theorem afV {C:Ctx} (c:dY C):ZX C :=
 {afU c with
  room:=fun f room hf=>(c.r152.go (bnL (afU c) f hf room) rfl).freeze
  loads:=fun f l hd hl=>(c.r157.go (bgF f hd l hl) rfl).seen }
theorem bgI {C:Ctx} (c:dY C):azH C :=
 {afV c with
  shape:=fun f l v hV hl hv hvf=>(c.r160.go (bgM (afV c) f hV l hl v hv hvf) rfl).seen }
theorem bgJ {C:Ctx} (c:dY C):DK C :=
 {bgI c with
  bad:=fun o5 v k w=>c.r159.go (bgQ o5 v k w) rfl }
theorem bgK {C:Ctx} (c:dY C):azI C :=
 {bgJ c with
  row:=fun f l v hV bHX hv hvf hr=>(c.r158.go (bnQ (bgJ c) f hV bHX l v hv hvf hr) rfl).seen }
theorem bpN {C:Ctx} (c:dY C):bpF C :=
 {bgK c with
  viol:=fun f l room hf hl=>(c.r154.go (bnO (bgK c) f hf l hl room) rfl).seen }
theorem tT {C:Ctx} (c:dY C):oP C:={ trimM:=fun xs h l=>c.r38.go (boI xs h l) rfl }
theorem beN {C:Ctx} (c:dY C):azD C :=
 {tT c with
  make:=fun v h=>(c.r35.go (bnZ (tT c) v h) rfl).seen
  large:=fun xs h l=>(c.r41.go (bgU (tT c) xs h l) rfl).seen
  cmp:=fun xs ys hx hy lx ly=>c.r32.go (btS (tT c) xs ys hx hy lx ly) rfl }
theorem beP {C:Ctx} (c:dY C):azF C :=
 {beN c with
  minus:=fun a b ha hb hle hl h1=>(c.r42.go (bgW (tT c) a b ha hb hle hl h1) rfl).seen
  times:=fun a b ha hb h1 h2=>(c.r44.go (bgY (tT c) a b ha hb h1 h2) rfl).seen }
theorem aIN {C:Ctx} (c:dY C):ZU C :=
 {beP c with
  plus:=fun a b ha hb h1 h2=>(c.r43.go (boF (tT c) a b ha hb h1 h2) rfl).seen }
theorem bwG {C:Ctx} (c:dY C):KY C :=
 {aIN c with
  bits:=fun xs h l=>c.r31.go (bnT (tT c) xs h l) rfl
  upM:=fun a n ha h1 hn h0=>c.r45.go (bwV (tT c) a n ha h1 hn h0) rfl
  down:=fun a n ha h1 hn=>(c.r40.go (bnX (tT c) a n ha h1 hn) rfl).seen }
theorem aIM {C:Ctx} (c:dY C):ZS C :=
 {beN c with
  divide:=fun A B hB hA hBl=>(c.r39.go (a8T (bwG c) A B hB hA hBl) rfl).seen }
theorem beO {C:Ctx} (c:dY C):azE C :=
 {aIM c with
  gcd:=fun a b ha hb la lb=>(c.r34.go (btW (aIM c) a b ha hb la lb) rfl).seen
  div:=fun a b ha hb la lb=>(c.r33.go (btU (aIM c) a b ha hb la lb) rfl).seen }
theorem bpL {C:Ctx} (c:dY C):a2L C :=
 {beO c with
  lowest:=fun neg a b ha hb la lb na nb h0=>(c.r58.go (a9G (beO c) neg a b ha hb la lb na nb h0) rfl).seen
  size:=fun v hv=>c.r59.go (boW v hv.1 hv.2) rfl }
theorem adP {C:Ctx} (c:dY C):ZT C :=
 {bpL c with
  fmk:=fun n d hn hd=>(c.r50.go (boQ (bpL c) n d hn hd) rfl).seen }
abbrev uV (C:Ctx):Prop:=∀ n:Nat,n<100→aH C 195 [.int .i64 n] .nil (aD (.str (cN n)))
theorem a5Y {C:Ctx} (c:dY C) (hi:uV C):EL C :=
 {adP c with
  int:=fun n hn=>(c.r47.go (a1C (adP c) n hn) rfl).seen
  itoa:=hi
  next:=fun l v T o n a hn ha=>c.r4.go (blJ T o n a hn ha) rfl }
theorem bdC {C:Ctx} (c:dY C) (hi:uV C):azA C :=
 {a5Y c hi with
  frac:=fun l v T o a ha=>c.r1.go (blD (a5Y c hi) T o a ha) rfl }
theorem bdD {C:Ctx} (c:dY C) (hi:uV C):rC C :=
 {bdC c hi with
  rep:=fun l v T o a m hm ha=>c.r5.go (bsF (bdC c hi) T o a m hm ha) rfl
  name:=fun s n hs hn=>c.r29.go (blH (a5Y c hi) s n hs hn) rfl }
theorem bdE {C:Ctx} (c:dY C) (hi:uV C):mC C :=
 {bdD c hi with
  law:=fun l v T o dS a hm hm2 ha=>c.r2.go (bsB (bdD c hi) T o dS a hm hm2 ha) rfl }
theorem oG {f:aE} (h:VF f) {i:Nat} (hi:i<f.bGK.length):0≤lvl f i∧lvl f i≤4:=by
 rcases bKN i with e | e
 ·rw[e,h.root.2.1]; omega
 ·have:=h.dom i e hi; omega


theorem bsA (a b:Nat):mkT (a:Int) (b:Int)=⟨false,aG (a/bIR a b),aG (b/bIR a b)⟩:=by
 have h1:decide ((a:Int)<0)=false:=decide_eq_false Om
 have h2:decide ((b:Int)<0)=false:=decide_eq_false Om
 unfold mkT lM FV.rf
 rw[h1,h2,Int.natAbs_natCast,Int.natAbs_natCast]
 rfl
structure SmF (x:RF) (p q:Nat):Prop where
 eq:x=⟨false,aG (p/bIR p q),aG (q/bIR p q)⟩
 a:p≤64
 b:q≤64
 pos:0<q
theorem SmF.mk' {a b:Nat} (ha:a≤64) (hb:b≤64) (h:0<b):SmF (mkT (a:Int) (b:Int)) a b:=⟨bsA a b,ha,hb,h⟩
theorem SmF.num {x:RF} {a b:Nat} (h:SmF x a b):val x.num=a/bIR a b:=by rw[h.eq,aQ]
theorem SmF.den {x:RF} {a b:Nat} (h:SmF x a b):val x.den=b/bIR a b:=by rw[h.eq,aQ]
theorem SmF.v {x:RF} {a b:Nat} (h:SmF x a b):x.v=(false,a/bIR a b,b/bIR a b):=by
 unfold RF.v
 rw[h.num,h.den,h.eq]
theorem SmF.aHX {x:RF} {a b:Nat} (_:SmF x a b):a/bIR a b≤a:=Nat.div_le_self ..
theorem SmF.azU {x:RF} {a b:Nat} (_:SmF x a b):b/bIR a b≤b:=Nat.div_le_self ..
theorem SmF.den_pos {x:RF} {a b:Nat} (h:SmF x a b):0<b/bIR a b:=Nat.div_pos (Nat.le_of_dvd h.pos (Nat.gcd_dvd_right a b)) (Nat.gcd_pos_of_pos_right a h.pos)
theorem wS {n:Nat} (h:n≤4096):cC n≤32:=(kZ n 32).2 Om
theorem aPD {n:Nat} (h:0<n):0<cC n:=by
 rcases bKN (cC n) with e | e
 ·rw[jK] at e; omega
 ·exact e
theorem QB {a b:Nat} (ha:a≤4096) (hb:b≤4096) (h:0<b):cK a b=true:=by
 have h1:=wS ha
 have h2:=wS hb
 have h3:=aPD h
 unfold cK
 rw[decide_eq_true h3,decide_eq_true (Om:cC b≤4096),decide_eq_true (Om:cC a≤4096)]
 rfl
theorem brW {n:Bool} {a b:Nat} (ha:a≤4096) (hb:b≤4096):gQ n a b=.ok (n&&decide (a/bIR a b≠0),a/bIR a b,b/bIR a b):=by
 have h1:=wS (bKG (Nat.div_le_self a (bIR a b)) ha)
 have h2:=wS (bKG (Nat.div_le_self b (bIR a b)) hb)
 unfold gQ
 rw[if_neg Om]
theorem SmF.lim {x:RF} {a b:Nat} (h:SmF x a b):cI x=true:=by
 have h1:=h.aHX
 have h2:=h.azU
 have h3:=h.den_pos
 have:=h.a
 have:=h.b
 have hn:x.neg=false:=by rw[h.eq]
 unfold cI nJ
 rw[h.num,h.den,hn,QB Om Om h3,if_pos rfl,brW Om Om]
 have e1:=Nat.div_le_self (a/bIR a b) (bIR (a/bIR a b) (b/bIR a b))
 have e2:=Nat.div_le_self (b/bIR a b) (bIR (a/bIR a b) (b/bIR a b))
 simp only[bIV,bIY,bJC,bJK,decide_eq_true_eq]
 exact⟨wS Om,wS Om⟩
theorem SmF.kR {x:RF} {a b:Nat} (h:SmF x a b) (ha:0<a):cB x=true:=by
 unfold cB
 rw[h.num]
 exact decide_eq_true (Nat.ne_of_gt (Nat.div_pos (Nat.le_of_dvd ha (Nat.gcd_dvd_left a b)) (Nat.gcd_pos_of_pos_right a h.pos)))
theorem SmF.zero {x:RF} {b:Nat} (h:SmF x 0 b):cB x=false:=by
 unfold cB
 rw[h.num,Nat.zero_div]
 rfl
theorem SmF.one {x:RF} {a b:Nat} (h:SmF x a b) (hab:a≤b):vC x=true:=by
 have h1:=h.aHX
 have h2:=h.azU
 have h3:=h.den_pos
 have:=h.a
 have:=h.b
 have hn:x.neg=false:=by rw[h.eq]
 unfold vC
 rw[h.num,h.den,hn,QB Om Om h3]
 have:a/bIR a b≤b/bIR a b:=Nat.div_le_div_right hab
 show (true&&decide (cY (a/bIR a b*1) (1*(b/bIR a b))≤0))=true
 rw[Nat.mul_one,Nat.one_mul,bJC]
 refine decide_eq_true ?_
 unfold cY
 split
 ·decide
 ·split
  ·omega
  ·decide
theorem SmF.ok {x:RF} {a b:Nat} (h:SmF x a b):x.Ok:=by
 have h1:=h.aHX
 have h2:=h.azU
 have:=h.a
 have:=h.b
 have k1:nl (a/bIR a b)≤1:=(jE _ _).2 Om
 have k2:nl (b/bIR a b)≤1:=(jE _ _).2 Om
 rw[h.eq]
 refine⟨aU _,aU _,?_,?_⟩
 ·show (aG _).length≤_
  rw[aZ]; omega
 ·show (aG _).length≤_
  rw[aZ]; omega
structure bvB (x:RF):Prop where
 lim:cI x=true
 ok:x.Ok
theorem SmF.o {x:RF} {a b:Nat} (h:SmF x a b):bvB x:=⟨h.lim,h.ok⟩
abbrev lvs (ds:List cG):List Int:=ds.map cG.level
def bBA (ds:List cG) (i:Nat) (d:cG):Prop:=∃ lev p u:Nat,d.name=[nD lev]++cN (i+1)∧d.level=lev∧1≤lev∧lev≤4∧d.parent=p∧p≤i∧(lvs ds)[p]?=some ((lev:Int)-1)∧d.bHI=u∧1≤u∧u≤16∧bvB d.bHA
def bBB (ds:List cG) (mc i:Nat) (d:dD):Prop:=∃ m c:Nat,d.name=[100]++cN i∧d.model=m∧m<mc∧d.machine=c∧(lvs ds)[c]?=some 4
structure GV (mc bGG:Nat) (s:GS):Prop where
 len:s.bGT.length≤35
 bHH:s.bHH.length≤bGG
 root:s.bGT[0]?=some wA
 dom:∀ i (hi:i+1<s.bGT.length),bBA s.bGT i s.bGT[i+1]
 drv:∀ i (hi:i<s.bHH.length),bBB s.bGT mc i s.bHH[i]
theorem GV.a {mc bGG:Nat} {s:GS} (h:GV mc bGG s) (x:Nat):GV mc bGG { s with a:=x }:=⟨h.len,h.bHH,h.root,h.dom,h.drv⟩


theorem bdF {C:Ctx} (c:dY C) (hi:uV C):azB C :=
 {bdE c hi with
  grow:=fun l v T mc bGG h0 h1 h2=>aCU (bdE c hi) T mc bGG h0 h1 h2 (fun args H R hl h=>c.r7 args H R (by rw[hl]; decide) h) 4 (bIU _) }
theorem bvX {C:Ctx} (c:dY C) (hi:uV C):baD C :=
 {bdF c hi with
  new:=fun l hb hl=>c.r28.go (bsD l hb hl) rfl
  fleet:=fun l v T o bGG bGJ a hdr hvo ha=>KX.exact (c.r0.go (bdA (bdF c hi) T o bGG bGJ a hdr hvo ha) rfl) }
theorem aDZ {C:Ctx} (c:dY C) (hi:uV C):ZP C :=
 {at_:=fun f hf d level=>(c.r147.go (bwS (afU c) f hf d level) rfl).seen
  child:=fun f hf d=>(c.r148.go (bgA (afU c) f hf d) rfl).seen
  bGG:=fun f hf d=>(c.r149.go (a8M (afU c) f hf d) rfl).seen
  holds:=fun f l room hf hl=>(c.r150.go (bgD (bpN c) f hf l hl room) rfl).seen
  loads:=fun f l hf hl=>(c.r151.go (bfT (afV c) f hf l hl) rfl).seen
  room:=(afV c).room
  shaped:=fun f l hf hl=>(c.r153.go (a8K (bgI c) f hf l hl) rfl).seen
  viol:=(bpN c).viol
  fleet:=fun l hb hl bGG bGJ hdr hvo=>(c.r27.go (bcX (bvX c hi) l hb hl bGG bGJ hdr hvo) rfl).seen }
theorem bkG {C:Ctx} (c:dY C) (hi:uV C):aH C 20 [] .nil (aD (.bool true)) :=
 c.r20.go (bbT (aDZ c hi) (c.r23.go (bcU (aDZ c hi)) rfl)) rfl
end Go.PM
