/-
  Texts of ours, joined: MkPlain MkW1 Pm35 Pm36 MkW2 MkW3 MkW4 MkW5 MkW6 MkW7 MkW8 MkW9 MkW10 MkW11 MkW12 MkW13 MkW14 MkW15 MkW16 L11W1 R2Code R2W1 R2W2 R2W3 R2W4 R2W5 R2W6 R2W7 R2W8 Jn1 Jn2 L11P1 L11W2 L11W3 Mv1 Mv2. No condition.
-/
import Derived.Test.YtelckcmlobadkaaGreatDoorEx1
import Derived.Test.YtelckcmlobadkaaGreatDoorEx2
import Derived.Test.YtelckcmlobadkaaGreatDoorEx3
import Derived.Lib.ItoaNum
set_option linter.unusedSimpArgs false
set_option linter.unusedVariables false
open Nat renaming reduceEqDiff → γ, reduceAdd → δ, reduceSub → ε, reduceMul → ζ, reduceLT → η, reduceLeDiff → θ, reduceBEq → τ
open Int renaming reduceLT → ι, reduceLE → κ, reduceEq → μ, reduceToNat → ν, reduceAdd → ξ, reduceNeg → ο, reduceBEq → ρ, reduceBNe → σ
open List renaming reduceReplicate → υ
open List renaming length_map → bJT, range → bJU, length_append → bJX, replicate → bJY, getElem_mem → bJZ, length_singleton → bKD, getElem?_eq_getElem → bKG, mem_cons → bKI, getD_eq_getElem?_getD → bKK, take_of_length_le → bKL, length_take → bKN, all_eq_true → bKP, not_mem_nil → bKR, take_length → bKU, append_assoc → bKV, drop_zero → bKY, mem_map → bLA, getElem?_map → bLC, getElem?_eq_some_iff → bLD, map_cons → bLF, getElem?_eq_none → bLH, getElem_map → bLI, getElem_of_mem → bLJ, append_nil → bLK, mem_range → bLN, drop_eq_getElem_cons → bLO, mem_append → bLQ, Sublist → bLR, length_drop → bLS, map_append → bLT, take_succ_eq_append_getElem → bLY, length_nil → bMD, map_nil → bME, length_set → bMG, length_cons → bMH, mem_of_getElem? → bMI, getElem?_append_left → bMK, take_append_drop → bML, nodup_append → bMM, ext_getElem → bMR, getElem?_append_right → bMS, getElem?_take → bMU, set_append_right → bMV, drop_of_length_le → bNB
open Nat renaming gcd → bJV, zero_le → bKA, le_refl → bKB, mul_add → bKH, lt_or_ge → bKO, mul_assoc → bKQ, zero_add → bKS, mul_comm → bKT, add_mul → bKW, mul_le_mul_right → bKX, mod_eq_of_lt → bLB, mod_lt → bLG, pow_succ → bLL, add_zero → bLP, eq_zero_or_pos → bLU, le_trans → bLV, min_eq_left → bLW, add_assoc → bLZ, mul_le_mul_left → bMA, pos_of_ne_zero → bMB, pow_pos → bMJ, div_lt_iff_lt_mul → bMN, div_le_self → bMT, div_add_mod → bMW, div_eq_of_lt → bMX
open Bool renaming not_true → bJW, false_and → bKC, not_false → bKF, true_and → bKJ, and_eq_true → bKM, and_false → bLE, and_true → bMF, and_assoc → bMP, false_eq_true → bNA
open Option renaming map_eq_some_iff → bKE, map_some → bKZ, getD_some → bLX, some → bMC, bind_eq_some_iff → bMY, bind_some → bNC
open Array renaming replicate → bLM, length_toList → bMO, getElem?_eq_getElem → bMZ, getElem?_eq_some_iff → bND
open Int renaming toNat_natCast → bMQ
namespace Go.PM
open Go Go.Na
def aF (l:List Nat) (n a:Nat):Nat × Nat:=if l.length≤a∨n<2 then (0,a) else (l.getD a 0%n,a+1)
theorem cC (l:List Nat) {n:Nat} (h:0<n) (a:Nat):(aF l n a).1<n:=by
 unfold aF
 split
 ·exact h
 ·exact bLG _ h
theorem bN (l:List Nat) (n:Nat) {a:Nat} (h:a≤l.length):(aF l n a).2≤l.length:=by
 unfold aF
 split
 ·exact h
 ·simp only; omega
def eZ (l:List Nat) (a:Nat):RF × Nat :=
 let x:=aF l 6 a
 let y:=aF l 8 x.2
 (mkT ((1+x.1:Nat):Int) ((1+y.1:Nat):Int),y.2)
abbrev jY:RF:=mkT 0 1
def iR (l:List Nat) (i j a:Nat):RF × Nat :=
 if j=i+1 then eZ l a
 else if j=i then (jY,a)
 else let t:=aF l 3 a
  if t.1=0 then eZ l t.2 else (jY,t.2)
def dH (l:List Nat) (i a:Nat):Nat→List RF × Nat
 | 0=>([],a)
 | j+1=>let s:=dH l i a j
  let z:=iR l i j s.2
  (s.1++[z.1],z.2)
structure AR where
 start:List RF
 exit:List RF
 bHT:List (List RF)
 left:Nat
 a:Nat
def dE (l:List Nat) (n i:Nat) (s:AR):Nat × Nat:=if i+1<n then aF l (s.left+1) s.a else (s.left,s.a)
def eR (l:List Nat) (n i a:Nat):RF × Nat :=
 let e:=eZ l a
 if i+1<n then (let t:=aF l 3 e.2; (if t.1=0 then jY else e.1,t.2)) else e
def fM (l:List Nat) (n a:Nat):Nat→AR
 | 0=>⟨[],[],[],8,a⟩
 | i+1=>let s:=fM l n a i
  let k:=dE l n i s
  let e:=eR l n i k.2
  let r:=dH l i e.2 n
  ⟨s.start++[mkT (k.1:Nat) 8],s.exit++[e.1],s.bHT++[r.1],s.left-k.1,r.2⟩
def pQ (l:List Nat) (dW a:Nat):bX × Nat :=
 let t:=aF l dW a
 let s:=fM l (1+t.1) t.2 (1+t.1)
 (⟨[],s.start,s.bHT,s.exit⟩,s.a)
def jW (l:List Nat) (a:Nat):Nat→List RF × Nat
 | 0=>([],a)
 | k+1=>let s:=jW l a k
  let z:=eZ l s.2
  (s.1++[z.1],z.2)
abbrev bU (n:Nat):List UInt8:=Lib.decDigits n
def gY (l:List Nat) (a:Nat):Nat→List bX × Nat
 | 0=>([],a)
 | k+1=>let s:=gY l a k
  let z:=pQ l 2 s.2
  (s.1++[{ z.1 with name:=[108,97,119]++bU k }],z.2)
def eD (l:List Nat) (bHY a:Nat):Nat→List cK × Nat
 | 0=>([],a)
 | k+1=>let s:=eD l bHY a k
  let x:=aF l 4 s.2
  let y:=aF l 8 x.2
  let z:=aF l bHY y.2
  (s.1++[⟨[109]++bU k,(1+x.1:Nat),(1+y.1:Nat),(z.1:Nat)⟩],z.2)
structure GS where
 bIA:List cH
 bIO:List cY
 a:Nat
def jK (l:List Nat) (mc bHN domain:Nat) (s:GS):Nat→GS
 | 0=>s
 | i+1=>let s:=jK l mc bHN domain s i
  if s.bIO.length<bHN then
   let t:=aF l mc s.a
   { s with bIO:=s.bIO++[⟨[100]++bU s.bIO.length,(t.1:Nat),(domain:Nat)⟩],a:=t.2 }
  else s
def kT (level:Nat):UInt8:=match level with
 | 0=>45
 | 1=>115
 | 2=>114
 | 3=>107
 | _=>109
def mN (l:List Nat) (level domain:Nat) (s:GS):GS :=
 let u:=aF l 16 s.a
 let t:=aF l 3 u.2
 let k:=aF l 6 t.2
 let sh:RF × Nat:=if t.1=0 then (mkT 1 ((2+k.1:Nat):Int),k.2) else (jY,t.2)
 { s with bIA:=s.bIA++[⟨[kT level]++bU s.bIA.length,(level:Nat),(domain:Nat),(1+u.1:Nat),sh.1⟩],a:=sh.2 }
def pA (bHN:Nat) (s:GS):Bool:=decide (bHN≤s.bIO.length)||decide (35≤s.bIA.length)
def fU (l:List Nat) (level bHN domain:Nat) (rec:Nat→GS→GS) (s:GS):Nat→GS
 | 0=>s
 | i+1=>let s:=fU l level bHN domain rec s i
  if pA bHN s then s else (let s':=mN l level domain s; rec (s'.bIA.length-1) s')
def eK (l:List Nat) (mc bHN:Nat):Nat→Nat→GS→GS
 | 0,domain,s=>let t:=aF l 2 s.a
  jK l mc bHN domain { s with a:=t.2 } (1+t.1)
 | k+1,domain,s=>let t:=aF l 2 s.a
  fU l (4-k) bHN domain (eK l mc bHN k) { s with a:=t.2 } (if 4-k=2 then 1 else 1+t.1)
def mH:cH:=⟨[],0,-1,0,jY⟩
def gE (l:List Nat) (a:Nat):Int × Nat :=
 let t:=aF l 3 a
 let k:=aF l 3 t.2
 if t.1=0 then ((1+k.1:Nat),k.2) else (0,t.2)
def lL (l:List Nat) (bHO i a:Nat):cJ × Nat :=
 let k:=aF l 2 a
 let m:=aF l 3 k.2
 let h:=aF l 4 m.2
 let q:=aF l (m.1+1) h.2
 let r:=jW l q.2 (max m.1 1)
 let g:=aF l 9 r.2
 let s1:=gE l g.2
 let s2:=gE l s1.2
 let s3:=gE l s2.2
 let s4:=gE l s3.2
 let f:=aF l bHO s4.2
 let b:=aF l 2 f.2
 let ms:List Int × Nat:=if 1<bHO then (if b.1=0 then ([(f.1:Int),1-(f.1:Int)],b.2) else ([(f.1:Int)],b.2)) else ([(f.1:Int)],f.2)
 (⟨[112]++bU i,(1+k.1:Nat),(m.1:Nat),(1+k.1+q.1:Nat),0,s1.1,s2.1,s3.1,s4.1,ms.1,r.1,mkT (g.1:Nat) 8,mkT ((1+h.1:Nat):Int) 1⟩,ms.2)
def dK (l:List Nat) (bHO a:Nat):Nat→List cJ × Nat
 | 0=>([],a)
 | k+1=>let s:=dK l bHO a k
  let z:=lL l bHO k s.2
  (s.1++[z.1],z.2)
def eE (l:List Nat) (pols a:Nat):Nat→List eM × Nat
 | 0=>([],a)
 | k+1=>let s:=eE l pols a k
  let z:=aF l pols s.2
  (s.1++[⟨[118]++bU k,(z.1:Nat)⟩],z.2)
def jA (l:List Nat) (bHN bHQ a:Nat):aE × Nat :=
 let e:=aF l 2 a
 let lw:=aF l 2 e.2
 let bHY:=gY l lw.2 (1+lw.1)
 let md:=aF l 2 bHY.2
 let bHO:=eD l (1+lw.1) md.2 (1+md.1)
 let g:=eK l (1+md.1) bHN 4 0 ⟨[mH],[],bHO.2⟩
 let pl:=aF l 2 g.a
 let pols:=dK l (1+md.1) pl.2 (1+pl.1)
 let vo:=aF l (bHQ+1) pols.2
 let vols:=eE l (1+pl.1) vo.2 vo.1
 (⟨(1+e.1:Nat),bHY.1,bHO.1,g.bIA,g.bIO,pols.1,vols.1⟩,vols.2)
abbrev kN (l:List Nat):List (List PV):=l.map fun (n:Nat)=>[PV.int .u8 (n:Int)]
theorem QL (l:List Nat):(kN l).length=l.length:=by simp
theorem bpL (l:List Nat) {i:Nat} (h:i<l.length):(kN l)[i]?=some [.int .u8 (l[i]:Nat)]:=by simp[h]
abbrev bK (v:PV) (a:Nat):cI:=.rows 2 [[v,.int .i64 a]]
structure Tp (l:List Nat) (v:PV):Prop where
 seen:Seen 1 v (kN l)
 byte:∀ x∈l,x<256
 len:l.length≤400
def a3N (l:List Nat) (r:PV) (H:PH):Prop:=∃ o v,r=.ptr o 2 0 0∧Tp (l.take 400) v∧H=PH.nil.set o (bK v 0)
theorem ayB {t q s:Nat} {rs:List (List PV)} {F:PF} {H H2:PH} {R:PV→PH→Prop} {v:PV} {e:mD} (he:e=.normal∨e=.ret) (ht:F t=some v) (hq:H q=some (.rows s rs)) (hH:H2.le (H.frz q s rs)) (hR:R (PV.frz q s rs v) H2):aR [.tmp t] R e F H:=by
 have key:∃ vs,eA.evs F H [.tmp t]=some vs∧∃ F1 H1 H2,jQ (PF.nil.set 0 (bH vs)) H F1 H1∧H2.le H1∧∃ u,F1 0=some u∧R u H2:=by
  refine⟨[v],by rw[lD,nP,ht,pK],_,_,H2,.step q hq (.refl _ _),hH,PV.frz q s rs v,?_,hR⟩
  rw[rW,mR,if_pos rfl,bKZ]
  rfl
 rcases he with rfl | rfl<;>exact key
theorem btI {C:Ctx} (l:List Nat) (hb:∀ x∈l,x<256) (hl:l.length≤9223372036854775807):NG.wp C (aR a7Q.res (a3N l)) (PF.args [.sl 1 (kN l)]) .nil:=by
 simp only[go_sem,γ,reduceCtorEq,NG,aWZ,aXA,a7Q,bJT]
 have fin:∀ F:PF,F 0=some (.sl 1 (kN (l.take 400)))→aB.wp C (.seq (.region alJ) .ret) (aR [.tmp 2] (a3N l)) F .nil:=by
  intro F f0
  have htl:(l.take 400).length≤400:=by rw[bKN]; omega
  have hbt:∀ x∈l.take 400,x<256:=fun x hx=>hb x (List.mem_of_mem_take hx)
  have hR:∀ o v,Seen 1 v (kN (l.take 400))→a3N l (.ptr o 2 0 0) (PH.nil.set o (bK v 0)):=fun o v hv=>⟨o,v,rfl,⟨hv,hbt,htl⟩,rfl⟩
  generalize hL:l.take 400=L at *
  simp only[go_sem,δ,γ,θ,alJ,f0]
  refine yZ (src:=kN L) rfl ?_ (fun h=>?_) fun h o ho=>?_
  ·unfold roomFor
   rw[QL]
   simp only[maxLen]; omega
  ·simp only[go_sem,δ,γ,bKI,bKR,or_false,forall_eq]
   refine aO fun o ho=>?_
   simp only[go_sem,γ]
   exact aV (vs:=[.ptr o 2 0 0]) (.inr rfl) (PH.nil.set o (bK .bHP 0)) rfl PH.le_refl (hR o .bHP (.inl ⟨h,rfl⟩))
  ·simp only[go_sem,δ,γ,bKI,bKR,or_false,forall_eq]
   refine aO fun p hp=>?_
   have hne:¬ p=o:=(iD.1 hp).1
   have bIU:¬ o=p:=fun h=>hne h.symm
   simp only[go_sem,γ]
   refine ayB (v:=.ptr p 2 0 0) (q:=o) (s:=1) (rs:=kN L) (H2:=PH.nil.set p (bK (.sl 1 (kN L)) 0)) (.inr rfl) rfl (by simp only[go_sem,bIU]) (PH.aG PH.nil_le ?_) (hR p _ (.inr rfl))
   have h2:(kN L).take L.length=kN L:=bKL (by rw[QL]; exact bKB _)
   simp only[go_sem,hne,cI.frz,PV.dT,bJT,h2]
   rfl
 simp only[aB.wp,go_sem] at fin
 by_cases c:l.length>400
 ·have c':((l.length:Nat):Int)>400:=by omega
  have c2:(400:Int)≤((l.length:Nat):Int):=by omega
  simp only[go_sem,κ,ν,γ,reduceCtorEq,c',aXB,bJT,c2]
  refine fin _ ?_
  rw[mR,if_pos rfl]
  simp[kN]
 ·have c':¬ ((l.length:Nat):Int)>400:=by omega
  simp only[go_sem,c']
  refine fin _ ?_
  rw[bKL Om]
  simp only[go_sem,reduceCtorEq]
def aaG (l:List Nat) (v:PV) (o n a:Nat) (r:PV) (H:PH):Prop:=r=.int .i64 ((aF l n a).1:Nat)∧H=PH.nil.set o (bK v (aF l n a).2)
theorem bmM {C:Ctx} {l:List Nat} {v:PV} (T:Tp l v) (o n a:Nat) (hn:n≤1000000) (ha:a≤l.length):wE.wp C (aR adM.res (aaG l v o n a)) (PF.args [.ptr o 2 0 0,.int .i64 n]) (PH.nil.set o (bK v a)):=by
 obtain⟨hv,hb,hl⟩:=T
 have zero:(l.length≤a∨n<2)→∀ F,aB.wp C (.seq (.region XQ) .ret) (aR [.tmp 4] (aaG l v o n a)) F (PH.nil.set o (bK v a)):=by
  intro h F
  have e:aF l n a=(0,a):=by unfold aF; rw[if_pos h]
  simp only[go_sem,XQ]
  exact aV (vs:=[.int .i64 0]) (.inr rfl) _ rfl PH.le_refl ⟨by rw[e]; rfl,by rw[e]⟩
 simp only[aB.wp,go_sem] at zero
 rcases hv with ⟨h1,rfl⟩ | rfl
 ·have h0:l.length=0:=by rw[← QL,h1]; rfl
  have hge:(a:Int)≥0:=by omega
  simp only[go_sem,wE,XP,adM]
  refine bL .nil dJ PH.nil_le ?_
  simp only[go_sem,δ,γ,θ,reduceCtorEq,HE,hge]
  exact zero (.inl Om) _
 simp only[go_sem,wE,XP,adM]
 refine bL .nil dJ PH.nil_le ?_
 by_cases c1:l.length≤a
 ·have c1':(a:Int)≥(l.length:Nat):=by omega
  simp only[go_sem,δ,γ,θ,reduceCtorEq,HE,bJT,c1']
  exact zero (.inl c1) _
 have c1':¬ (a:Int)≥(l.length:Nat):=by omega
 simp only[go_sem,δ,γ,θ,reduceCtorEq,HE,bJT,c1']
 by_cases c2:n<2
 ·have c2':(n:Int)<2:=by omega
  simp only[go_sem,c2']
  exact zero (.inr c2) _
 have c2':¬ (n:Int)<2:=by omega
 have hal:a<l.length:=by omega
 have e:aF l n a=(l[a]%n,a+1):=by
  unfold aF
  rw[if_neg Om]
  simp[bKK,hal]
 have ew:IntKind.i64.wrap ((a:Int)+1)=((a+1:Nat):Int):=cW Om
 have ep:IntKind.i64.wrap (((a+1:Nat):Int)-1)=((a:Nat):Int):=by rw[wrap_i64 Om Om]; omega
 have hr:=bpL l hal
 have hx:=hb _ (bJZ hal)
 have eb:IntKind.i64.wrap ((l[a]:Nat):Int)=((l[a]:Nat):Int):=ZR Om
 have hn0:¬ ((n:Nat):Int)=0:=by omega
 have em:Int.tmod ((l[a]:Nat):Int) ((n:Nat):Int)=((l[a]%n:Nat):Int):=rfl
 simp only[go_sem,δ,γ,reduceCtorEq,c2',aHG,ew]
 refine bL .nil dJ PH.nil_le ?_
 simp only[go_sem,δ,γ,θ,reduceCtorEq,aHH,ep,hr,eb,hn0,em]
 exact aV (vs:=[.int .i64 (l[a]%n:Nat)]) (.inr rfl) _ rfl PH.le_refl ⟨by rw[e]; rfl,by rw[e]⟩
def PV.oid:PV→Option Nat
 | .osl q _ _ _=>some q
 | _=>none
abbrev LI:=PV × Nat × List (List PV)
abbrev BX:=Nat × cI
def eI (B:List BX):List Nat:=B.map (·.1)
def dV (L:List LI):List Nat:=L.filterMap fun x=>x.1.oid
structure aT (H:PH) (B:List BX) (L:List LI):Prop where
 box:∀ b∈B,H b.1=some b.2
 lst:∀ x∈L,aX H x.2.1 x.1 x.2.2
 nd:(eI B++dV L).Nodup
section
variable {C:Ctx} {H:PH} {B:List BX} {L:List LI} {K:PV→PH→Prop}
theorem aX.id {s q:Nat} {v:PV} {rows:List (List PV)} (h:aX H s v rows) (hq:v.oid=some q):∃ rs,H q=some (.rows s rs)∧v=.osl q s 0 rows.length∧rows.length≤rs.length∧rs.take rows.length=rows:=by
 rcases h with ⟨_,rfl⟩ | ⟨p,rs,rfl,h1,h2,h3⟩
 ·cases hq
 ·cases hq
  exact⟨rs,h1,rfl,h2,h3⟩
theorem aX.same {s:Nat} {v:PV} {rows:List (List PV)} {H':PH} (h:aX H s v rows) (hk:∀ q,v.oid=some q→H' q=H q):aX H' s v rows:=by
 rcases h with h | ⟨p,rs,rfl,h1,h2,h3⟩
 ·exact .inl h
 ·exact .inr ⟨p,rs,rfl,by rw[hk p rfl]; exact h1,h2,h3⟩
theorem kZ {x:LI} {q:Nat} (h:x∈L) (hq:x.1.oid=some q):q∈dV L:=List.mem_filterMap.2 ⟨x,h,hq⟩
theorem tG {b:BX} (h:b∈B):b.1∈eI B:=bLA.2 ⟨b,h,rfl⟩
theorem aT.nil:aT H [] []:=⟨by simp,by simp,by simp[eI,dV]⟩
theorem aT.at (h:aT H B L) (i:Nat) {o:Nat} {x:cI} (hi:B[i]?=some (o,x)):H o=some x:=h.box _ (bMI hi)
theorem aT.own (h:aT H B L) (i:Nat) {s:Nat} {v:PV} {rows:List (List PV)} (hi:L[i]?=some (v,s,rows)):aX H s v rows:=h.lst _ (bMI hi)
theorem aT.ndB (h:aT H B L):(eI B).Nodup:=(bMM.1 h.nd).1
theorem aT.ndL (h:aT H B L):(dV L).Nodup:=(bMM.1 h.nd).2.1
theorem aT.ndX (h:aT H B L) {o q:Nat} (ho:o∈eI B) (hq:q∈dV L):o≠q:=(bMM.1 h.nd).2.2 o ho q hq
theorem aT.ne (h:aT H B L) (i j:Nat) {o p:Nat} {x y:cI} (hi:B[i]?=some (o,x)) (hj:B[j]?=some (p,y)) (hij:i≠j):o≠p:=by
 intro e
 have h1:(eI B)[i]?=some o:=by unfold eI; rw[bLC,hi]; rfl
 have h2:(eI B)[j]?=some p:=by unfold eI; rw[bLC,hj]; rfl
 obtain⟨li,e1⟩:=bLD.1 h1
 obtain⟨lj,e2⟩:=bLD.1 h2
 have hp:=List.pairwise_iff_getElem.1 h.ndB
 rcases Nat.lt_or_gt_of_ne hij with g | g
 ·exact hp i j li lj g (by rw[e1,e2,e])
 ·exact hp j i lj li g (by rw[e1,e2,e])
theorem aT.neL (h:aT H B L) (i j:Nat) {o q:Nat} {x:cI} {y:LI} (hi:B[i]?=some (o,x)) (hj:L[j]?=some y) (hq:y.1.oid=some q):o≠q :=
 h.ndX (tG (bMI hi)) (kZ (bMI hj) hq)
theorem aT.fresh (h:aT H B L) {o:Nat} (ho:H o=none):o ∉ eI B∧o ∉ dV L:=by
 refine⟨fun hm=>?_,fun hm=>?_⟩
 ·obtain⟨b,hb,rfl⟩:=bLA.1 hm
  rw[h.box b hb] at ho; cases ho
 ·obtain⟨x,hx,e⟩:=List.mem_filterMap.1 hm
  obtain⟨rs,h1,_⟩:=(h.lst x hx).id e
  rw[h1] at ho; cases ho
theorem aT.keep (h:aT H B L) {H':PH} (hk:∀ q,q∈eI B∨q∈dV L→H' q=H q):aT H' B L :=
 ⟨fun b hb=>by rw[hk _ (.inl (tG hb))]; exact h.box b hb,fun x hx=>(h.lst x hx).same fun q hq=>hk q (.inr (kZ hx hq)),h.nd⟩
theorem blF {i:Nat} {o:Nat} {x y:cI} (hi:B[i]?=some (o,x)):eI (B.set i (o,y))=eI B:=by
 unfold eI
 rw[List.map_set]
 refine List.ext_getElem? fun j=>?_
 rw[List.getElem?_set]
 split
 ·rename_i e
  subst e
  rw[bLC,hi]
  have:=(bLD.1 hi).1
  simp[this]
 ·rfl
theorem aT.set (h:aT H B L) (i:Nat) {o:Nat} {x:cI} (hi:B[i]?=some (o,x)) (y:cI):aT (H.set o y) (B.set i (o,y)) L:=by
 have hoB:o∈eI B:=tG (bMI hi)
 refine⟨fun b hb=>?_,fun z hz=>(h.lst z hz).same fun q hq=>?_,by rw[blF hi]; exact h.nd⟩
 ·obtain⟨j,hj⟩:=List.mem_iff_getElem?.1 hb
  rw[List.getElem?_set] at hj
  split at hj
  ·split at hj
   ·cases hj; simp only[bA,if_true]
   ·cases hj
  ·rename_i hne
   have:b.1≠o:=fun e=>h.ne i j hi (show B[j]?=some (b.1,b.2) from hj) hne e.symm
   rw[bA,if_neg this]
   exact h.box b (bMI hj)
 ·have:q≠o:=fun e=>h.ndX hoB (kZ hz hq) e.symm
  rw[bA,if_neg this]
theorem aT.new (h:aT H B L) {o:Nat} (ho:H o=none) (y:cI):aT (H.set o y) (B++[(o,y)]) L:=by
 obtain⟨f1,f2⟩:=h.fresh ho
 refine⟨fun b hb=>?_,fun z hz=>(h.lst z hz).same fun q hq=>?_,?_⟩
 ·rw[bLQ,List.mem_singleton] at hb
  rcases hb with hb | rfl
  ·have:b.1≠o:=fun e=>f1 (e ▸ tG hb)
   rw[bA,if_neg this]; exact h.box b hb
  ·simp only[bA,if_true]
 ·have:q≠o:=fun e=>f2 (e ▸ kZ hz hq)
  rw[bA,if_neg this]
 ·have:=h.nd
  simp only[eI,bLT,bLF,bME] at *
  rw[bKV,bMM] at *
  obtain⟨a,b,c⟩:=this
  refine⟨a,?_,fun p hp q hq=>?_⟩
  ·rw[List.singleton_append,List.nodup_cons]; exact⟨f2,b⟩
  ·rw[List.singleton_append,bKI] at hq
   rcases hq with rfl | hq
   ·intro e; subst e; exact f1 hp
   ·exact c p hp q hq
theorem kR (L1 L2:List LI):dV (L1++L2)=dV L1++dV L2:=List.filterMap_append ..
theorem aT.qM (h:aT H B L) (s:Nat):aT H B (L++[(.bHP,s,[])]):=by
 refine⟨h.box,fun z hz=>?_,?_⟩
 ·rw[bLQ,List.mem_singleton] at hz
  rcases hz with hz | rfl
  ·exact h.lst z hz
  ·exact .nil
 ·rw[kR,show dV [((.bHP:PV),s,([]:List (List PV)))]=[] from rfl,bLK]; exact h.nd
theorem aT.bxD (h:aT H B L) {o s:Nat} {rows:List (List PV)} (ho:H o=none):aT (H.set o (.rows s rows)) B (L++[(.osl o s 0 rows.length,s,rows)]):=by
 obtain⟨f1,f2⟩:=h.fresh ho
 have hk:=h.keep (H':=H.set o (.rows s rows)) fun q hq=>by
  have:q≠o:=by rintro rfl; exact hq.elim f1 f2
  rw[bA,if_neg this]
 refine⟨hk.box,fun z hz=>?_,?_⟩
 ·rw[bLQ,List.mem_singleton] at hz
  rcases hz with hz | rfl
  ·exact hk.lst z hz
  ·exact .inr ⟨o,rows,rfl,by simp only[bA,if_true],bKB _,bKU⟩
 ·rw[kR,show dV [((.osl o s 0 rows.length:PV),s,rows)]=[o] from rfl,← bKV,bMM]
  refine⟨h.nd,by simp,fun p hp q hq=>?_⟩
  rw[List.mem_singleton] at hq
  subst hq
  rintro rfl
  rcases bLQ.1 hp with hp | hp
  ·exact f1 hp
  ·exact f2 hp
theorem aFA {i:Nat} {v v':PV} {s s':Nat} {rows rows':List (List PV)} (hi:L[i]?=some (v,s,rows)):∃ L1 L2,L=L1++(v,s,rows)::L2∧L.set i (v',s',rows')=L1++(v',s',rows')::L2:=by
 obtain⟨hl,he⟩:=bLD.1 hi
 refine⟨L.take i,L.drop (i+1),?_,?_⟩
 ·rw[← he,← bLO hl,bML]
 ·rw[List.set_eq_take_append_cons_drop,if_pos hl]
theorem aT.SF (h:aT H B L) (i:Nat) {s:Nat} {v:PV} {rows:List (List PV)} (hi:L[i]?=some (v,s,rows)) {s':Nat} {v':PV} {rows':List (List PV)} {H':PH} (ho:aX H' s' v' rows')
  (hid:∀ q,v'.oid=some q→v.oid=some q∨H q=none) (hk:∀ q,q∈eI B∨q∈dV L→(∀ p,v.oid=some p→q≠p)→H' q=H q):aT H' B (L.set i (v',s',rows')):=by
 obtain⟨L1,L2,e1,e2⟩:=aFA (v':=v') (s':=s') (rows':=rows') hi
 rw[e2]
 subst e1
 have hnd:=h.nd
 have eL:dV (L1++(v,s,rows)::L2)=dV L1++(v.oid.toList++dV L2):=by
  rw[kR]
  congr 1
  unfold dV
  rw[List.filterMap_cons]
  cases e:v.oid<;>simp
 have eL':dV (L1++(v',s',rows')::L2)=dV L1++(v'.oid.toList++dV L2):=by
  rw[kR]
  congr 1
  unfold dV
  rw[List.filterMap_cons]
  cases e:v'.oid<;>simp
 rw[eL] at hnd
 have other:∀ q,q∈eI B∨q∈dV L1∨q∈dV L2→∀ p,v.oid=some p→q≠p:=by
  intro q hq p hp e
  subst e
  rw[hp] at hnd
  simp only[Option.toList_some] at hnd
  rw[bMM] at hnd
  obtain⟨a,b,c⟩:=hnd
  rw[bMM] at b
  obtain⟨b1,b2,b3⟩:=b
  rw[List.singleton_append,List.nodup_cons] at b2
  rcases hq with hq | hq | hq
  ·exact c q hq q (by simp) rfl
  ·exact b3 q hq q (by simp) rfl
  ·exact b2.1 hq
 have keepq:∀ q,q∈eI B∨q∈dV L1∨q∈dV L2→H' q=H q:=by
  intro q hq
  refine hk q ?_ (other q hq)
  rw[eL]
  simp only[bLQ]
  rcases hq with hq | hq | hq
  ·exact .inl hq
  ·exact .inr (.inl hq)
  ·exact .inr (.inr (.inr hq))
 refine⟨fun b hb=>by rw[keepq _ (.inl (tG hb))]; exact h.box b hb,fun z hz=>?_,?_⟩
 ·rw[bLQ,bKI] at hz
  rcases hz with hz | rfl | hz
  ·exact (h.lst z (by simp[hz])).same fun q hq=>keepq q (.inr (.inl (kZ hz hq)))
  ·exact ho
  ·exact (h.lst z (by simp[hz])).same fun q hq=>keepq q (.inr (.inr (kZ hz hq)))
 ·rw[eL']
  cases e:v'.oid with
  | none =>
   simp only[Option.toList_none,List.nil_append]
   refine List.Nodup.sublist ?_ hnd
   exact bLR.append (bLR.refl _) (bLR.append (bLR.refl _) (List.sublist_append_right _ _))
  | some q =>
   rcases hid q e with hv | hn
   ·rw[hv] at hnd
    exact hnd
   ·obtain⟨f1,f2⟩:=h.fresh hn
    rw[eL] at f2
    simp only[bLQ,not_or] at f2
    have hnd':(eI B++(dV L1++dV L2)).Nodup:=List.Nodup.sublist (bLR.append (bLR.refl _) (bLR.append (bLR.refl _) (List.sublist_append_right _ _))) hnd
    simp only[Option.toList_some]
    rw[bMM] at hnd' ⊢
    obtain⟨a,b,c⟩:=hnd'
    rw[bMM] at b
    obtain⟨b1,b2,b3⟩:=b
    refine⟨a,?_,?_⟩
    ·rw[bMM]
     refine⟨b1,by rw[List.singleton_append,List.nodup_cons]; exact⟨f2.2.2,b2⟩,fun p hp r hr=>?_⟩
     rw[List.singleton_append,bKI] at hr
     rcases hr with rfl | hr
     ·rintro rfl; exact f2.1 hp
     ·exact b3 p hp r hr
    ·intro p hp r hr
     rw[bLQ,List.singleton_append,bKI] at hr
     rcases hr with hr | rfl | hr
     ·exact c p hp r (by simp[hr])
     ·rintro rfl; exact f1 hp
     ·exact c p hp r (by simp[hr])
theorem aT.append (h:aT H B L) (i:Nat) {s b:Nat} {v y:PV} {rows src:List (List PV)} (hi:L[i]?=some (v,s,rows)) (hy:dX H s y=some src) (hr:roomFor rows.length src.length b)
  (hk:∀ v' H',aT H' B (L.set i (v',s,rows++src))→(src≠[]→∃ q,v'=.osl q s 0 (rows++src).length)→K v' H'):nG H s b v y K:=by
 rcases h.own i hi with ⟨rfl,rfl⟩ | ⟨q,rs,rfl,h1,h2,h3⟩
 ·refine⟨src,hy,hr,fun e=>?_,fun e o ho=>?_⟩
  ·subst e
   refine hk _ _ ?_ fun h=>absurd rfl h
   exact h.SF i hi (.inl ⟨rfl,rfl⟩) (fun q hq=>by cases hq) fun q _ _=>rfl
  ·refine hk _ _ (h.SF i hi (.inr ⟨o,src,rfl,by simp only[bA,if_true],bKB _,bKU⟩) (fun q hq=>by cases hq; exact .inr ho) fun q hq _=>?_) fun _=>⟨o,rfl⟩
   obtain⟨f1,f2⟩:=h.fresh ho
   have:q≠o:=by rintro rfl; exact hq.elim f1 f2
   rw[bA,if_neg this]
 ·have hlen:(rows++src).length=rows.length+src.length:=bJX
  refine⟨src,hy,rfl,rfl,hr,rs,h1,h2,?_,fun o ho=>?_⟩
  ·rw[h3]
   refine hk _ _ (h.SF i hi (.inr ⟨q,rows++src,by rw[hlen],by simp only[bA,if_true],bKB _,bKU⟩) (fun p hp=>by cases hp; exact .inl rfl) fun p _ hp=>?_) fun _=>⟨q,by rw[hlen]⟩
   rw[bA,if_neg (hp q rfl)]
  ·rw[h3]
   refine hk _ _ (h.SF i hi (.inr ⟨o,rows++src,by rw[hlen],by simp only[bA,if_true],bKB _,bKU⟩) (fun p hp=>by cases hp; exact .inr ho) fun p hpm hp=>?_) fun _=>⟨o,by rw[hlen]⟩
   obtain⟨f1,f2⟩:=h.fresh ho
   have n1:p≠o:=by rintro rfl; exact hpm.elim f1 f2
   rw[bA,if_neg n1]
theorem aT.sub (h:aT H B L) {B':List BX} {L':List LI} (hB:B'.Sublist B) (hL:L'.Sublist L):aT H B' L' :=
 ⟨fun b hb=>h.box b (hB.subset hb),fun x hx=>h.lst x (hL.subset hx),List.Nodup.sublist (bLR.append (hB.map _) (hL.filterMap _)) h.nd⟩
theorem aT.bAE (h:aT H B L) (i:Nat):aT H (B.eraseIdx i) L:=h.sub (List.eraseIdx_sublist ..) (bLR.refl _)
theorem aT.bAF (h:aT H B L) (i:Nat):aT H B (L.eraseIdx i):=h.sub (bLR.refl _) (List.eraseIdx_sublist ..)
end
section
variable {C:Ctx} {F:PF} {H:PH} {B:List BX} {L:List LI}
theorem aT.SB (h:aT H B L) {q:Nat} (hq:q∈eI B∨q∈dV L):∃ x,H q=some x:=by
 rcases hq with hq | hq
 ·obtain⟨b,hb,rfl⟩:=bLA.1 hq
  exact⟨_,h.box b hb⟩
 ·obtain⟨x,hx,e⟩:=List.mem_filterMap.1 hq
  obtain⟨rs,h1,_⟩:=(h.lst x hx).id e
  exact⟨_,h1⟩
theorem aT.perm (h:aT H B L) {B':List BX} {L':List LI} (hB:B.Perm B') (hL:L.Perm L'):aT H B' L' :=
 ⟨fun b hb=>h.box b (hB.mem_iff.2 hb),fun x hx=>h.lst x (hL.mem_iff.2 hx),(List.Perm.nodup_iff ((hB.map _).append (hL.filterMap _))).1 h.nd⟩
theorem aT.only (h:aT H B L) {B1:List BX} {L1:List LI} (hB:B1.Sublist B) (hL:L1.Sublist L):aT (H.only (eI B1++dV L1)) B1 L1:=by
 refine (h.sub hB hL).keep fun q hq=>?_
 rw[rA]
 rw[if_pos (bLQ.2 hq)]
theorem bxE {a b c d:List Nat} (h1:(a++c).Nodup) (h2:(b++d).Nodup) (h3:∀ q,q∈a∨q∈c→q∈b∨q∈d→False):((a++b)++(c++d)).Nodup:=by
 have e:List.Perm ((a++b)++(c++d)) ((a++c)++(b++d)):=by
  rw[bKV,bKV]
  exact List.Perm.append_left a (by rw[← bKV,← bKV]; exact List.Perm.append_right d List.perm_append_comm)
 rw[e.nodup_iff,bMM]
 refine⟨h1,h2,fun p hp q hq=>?_⟩
 rintro rfl
 exact h3 p (bLQ.1 hp) (bLQ.1 hq)
theorem aT.frame {H':PH} {B1 B2 B':List BX} {L1 L2 L':List LI} (h:aT H (B1++B2) (L1++L2)) (h':aT H' B' L') (ha:mW H (H.only (eI B1++dV L1)) H'):aT (H.over (H.only (eI B1++dV L1)) H') (B'++B2) (L'++L2):=by
 have h2:aT H B2 L2:=h.sub (List.sublist_append_right ..) (List.sublist_append_right ..)
 have dis:∀ q,q∈eI B2∨q∈dV L2→¬ (q∈eI B1++dV L1):=by
  intro q hq hm
  have hnd:=h.nd
  rw[show eI (B1++B2)=eI B1++eI B2 from bLT,kR] at hnd
  have e:List.Perm ((eI B1++eI B2)++(dV L1++dV L2)) ((eI B1++dV L1)++(eI B2++dV L2)):=by
   rw[bKV,bKV]
   exact List.Perm.append_left _ (by rw[← bKV,← bKV]; exact List.Perm.append_right _ List.perm_append_comm)
  rw[e.nodup_iff,bMM] at hnd
  exact hnd.2.2 q hm q (bLQ.2 hq) rfl
 have new:∀ q,q∈eI B'∨q∈dV L'→(H.over (H.only (eI B1++dV L1)) H') q=H' q:=by
  intro q hq
  obtain⟨x,hx⟩:=h'.SB hq
  rw[nO,hx]
 have old:∀ q,q∈eI B2∨q∈dV L2→(H.over (H.only (eI B1++dV L1)) H') q=H q:=by
  intro q hq
  obtain⟨x,hx⟩:=h2.SB hq
  have h0:(H.only (eI B1++dV L1)) q=none:=by rw[rA,if_neg (dis q hq)]
  rw[nO]
  cases e:H' q with
  | none=>simp only[h0]
  | some y =>
   have:=ha q y e h0
   rw[hx] at this; cases this
 have k1:=h'.keep new
 have k2:=h2.keep old
 refine⟨fun b hb=>?_,fun x hx=>?_,?_⟩
 ·rcases bLQ.1 hb with hb | hb
  ·exact k1.box b hb
  ·exact k2.box b hb
 ·rcases bLQ.1 hx with hx | hx
  ·exact k1.lst x hx
  ·exact k2.lst x hx
 ·rw[show eI (B'++B2)=eI B'++eI B2 from bLT,kR]
  refine bxE h'.nd h2.nd fun q hq hq2=>?_
  obtain⟨x,hx⟩:=h'.SB hq
  obtain⟨y,hy⟩:=h2.SB hq2
  have h0:(H.only (eI B1++dV L1)) q=none:=by rw[rA,if_neg (dis q hq2)]
  have:=ha q x hx h0
  rw[hy] at this; cases this
theorem DK {name:Nat} {vs:List PV} {args:List aP} {d:Option Nat} {K:PF→PH→Prop} {B1 B2:List BX} {L1 L2:List LI} {Q:PV→List BX→List LI→Prop} (h:aT H (B1++B2) (L1++L2))
  (hc:∀ H0,aT H0 B1 L1→aI C name vs H0 (fun r H'=>∃ B' L',Q r B' L'∧aT H' B' L')) (ha:aP.evs F args=some vs)
  (hk:∀ r B' L' H',Q r B' L'→aT H' (B'++B2) (L'++L2)→K (F.put d r) H'):iH C name args [] d K F H:=by
 refine nH (hc (H.only (eI B1++dV L1)) (h.only (List.sublist_append_left ..) (List.sublist_append_left ..))) ha (amE H _) ?_
 rintro r H' ⟨B',L',hq,h'⟩ hap
 exact hk r B' L' _ hq (h.frame h' hap)
theorem aT.LP {B:List BX} {o:Nat} {x:cI} (h:aT H (B++[(o,x)]) L):H o=some x:=h.box (o,x) (by simp)
theorem aT.amM {B:List BX} {o:Nat} {x:cI} (h:aT H (B++[(o,x)]) L) (y:cI):aT (H.set o y) (B++[(o,y)]) L:=by
 have:=h.set B.length (o:=o) (x:=x) (by simp) y
 rwa [bMV _ _ (bKB _),Nat.sub_self] at this
theorem aT.dropLast {B:List BX} {b:BX} (h:aT H (B++[b]) L):aT H B L:=h.sub (List.sublist_append_left ..) (bLR.refl _)
theorem aT.buO {B:List BX} {o:Nat} {x:cI} (h:aT H ((o,x)::B) L) (y:cI):aT (H.set o y) ((o,y)::B) L:=h.set 0 rfl y
theorem aT.bwL {B:List BX} {o:Nat} {x:cI} (h:aT H ((o,x)::B) L):H o=some x:=h.at 0 rfl
theorem mC {name o:Nat} {x y:cI} {r:PV} {vs:List PV} {args:List aP} {d:Option Nat} {K:PF→PH→Prop} (h:aI C name vs (PH.nil.set o x) (fun r' H'=>r'=r∧H'=PH.nil.set o y)) (ho:H o=some x) (ha:aP.evs F args=some vs)
  (hk:K (F.put d r) (H.set o y)):iH C name args [] d K F H:=by
 refine nH h ha (PH.aG PH.nil_le ho) ?_
 rintro r' H' ⟨rfl,rfl⟩ -
 rw[PH.sH]
 exact hk
theorem bjV {Hs:PH} {S:Spec} {name o:Nat} {x y:cI} {r:PV} {vs:List PV} {R:PH→PV→PH→Prop} {args:List aP} {st:Bool} {d:Option Nat} {K:PF→PH→Prop} (hS:S name vs=some ([o],R)) (ho:H o=some x)
  (h:aI C name vs (PH.nil.set o x) (fun r' H'=>r'=r∧H'=PH.nil.set o y)) (hR1:R (PH.nil.set o x) r (PH.nil.set o y)) (hR2:∀ r' H',R (PH.nil.set o x) r' H'→r'=r∧H'=PH.nil.set o y) (ha:aP.evs F args=some vs)
  (hle:Hs.le (H.set o y)) (hk:K (F.put d r) (H.set o y)):dOp C Hs S st (.call name args) d K F H:=by
 have e:=aJF ho
 refine⟨vs,[o],_,ha,hS,fun q hq=>?_,?_,fun G=>⟨r,_,by rw[e]; exact hR1,fun q z hz hn=>?_⟩,fun r' H' hr _=>?_⟩
 ·simp at hq; subst hq; exact⟨x,ho⟩
 ·rw[e]
  exact h.post fun r' H' hr=>⟨r',.refl _,by rw[hr.1,hr.2]; exact hR1⟩
 ·rw[e] at hn
  rw[bA] at hz hn
  split at hn
  ·cases hn
  ·rename_i hne
   rw[if_neg hne] at hz; cases hz
 ·rw[e] at hr
  obtain⟨rfl,rfl⟩:=hR2 r' H' hr
  rw[e,PH.sH]
  exact⟨hle,hk⟩
theorem boL {s:Nat} {q z:Nat} {rs:List (List PV)} {v:PV} {rows:List (List PV)} (h:aX H s v rows) (hv:v.oid≠some q):aX (H.frz q z rs) s v (rows.map fun r=>r.map (PV.dT q z rs)):=by
 rcases h with ⟨rfl,rfl⟩ | ⟨p,rs',rfl,h1,h2,h3⟩
 ·exact .inl ⟨rfl,rfl⟩
 ·have hne:¬ p=q:=fun e=>hv (by rw[e]; rfl)
  refine .inr ⟨p,rs'.map fun r=>r.map (PV.dT q z rs),by rw[bJT],?_,by simpa using h2,?_⟩
  ·rw[RN,if_neg hne,h1]; rfl
  ·rw[bJT,← List.map_take,h3]
theorem aT.frz (h:aT H B L) (i:Nat) {q s k:Nat} {rows:List (List PV)} (hi:L[i]?=some (.osl q s 0 k,s,rows)):∃ rs,H q=some (.rows s rs)∧PV.dT q s rs (.osl q s 0 k)=.sl s rows∧PV.frz q s rs (.osl q s 0 k)=.sl s rows∧(∀ j x,j≠i→L[j]?=some x→PV.dT q s rs x.1=x.1) ∧
  aT (H.frz q s rs) (B.map fun b=>(b.1,b.2.frz q s rs)) ((L.eraseIdx i).map fun x=>(x.1,x.2.1,x.2.2.map fun r=>r.map (PV.dT q s rs))):=by
 obtain⟨rs,h1,h2,h3,h4⟩:=(h.own i hi).id rfl
 injection h2 with _ _ _ hk
 subst hk
 have e:PV.frz q s rs (.osl q s 0 rows.length)=.sl s rows:=by rw[xC h3,h4]
 refine⟨rs,h1,e,e,?_⟩
 refine⟨fun j x hji hj=>?_,?_⟩
 ·have hxq:x.1.oid≠some q:=by
   intro hxq
   obtain⟨hl,he⟩:=bLD.1 hi
   obtain⟨hl2,he2⟩:=bLD.1 hj
   have hmem:x∈L.eraseIdx i:=List.mem_eraseIdx_iff_getElem?.2 ⟨j,hji,hj⟩
   have hnd:=h.ndL
   have hs:L=L.take i++(L[i]::L.drop (i+1)):=by rw[← bLO hl,bML]
   rw[List.eraseIdx_eq_take_drop_succ] at hmem
   rw[hs,kR] at hnd
   have e3:dV (L[i]::L.drop (i+1))=q::dV (L.drop (i+1)):=by rw[he]; rfl
   rw[e3,bMM] at hnd
   obtain⟨a,b,c⟩:=hnd
   rcases bLQ.1 hmem with hx | hx
   ·exact c q (kZ hx hxq) q (by simp) rfl
   ·exact (List.nodup_cons.1 b).1 (kZ hx hxq)
  cases hx:x.1<;>try rfl
  rename_i p z off len
  have:¬ p=q:=fun e=>hxq (by rw[hx,e]; rfl)
  simp only[PV.dT,if_neg this]
 obtain⟨L1,L2,e1,e2⟩:=aFA (v':=.bHP) (s':=s) (rows':=rows) hi
 have hil:i=L1.length∨True:=.inr trivial
 have ers:(L.eraseIdx i).Sublist L:=List.eraseIdx_sublist ..
 have hqn:∀ x∈L.eraseIdx i,x.1.oid≠some q:=by
  intro x hx hxq
  obtain⟨hl,he⟩:=bLD.1 hi
  have hnd:=h.ndL
  have hs:L=L.take i++(L[i]::L.drop (i+1)):=by rw[← bLO hl,bML]
  rw[List.eraseIdx_eq_take_drop_succ] at hx
  rw[hs,kR] at hnd
  have e3:dV (L[i]::L.drop (i+1))=q::dV (L.drop (i+1)):=by
   rw[he]; rfl
  rw[e3,bMM] at hnd
  obtain⟨a,b,c⟩:=hnd
  rcases bLQ.1 hx with hx | hx
  ·exact c q (kZ hx hxq) q (by simp) rfl
  ·exact (List.nodup_cons.1 b).1 (kZ hx hxq)
 refine⟨fun b hb=>?_,fun x hx=>?_,?_⟩
 ·obtain⟨b0,hb0,rfl⟩:=bLA.1 hb
  have:¬ b0.1=q:=h.ndX (tG hb0) (kZ (bMI hi) rfl)
  simp only
  rw[RN,if_neg this,h.box b0 hb0]; rfl
 ·obtain⟨x0,hx0,rfl⟩:=bLA.1 hx
  exact boL (h.lst x0 (ers.subset hx0)) (hqn x0 hx0)
 ·have i1:eI (B.map fun b=>(b.1,b.2.frz q s rs))=eI B:=by unfold eI; rw[List.map_map]; rfl
  have i2:dV ((L.eraseIdx i).map fun x=>(x.1,x.2.1,x.2.2.map fun r=>r.map (PV.dT q s rs)))=dV (L.eraseIdx i):=by unfold dV; rw[List.filterMap_map]; rfl
  rw[i1,i2]
  exact List.Nodup.sublist (bLR.append (bLR.refl _) (ers.filterMap _)) h.nd
def Flat (rows:List (List PV)):Prop:=∀ q s rs,rows.map (fun r=>r.map (PV.dT q s rs))=rows
theorem Flat.nil:Flat []:=fun _ _ _=>rfl
theorem Flat.of {rows:List (List PV)} (h:∀ r∈rows,∀ c∈r,∀ q s rs,PV.dT q s rs c=c):Flat rows:=fun q s rs=>by
 conv=>rhs; rw[← List.map_id rows]
 refine List.map_congr_left fun r hr=>?_
 conv=>rhs; rw[id,← List.map_id r]
 exact List.map_congr_left fun c hc=>h r hr c hc q s rs
theorem Flat.map {α:Type} {f:α→List PV} (l:List α) (h:∀ x,∀ c∈f x,∀ q s rs,PV.dT q s rs c=c):Flat (l.map f):=Flat.of fun r hr=>by
 obtain⟨x,_,rfl⟩:=bLA.1 hr
 exact h x
theorem Flat.append {r1 r2:List (List PV)} (h1:Flat r1) (h2:Flat r2):Flat (r1++r2):=fun q s rs=>by rw[bLT,h1,h2]
theorem aT.flat {φ:PV→List (List PV)} (h:aT H B L):aT H B L:=h
def zD (v:PV) (H:PH) (R:PV→PH→Prop):Prop:=∃ F1 H1 H2,jQ (PF.nil.set 0 v) H F1 H1∧H2.le H1∧∃ u,F1 0=some u∧R u H2
theorem zD.done {v:PV} {H2:PH} {R:PV→PH→Prop} (hR:R v H2) (hle:H2.le H):zD v H R:=⟨_,_,H2,.refl _ _,hle,v,by rw[mR,if_pos rfl],hR⟩
theorem zD.step {v:PV} {q s:Nat} {rs:List (List PV)} {R:PV→PH→Prop} (hq:H q=some (.rows s rs)) (h:zD (PV.frz q s rs v) (H.frz q s rs) R):zD v H R:=by
 obtain⟨F1,H1,H2,h1,h2,h3⟩:=h
 have e:(PF.nil.set 0 v).frz q s rs=PF.nil.set 0 (PV.frz q s rs v):=by
  funext i
  rw[rW,mR,mR]
  split<;>rfl
 exact⟨F1,H1,H2,.step q hq (by rw[e]; exact h1),h2,h3⟩
theorem amI {res:List eA} {R:PV→PH→Prop} {vs:List PV} {e:mD} (he:e=.normal∨e=.ret) (h:eA.evs F H res=some vs) (hf:zD (bH vs) H R):aR res R e F H:=by
 have key:∃ vs,eA.evs F H res=some vs∧∃ F1 H1 H2,jQ (PF.nil.set 0 (bH vs)) H F1 H1∧H2.le H1∧∃ u,F1 0=some u∧R u H2:=⟨vs,h,hf⟩
 rcases he with rfl | rfl<;>exact key
theorem abP {u:PV} (h:u.oid=none) (q s:Nat) (rs:List (List PV)):PV.dT q s rs u=u:=by
 cases u<;>first | rfl | (simp[PV.oid] at h)
theorem Seen.co {s:Nat} {v:PV} {rows:List (List PV)} (h:Seen s v rows):Co v (.sl s rows):=by
 rcases h with ⟨rfl,rfl⟩ | rfl
 ·exact .nil s
 ·exact .refl _
theorem aT.giveUp:∀ (L:List LI) {H:PH} {B:List BX},aT H B L→(∀ x∈L,Flat x.2.2)→(∀ b∈B,∀ q s rs,cI.frz q s rs b.2=b.2) →
  ∃ (φ:PV→PV) (H1:PH),(∀ x∈L,Seen x.2.1 (φ x.1) x.2.2)∧(∀ u,u.oid=none→φ u=u)∧aT H1 B []∧∀ cs R,zD (.agg (cs.map φ)) H1 R→zD (.agg cs) H R
 | [],H,B,h,_,_=>⟨id,H,by simp,fun _ _=>rfl,h,fun cs R hf=>by rwa [List.map_id] at hf⟩
 | (w,s,rows)::L,H,B,h,hL,hB=>by
  have hflat:∀ q z rs,(L.map fun x=>(x.1,x.2.1,x.2.2.map fun r=>r.map (PV.dT q z rs)))=L:=fun q z rs=>by
   conv=>rhs; rw[← List.map_id L]
   refine List.map_congr_left fun x hx=>?_
   rw[hL x (by simp[hx]) q z rs]; rfl
  rcases h.own 0 rfl with ⟨h1,h2⟩ | ⟨q,rs,h1,_⟩
  ·obtain⟨φ,H1,k1,k2,k3,k4⟩:=aT.giveUp L (h.bAF 0) (fun x hx=>hL x (by simp[hx])) hB
   refine⟨φ,H1,fun x hx=>?_,k2,k3,k4⟩
   rw[bKI] at hx
   rcases hx with rfl | hx
   ·exact .inl ⟨h1,by simp only; rw[h2]; exact k2 _ rfl⟩
   ·exact k1 x hx
  ·subst h1
   obtain⟨rs,z1,z2,z3,z4,z5⟩:=h.frz 0 rfl
   have z6:aT (H.frz q s rs) B L:=by
    have eB:(B.map fun b=>(b.1,b.2.frz q s rs))=B:=by
     conv=>rhs; rw[← List.map_id B]
     refine List.map_congr_left fun b hb=>?_
     rw[hB b hb q s rs]; rfl
    rw[eB] at z5
    have:=z5
    simp only[List.eraseIdx_cons_zero] at this
    rwa [hflat q s rs] at this
   obtain⟨φ,H1,k1,k2,k3,k4⟩:=aT.giveUp L z6 (fun x hx=>hL x (by simp[hx])) hB
   refine⟨fun u=>φ (PV.dT q s rs u),H1,fun x hx=>?_,fun u hu=>?_,k3,fun cs R hf=>?_⟩
   ·rw[bKI] at hx
    rcases hx with rfl | hx
    ·simp only
     rw[z2]
     exact .inr (k2 _ rfl)
    ·obtain⟨j,hj⟩:=List.mem_iff_getElem?.1 hx
     have:=z4 (j+1) x Om (by simpa using hj)
     simp only
     rw[this]
     exact k1 x hx
   ·simp only
    rw[abP hu,k2 u hu]
   ·refine .step z1 ?_
    have e:PV.frz q s rs (.agg cs)=.agg (cs.map (PV.dT q s rs)):=rfl
    rw[e]
    refine k4 _ R ?_
    rw[List.map_map]
    exact hf
theorem aoX {K:cA} {α:Type} {Fs:α→PF} {Hs:α→PH} {Pr:α→Prop} {m:α→Nat} {n q s:Nat} {rs:List (List PV)} (a:α) (hq:H q=some (.rows s rs)) (h0:Pr a) (hm:m a<n) (hF:(Fs a).le (F.frz q s rs)) (hH:(Hs a).le (H.frz q s rs)):dU Fs Hs Pr m n K .normal F H :=
 ⟨a,_,_,.step q hq (.refl _ _),h0,hm,hF,hH⟩
end
structure EU (C:Ctx):Prop extends aaJ C where
 int:∀ n:Int,cX n→aI C 47 [.int .i64 n] .nil (aD (.agg (mkT n 1).cells))
 itoa:∀ n:Nat,n<100→aI C 195 [.int .i64 n] .nil (aD (.str (bU n)))
 next:∀ (l:List Nat) (v:PV),Tp l v→∀ (o n a:Nat),n≤1000000→a≤l.length→aI C 4 [.ptr o 2 0 0,.int .i64 n] (PH.nil.set o (bK v a)) (aaG l v o n a)
section
variable {C:Ctx} {F:PF} {H:PH} {l:List Nat} {v:PV} {o a:Nat}
theorem dA (Lb:EU C) (T:Tp l v) {n:Nat} {args:List aP} {d:Option Nat} {K:PF→PH→Prop} (hn:n≤1000000) (ha:a≤l.length) (bJI:aP.evs F args=some [.ptr o 2 0 0,.int .i64 n]) (ho:H o=some (bK v a))
  (hk:K (F.put d (.int .i64 ((aF l n a).1:Nat))) (H.set o (bK v (aF l n a).2))):iH C 4 args [] d K F H :=
 mC (Lb.next l v T o n a hn ha) ho bJI hk
end
def bqH (l:List Nat) (v:PV) (o a:Nat) (r:PV) (H:PH):Prop:=r=.agg (eZ l a).1.cells∧H=PH.nil.set o (bK v (eZ l a).2)
theorem tA (l:List Nat) {a:Nat} (h:a≤l.length):(eZ l a).2≤l.length:=bN l 8 (bN l 6 h)
theorem bmG {C:Ctx} (Lb:EU C) {l:List Nat} {v:PV} (T:Tp l v) (o a:Nat) (ha:a≤l.length):GZ.wp C (aR ayU.res (bqH l v o a)) (PF.args [.ptr o 2 0 0]) (PH.nil.set o (bK v a)):=by
 simp only[go_sem,δ,GZ,aGL,ayU]
 refine aO fun p hp=>?_
 have n1:¬ p=o:=(iD.1 hp).1
 have n1':¬ o=p:=fun h=>n1 h.symm
 have h1:=cC l (show 0<6 by decide) a
 have a1:=bN l 6 ha
 simp only[go_sem,reduceCtorEq,aGM]
 refine dA Lb T (o:=o) (n:=6) (a:=a) (by decide) ha rfl (by simp only[go_sem,n1']) ?_
 have e1:IntKind.i64.wrap (1+((aF l 6 a).1:Int))=((1+(aF l 6 a).1:Nat):Int):=by rw[wrap_i64 Om Om]; omega
 simp only[go_sem,γ,reduceCtorEq,e1]
 have h2:=cC l (show 0<8 by decide) (aF l 6 a).2
 refine dA Lb T (o:=o) (n:=8) (a:=(aF l 6 a).2) (by decide) a1 rfl Sq ?_
 have e2:IntKind.i64.wrap (1+((aF l 8 (aF l 6 a).2).1:Int))=((1+(aF l 8 (aF l 6 a).2).1:Nat):Int):=by rw[wrap_i64 Om Om]; omega
 simp only[go_sem,γ,e2]
 refine aA (Lb.fmk ((1+(aF l 6 a).1:Nat):Int) ((1+(aF l 8 (aF l 6 a).2).1:Nat):Int) (by unfold cX; omega) (by unfold cX; omega)) rfl ?_
 have hd:¬ ((1+(aF l 8 (aF l 6 a).2).1:Nat):Int)=0:=by omega
 unfold uY
 rw[if_neg hd]
 simp only[go_sem,δ,γ]
 refine aO fun q hq=>?_
 have n2:¬ q=o:=(iD.1 hq).1
 have n3:¬ q=p:=(iD.1 (iD.1 hq).2).1
 have n3':¬ p=q:=fun h=>n3 h.symm
 have n2':¬ o=q:=fun h=>n2 h.symm
 simp only[go_sem,δ,γ,aGN,n1,n1',n2,n3,n3']
 refine aV (vs:=[.agg (eZ l a).1.cells]) (.inr rfl) (PH.nil.set o (bK v (eZ l a).2)) ?_ (PH.aG PH.nil_le ?_) ⟨rfl,rfl⟩
 ·simp only[go_sem,δ,γ]
  rfl
 ·simp only[go_sem,n1',n2']
  rfl
structure aAA (C:Ctx):Prop extends EU C where
 frac:∀ (l:List Nat) (v:PV),Tp l v→∀ (o a:Nat),a≤l.length→aI C 1 [.ptr o 2 0 0] (PH.nil.set o (bK v a)) (bqH l v o a)
abbrev fQ (l:List RF):List (List PV):=l.map RF.cells
theorem vT (l:List RF) (x:RF):fQ l++[x.cells]=fQ (l++[x]):=by simp[fQ]
theorem FJ (l:List RF):Flat (fQ l):=Flat.map l fun x c hc q s rs=>by
 simp only[RF.cells,eC,bKI,bKR,or_false] at hc
 rcases hc with rfl | rfl | rfl<;>rfl
theorem lP (l:List RF):(fQ l).length=l.length:=by simp[fQ]
theorem Tp.frz {l:List Nat} {v:PV} (T:Tp l v) (q s:Nat) (rs:List (List PV)):PV.dT q s rs v=v:=by
 rcases T.seen with ⟨_,rfl⟩ | rfl<;>rfl
theorem EH (l:List Nat) {a:Nat} (h:a≤l.length):∀ k,(jW l a k).2≤l.length
 | 0=>h
 | k+1=>tA l (EH l h k)
theorem aJV (l:List Nat) (a:Nat):∀ k,(jW l a k).1.length=k
 | 0=>rfl
 | k+1=>by simp only[jW,bJX,bKD,aJV l a k]
def bwH (l:List Nat) (v:PV) (o a k:Nat) (r:PV) (H:PH):Prop:=r=frs (jW l a k).1∧H=PH.nil.set o (bK v (jW l a k).2)
def a7S (o:Nat) (m:Nat) (w:PV) (i:Nat):PF:=((((PF.nil.set 0 (.ptr o 2 0 0)).set 1 (.int .i64 m)).set 5 (w)).set 6 (.int .i64 i))
theorem btK {C:Ctx} (Lb:aAA C) {l:List Nat} {v:PV} (T:Tp l v) (o a m:Nat) (hm:m≤1000) (ha:a≤l.length):NH.wp C (aR a7R.res (bwH l v o a (max m 1))) (PF.args [.ptr o 2 0 0,.int .i64 m]) (PH.nil.set o (bK v a)):=by
 have hmx:∀ i:Nat,((i:Int)<(if (m:Int)<1 then 1 else (m:Int)))↔i<max m 1:=by
  intro i
  split<;>omega
 simp only[go_sem,NH,aXD,aXE,aXF,a7R]
 have h0:aT (PH.nil.set o (bK v a)) [(o,bK v a)] [(.bHP,3,fQ [])]:=(aT.nil.new (H:=PH.nil) rfl (bK v a)).qM 3
 refine wp_loop (α:=Nat × PV × PH) (fun t=>a7S o m t.2.1 t.1) (fun t=>t.2.2) (fun t=>t.1≤max m 1∧aT t.2.2 [(o,bK v (jW l a t.1).2)] [(t.2.1,3,fQ (jW l a t.1).1)]) (fun t=>max m 1-t.1) (0,.bHP,PH.nil.set o (bK v a)) ⟨bKA _,h0⟩ ?_ PH.le_refl ?_
 ·unfold a7S
  exact Lq
 rintro⟨k,w,H0⟩ ⟨hk,hH⟩
 simp only at hk hH ⊢
 simp only[go_sem,γ,reduceCtorEq,aXC,aXG,a7S]
 have hle:=EH l ha k
 have hlen:=aJV l a k
 by_cases hlt:k<max m 1
 ·have hc:=(hmx k).2 hlt
  simp only[go_sem,γ,reduceCtorEq,hc,aXH]
  refine mC (Lb.frac l v T o _ hle) (hH.at 0 rfl) rfl ?_
  have hH2:=hH.set 0 rfl (bK v (eZ l (jW l a k).2).2)
  have h13:(1:Nat)*3≤16777216:=by decide
  simp only[go_sem,υ,δ,γ,η,ζ,reduceCtorEq,h13]
  refine hH2.append 0 (src:=[(eZ l (jW l a k).2).1.cells]) rfl rfl (by unfold roomFor; rw[lP,hlen]; simp only[bKD,maxLen]; omega) fun w' H' h' _=>?_
  rw[vT] at h'
  simp only[go_sem,γ,reduceCtorEq,aXI,ws k]
  refine aC (k+1,w',H') ⟨hlt,h'⟩ (by simp only; omega) ?_ PH.le_refl
  exact Lq
 ·have hc:¬ ((k:Int)<(if (m:Int)<1 then 1 else (m:Int))):=fun h=>hlt ((hmx k).1 h)
  have e:k=max m 1:=by omega
  subst e
  simp only[go_sem,γ,reduceCtorEq,hc,aXJ]
  have hne:fQ (jW l a (max m 1)).1≠[]:=fun h=>by
   have:=congrArg List.length h
   rw[lP,hlen] at this
   simp at this
  rcases hH.own 0 rfl with ⟨h1,_⟩ | ⟨q,rs,rfl,_⟩
  ·exact absurd h1 hne
  obtain⟨rs,g1,g2,g3,-,g4⟩:=hH.frz 0 rfl
  refine amI (vs:=[.osl q 3 0 (fQ (jW l a (max m 1)).1).length]) (.inr rfl) rfl (.step g1 (.done (H2:=PH.nil.set o (bK v (jW l a (max m 1)).2)) ?_ (PH.aG PH.nil_le ?_)))
  ·rw[bH,g3]
   exact⟨rfl,rfl⟩
  ·have:=g4.at 0 rfl
   rw[this]
   simp only[cI.frz,bLF,bME,T.frz]
   rfl
theorem bmK {C:Ctx} (Lb:EU C) (s:List UInt8) (n:Nat) (hs:s.length≤100) (hn:n<100):HD.wp C (aR ayV.res (aD (.str (s++bU n)))) (PF.args [.str s,.int .i64 n]) .nil:=by
 have hl:(bU n).length≤2:=by
  unfold bU
  rw[Lib.decDigits]
  split
  ·simp
  ·rw[Lib.decDigits,dif_pos Om]; simp
 have hsum:¬ (((s.length+(bU n).length:Nat):Int)>9223372036854775807):=by omega
 simp only[go_sem,γ,reduceCtorEq,HD,aHE,aHF,ayV]
 refine aA (Lb.itoa n hn) rfl ?_
 simp only[go_sem,γ,a3Y,hsum]
 refine aM (.inr rfl) rfl ?_
 rfl
structure rM (C:Ctx):Prop extends aAA C where
 rep:∀ (l:List Nat) (v:PV),Tp l v→∀ (o a m:Nat),m≤1000→a≤l.length→aI C 5 [.ptr o 2 0 0,.int .i64 m] (PH.nil.set o (bK v a)) (bwH l v o a (max m 1))
 name:∀ (s:List UInt8) (n:Nat),s.length≤100→n<100→aI C 29 [.str s,.int .i64 n] .nil (aD (.str (s++bU n)))
theorem bjO (l:List Nat) (i j:Nat) {a:Nat} (h:a≤l.length):(iR l i j a).2≤l.length:=by
 unfold iR
 split
 ·exact tA l h
 ·split
  ·exact h
  ·simp only
   split
   ·exact tA l (bN l 3 h)
   ·exact bN l 3 h
theorem amK (l:List Nat) (i:Nat) {a:Nat} (h:a≤l.length):∀ j,(dH l i a j).2≤l.length
 | 0=>h
 | j+1=>bjO l i j (amK l i h j)
theorem YP (l:List Nat) (i a:Nat):∀ j,(dH l i a j).1.length=j
 | 0=>rfl
 | j+1=>by simp only[dH,bJX,bKD,YP l i a j]
theorem WY (l:List Nat) (n i:Nat) (s:AR) (h:s.a≤l.length):(dE l n i s).2≤l.length∧(dE l n i s).1≤s.left:=by
 unfold dE
 split
 ·exact⟨bN l _ h,by have:=cC l (Om:0<s.left+1) s.a; omega⟩
 ·exact⟨h,bKB _⟩
theorem aBN (l:List Nat) (n i:Nat) {a:Nat} (h:a≤l.length):(eR l n i a).2≤l.length:=by
 unfold eR
 simp only
 split
 ·exact bN l 3 (tA l h)
 ·exact tA l h
theorem alB (l:List Nat) (n:Nat) {a:Nat} (h:a≤l.length):∀ i,(fM l n a i).a≤l.length∧(fM l n a i).left≤8∧(fM l n a i).start.length=i∧(fM l n a i).exit.length=i∧(fM l n a i).bHT.length=i
 | 0=>⟨h,bKB _,rfl,rfl,rfl⟩
 | i+1=>by
  obtain⟨h1,h2,h3,h4,h5⟩:=alB l n h i
  have hl:=WY l n i (fM l n a i) h1
  refine⟨?_,?_,?_,?_,?_⟩
  ·exact amK l i (aBN l n i hl.1) n
  ·simp only[fM]; omega
  ·simp only[fM,bJX,bKD,h3]
  ·simp only[fM,bJX,bKD,h4]
  ·simp only[fM,bJX,bKD,h5]
abbrev tK (l:List (List RF)):List (List PV):=l.map fun r=>[frs r]
theorem aqY (l:List (List RF)):Flat (tK l):=Flat.map l fun x c hc q s rs=>by
 simp only[bKI,bKR,or_false] at hc
 subst hc; rfl
abbrev WW (w1 w2 w3:PV):cI:=.rows 4 [[.str [],w1,w2,w3]]
abbrev aFG:cI:=.rows 4 [[.str [],.bHP,.bHP,.bHP]]
def fB (o o4 o6 n left i:Nat) (w:PV) (j:Nat):PF:=((((((((PF.nil.set 0 (.ptr o 2 0 0)).set 4 (.ptr o4 4 0 0)).set 5 (.int .i64 n)).set 6 (.ptr o6 4 0 0)).set 7 (.int .i64 left)).set 8 (.int .i64 i)).set 13 (w)).set 14 (.int .i64 j))
def cR (o o4 o6 n left i:Nat):PF:=((((((PF.nil.set 0 (.ptr o 2 0 0)).set 4 (.ptr o4 4 0 0)).set 5 (.int .i64 n)).set 6 (.ptr o6 4 0 0)).set 7 (.int .i64 left)).set 8 (.int .i64 i))
theorem XD {l:List RF} (h:l.length≤1000):roomFor (fQ l).length 1 56:=by
 unfold roomFor
 rw[lP]
 simp only[maxLen]; omega
theorem bmJ {C:Ctx} (Lb:rM C) {l:List Nat} {v:PV} (T:Tp l v) (o o4 o6 n left i a:Nat) (ha:a≤l.length) (hn:n≤100) (hi:i<n) (B:List BX) (L:List LI) (K:cA) (F:PF) (H:PH)
  (hF:(fB o o4 o6 n left i .bHP 0).le F) (hH:aT H ((o,bK v a)::B) L)
  (hK:∀ w F' H',(fB o o4 o6 n left i w n).le F'→aT H' ((o,bK v (dH l i a n).2)::B) (L++[(w,3,fQ (dH l i a n).1)])→K (.exit 2) F' H') :
  aB.wp C (.loop HB) K F H:=by
 refine wp_loop (α:=Nat × PV × PH) (fun t=>fB o o4 o6 n left i t.2.1 t.1) (fun t=>t.2.2) (fun t=>t.1≤n∧aT t.2.2 ((o,bK v (dH l i a t.1).2)::B) (L++[(t.2.1,3,fQ (dH l i a t.1).1)])) (fun t=>n-t.1) (0,.bHP,H) ⟨bKA _,hH.qM 3⟩ hF PH.le_refl ?_
 rintro⟨j,w,H0⟩ ⟨hj,hH⟩
 simp only at hj hH ⊢
 have hle:=amK l i ha j
 have hlen:=YP l i a j
 have e1:IntKind.i64.wrap ((i:Int)+1)=((i+1:Nat):Int):=cW Om
 simp only[go_sem,γ,reduceCtorEq,HB,aGY,fB]
 by_cases hlt:j<n
 ·have bHV:(j:Int)<(n:Nat):=by omega
  simp only[go_sem,bHV,aGZ]
  refine aA (Lb.int 0 (by unfold cX; omega)) rfl ?_
  simp only[go_sem,δ]
  refine aO fun p hp=>?_
  have hH1:=hH.new hp (.rows 3 [jY.cells])
  simp only[go_sem,δ,γ,reduceCtorEq,aHA,e1]
  have fin:∀ (F':PF) (H':PH),(fB o o4 o6 n left i w j).le F'→F' 15=some (.ptr p 3 0 0)→aT H' ((o,bK v (iR l i j (dH l i a j).2).2)::B++[(p,.rows 3 [(iR l i j (dH l i a j).2).1.cells])]) (L++[(w,3,fQ (dH l i a j).1)]) →
    aB.wp C (.region XM) (dN 3 (iV C (aB.wp C (.region XN)) (dU (fun (t:Nat × PV × PH)=>fB o o4 o6 n left i t.2.1 t.1) (fun t=>t.2.2) (fun t=>t.1≤n∧aT t.2.2 ((o,bK v (dH l i a t.1).2)::B) (L++[(t.2.1,3,fQ (dH l i a t.1).1)])) (fun t=>n-t.1) (n-j) K))) F' H':=by
   intro F' H' hF' f15 hH'
   have f0:F' 0=some (.ptr o 2 0 0):=hF' 0 _ (by unfold fB; simp only[go_sem,reduceCtorEq])
   have f4:F' 4=some (.ptr o4 4 0 0):=hF' 4 _ (by unfold fB; simp only[go_sem,γ,reduceCtorEq])
   have f5:F' 5=some (.int .i64 n):=hF' 5 _ (by unfold fB; simp only[go_sem,γ,reduceCtorEq])
   have f6:F' 6=some (.ptr o6 4 0 0):=hF' 6 _ (by unfold fB; simp only[go_sem,γ,reduceCtorEq])
   have f7:F' 7=some (.int .i64 left):=hF' 7 _ (by unfold fB; simp only[go_sem,γ,reduceCtorEq])
   have f8:F' 8=some (.int .i64 i):=hF' 8 _ (by unfold fB; simp only[go_sem,γ,reduceCtorEq])
   have f13:F' 13=some w:=hF' 13 _ (by unfold fB; simp only[go_sem,γ,reduceCtorEq])
   have f14:F' 14=some (.int .i64 j):=hF' 14 _ (by unfold fB; simp only[go_sem,γ,reduceCtorEq])
   have hbp:H' p=some (.rows 3 [(iR l i j (dH l i a j).2).1.cells]):=hH'.box (p,.rows 3 [(iR l i j (dH l i a j).2).1.cells]) (by simp)
   have h13:(1:Nat)*3≤16777216:=by decide
   simp only[go_sem,υ,δ,γ,η,ζ,XM,f13,f15,hbp,h13]
   refine hH'.append (v:=w) (s:=3) (rows:=fQ (dH l i a j).1) L.length (src:=[(iR l i j (dH l i a j).2).1.cells]) (by simp) rfl (XD Om) fun w' H2 h2 _=>?_
   rw[vT,bMV _ _ (bKB _),Nat.sub_self] at h2
   simp only[go_sem,γ,XN,f14,ws j]
   refine aC (α:=Nat × PV × PH) (j+1,w',H2) ⟨hlt,h2.sub (List.sublist_append_left ..) (bLR.refl _)⟩ (by simp only; omega) ?_ PH.le_refl
   unfold fB
   exact Lq
  simp only[aB.wp,go_sem] at fin
  have hstore:∀ x:RF,PH.set (PH.set H0 p (.rows 3 [jY.cells])) p (.rows 3 [x.cells])=PH.set H0 p (.rows 3 [x.cells]):=fun x=>PH.set_set p _ _
  have draw:∀ (F':PF) (H1:PH) (a1:Nat),a1≤l.length→(fB o o4 o6 n left i w j).le F'→F' 15=some (.ptr p 3 0 0)→aT H1 ((o,bK v a1)::B++[(p,.rows 3 [jY.cells])]) (L++[(w,3,fQ (dH l i a j).1)])→iR l i j (dH l i a j).2=eZ l a1→∀ K',(∀ F2 H2,(fB o o4 o6 n left i w j).le F2→F2 15=some (.ptr p 3 0 0)→aT H2 ((o,bK v (iR l i j (dH l i a j).2).2)::B++[(p,.rows 3 [(iR l i j (dH l i a j).2).1.cells])]) (L++[(w,3,fQ (dH l i a j).1)])→K' F2 H2) →
    wpOps C XL K' F' H1:=by
   intro F' H1 a1 ha1 hF' f15 hH1 he K' hK'
   have f0:F' 0=some (.ptr o 2 0 0):=hF' 0 _ (by unfold fB; simp only[go_sem,reduceCtorEq])
   simp only[go_sem,XL,f0]
   refine mC (Lb.frac l v T o a1 ha1) (hH1.at 0 rfl) rfl ?_
   have hH2:aT (H1.set o (bK v (eZ l a1).2)) ((o,bK v (eZ l a1).2)::B++[(p,.rows 3 [jY.cells])]) (L++[(w,3,fQ (dH l i a j).1)]):=hH1.set 0 rfl _
   have hp2:=hH2.LP
   simp only[go_sem,δ,γ,f15,hp2]
   refine hK' _ _ ?_ (by simp only[go_sem,γ,f15]) ?_
   ·have g:=fun (q:Nat) u h=>hF' q u h
    unfold fB at g ⊢
    refine PF.aG (PF.aG (PF.aG (PF.aG (PF.aG (PF.aG (PF.aG (PF.aG PF.nil_le ?_) ?_) ?_) ?_) ?_) ?_) ?_) ?_
    ·simp only[go_sem,reduceCtorEq,f0]
    ·simp only[go_sem,ξ,ρ,σ,μ,κ,ι,ο,ν,υ,δ,τ,γ,η,θ,ζ,ε,reduceCtorEq,reduceIte,g 4 _ rfl]
    ·simp only[go_sem,ξ,ρ,σ,μ,κ,ι,ο,ν,υ,δ,τ,γ,η,θ,ζ,ε,reduceCtorEq,reduceIte,g 5 _ rfl]
    ·simp only[go_sem,ξ,ρ,σ,μ,κ,ι,ο,ν,υ,δ,τ,γ,η,θ,ζ,ε,reduceCtorEq,reduceIte,g 6 _ rfl]
    ·simp only[go_sem,ξ,ρ,σ,μ,κ,ι,ο,ν,υ,δ,τ,γ,η,θ,ζ,ε,reduceCtorEq,reduceIte,g 7 _ rfl]
    ·simp only[go_sem,ξ,ρ,σ,μ,κ,ι,ο,ν,υ,δ,τ,γ,η,θ,ζ,ε,reduceCtorEq,reduceIte,g 8 _ rfl]
    ·simp only[go_sem,ξ,ρ,σ,μ,κ,ι,ο,ν,υ,δ,τ,γ,η,θ,ζ,ε,reduceCtorEq,reduceIte,g 13 _ rfl]
    ·simp only[go_sem,ξ,ρ,σ,μ,κ,ι,ο,ν,υ,δ,τ,γ,η,θ,ζ,ε,reduceCtorEq,reduceIte,g 14 _ rfl]
   ·rw[he]
    exact hH2.amM (.rows 3 [(eZ l a1).1.cells])
  by_cases c1:j=i+1
  ·have he:iR l i j (dH l i a j).2=eZ l (dH l i a j).2:=by unfold iR; rw[if_pos c1]
   simp only[go_sem,γ,reduceCtorEq,bP (Om:(j:Int)=((i+1:Nat):Int))]
   refine draw _ _ _ hle (by unfold fB; exact Lq) rfl hH1 he _ ?_
   intro F2 H2 k1 k2 k3
   exact fin F2 H2 k1 k2 k3
  ·simp only[go_sem,γ,reduceCtorEq,bF (Om:¬ (j:Int)=((i+1:Nat):Int))]
   by_cases c2:j=i
   ·have he:iR l i j (dH l i a j).2=(jY,(dH l i a j).2):=by unfold iR; rw[if_neg c1,if_pos c2]
    simp only[go_sem,γ,reduceCtorEq,bY (Om:(j:Int)=(i:Int))]
    exact fin _ _ (by unfold fB; exact Lq) rfl (by rw[he]; exact hH1)
   ·simp only[go_sem,γ,reduceCtorEq,cT (Om:¬ (j:Int)=(i:Int))]
    refine dA Lb.toEU T (o:=o) (n:=3) (a:=(dH l i a j).2) (by decide) hle rfl (hH1.at 0 rfl) ?_
    have hH2:aT _ ((o,bK v (aF l 3 (dH l i a j).2).2)::B++[(p,.rows 3 [jY.cells])]) (L++[(w,3,fQ (dH l i a j).1)]):=hH1.set 0 rfl _
    by_cases c3:(aF l 3 (dH l i a j).2).1=0
    ·have he:iR l i j (dH l i a j).2=eZ l (aF l 3 (dH l i a j).2).2:=by unfold iR; rw[if_neg c1,if_neg c2]; simp only[c3,if_true]
     simp only[go_sem,γ,reduceCtorEq,bP (show (((aF l 3 (dH l i a j).2).1:Nat):Int)=0 by omega)]
     refine draw _ _ _ (bN l 3 hle) (by unfold fB; exact Lq) rfl hH2 he _ ?_
     intro F2 H2 k1 k2 k3
     exact fin F2 H2 k1 k2 k3
    ·have he:iR l i j (dH l i a j).2=(jY,(aF l 3 (dH l i a j).2).2):=by unfold iR; rw[if_neg c1,if_neg c2]; simp only[c3,if_false]
     simp only[go_sem,γ,reduceCtorEq,bF (show ¬ (((aF l 3 (dH l i a j).2).1:Nat):Int)=0 by omega)]
     exact fin _ _ (by unfold fB; exact Lq) rfl (by rw[he]; exact hH2)
 ·have bHV:¬ (j:Int)<(n:Nat):=by omega
  have:j=n:=by omega
  subst this
  simp only[go_sem,bHV]
  exact hK w _ _ (by unfold fB; exact Lq) hH
abbrev qB (o o4 o6:Nat) (v w1 w2 w3:PV) (a:Nat):List BX:=[(o,bK v a),(o4,aFG),(o6,WW w1 w2 w3)]
abbrev tV (s:AR) (w1 w2 w3:PV):List LI:=[(w1,3,fQ s.start),(w2,1,tK s.bHT),(w3,3,fQ s.exit)]
theorem beG {C:Ctx} (Lb:rM C) {l:List Nat} {v:PV} (T:Tp l v) (o o4 o6 n i:Nat) (s:AR) (hs:s.a≤l.length) (hl:s.left≤8) (hn:n≤100) (hi:i<n) (B:List BX) (L:List LI) (rest:aB) (K:cA) (F:PF) (H:PH)
  (hF:(cR o o4 o6 n s.left i).le F) (hH:aT H ((o,bK v s.a)::B) L)
  (hK:∀ F' H',(cR o o4 o6 n (s.left-(dE l n i s).1) i).le F'→F' 9=some (.int .i64 ((dE l n i s).1:Nat))→aT H' ((o,bK v (dE l n i s).2)::B) L→aB.wp C rest K F' H') :
  aB.wp C (.seq (.region alG) (.seq (.seq (.region alH) (.cond (.tmp 29) (.region alI) .skip)) (.seq (.region RT) rest))) K F H:=by
 have f0:F 0=some (.ptr o 2 0 0):=hF 0 _ (by unfold cR; simp only[go_sem,reduceCtorEq])
 have f4:F 4=some (.ptr o4 4 0 0):=hF 4 _ (by unfold cR; simp only[go_sem,γ,reduceCtorEq])
 have f5:F 5=some (.int .i64 n):=hF 5 _ (by unfold cR; simp only[go_sem,γ,reduceCtorEq])
 have f6:F 6=some (.ptr o6 4 0 0):=hF 6 _ (by unfold cR; simp only[go_sem,γ,reduceCtorEq])
 have f7:F 7=some (.int .i64 s.left):=hF 7 _ (by unfold cR; simp only[go_sem,γ,reduceCtorEq])
 have f8:F 8=some (.int .i64 i):=hF 8 _ (by unfold cR; simp only[go_sem,γ,reduceCtorEq])
 have e1:IntKind.i64.wrap ((i:Int)+1)=((i+1:Nat):Int):=cW Om
 have hk:=(WY l n i s hs).2
 have e9:IntKind.i64.wrap ((s.left:Int)-((dE l n i s).1:Int))=((s.left-(dE l n i s).1:Nat):Int):=by rw[wrap_i64 Om Om]; omega
 simp only[go_sem,γ,alG,f7,alH,f8,f5,e1]
 by_cases c:i+1<n
 ·have c':((i+1:Nat):Int)<(n:Nat):=by omega
  have he:dE l n i s=aF l (s.left+1) s.a:=by unfold dE; rw[if_pos c]
  have el:IntKind.i64.wrap ((s.left:Int)+1)=((s.left+1:Nat):Int):=cW Om
  rw[he] at hK e9
  simp only[go_sem,γ,reduceCtorEq,c',alI,f0,f7,el]
  refine dA Lb.toEU T (o:=o) (n:=s.left+1) (a:=s.a) Om hs rfl hH.bwL ?_
  have hH2:=hH.buO (bK v (aF l (s.left+1) s.a).2)
  simp only[go_sem,γ,RT,f7,e9]
  refine hK _ _ ?_ rfl hH2
  unfold cR
  exact Lq
 ·have c':¬ ((i+1:Nat):Int)<(n:Nat):=by omega
  have he:dE l n i s=(s.left,s.a):=by unfold dE; rw[if_neg c]
  rw[he] at hK e9
  simp only at hK e9
  simp only[go_sem,γ,c',RT,f7,e9]
  refine hK _ _ ?_ rfl hH
  unfold cR
  exact Lq
theorem a7E {C:Ctx} (Lb:rM C) {l:List Nat} {v:PV} (o o4 o6 n i left k a:Nat) (hk:k≤8) (hi:i<n) (hn:n≤100) (s:AR) (hs:s.start.length=i) (w1 w2 w3:PV) (B:List BX) (rest:aB) (K:cA) (F:PF) (H:PH)
  (hF:(cR o o4 o6 n left i).le F) (f9:F 9=some (.int .i64 k)) (hH:aT H (qB o o4 o6 v w1 w2 w3 a++B) (tV s w1 w2 w3))
  (hK:∀ w1' F' H' B',(cR o o4 o6 n left i).le F'→aT H' (qB o o4 o6 v w1' w2 w3 a++B') (tV { s with start:=s.start++[mkT (k:Nat) 8] } w1' w2 w3)→aB.wp C rest K F' H') :
  aB.wp C (.seq (.region XE) (.seq (.region XF) rest)) K F H:=by
 have f0:F 0=some (.ptr o 2 0 0):=hF 0 _ (by unfold cR; simp only[go_sem,reduceCtorEq])
 have f4:F 4=some (.ptr o4 4 0 0):=hF 4 _ (by unfold cR; simp only[go_sem,γ,reduceCtorEq])
 have f5:F 5=some (.int .i64 n):=hF 5 _ (by unfold cR; simp only[go_sem,γ,reduceCtorEq])
 have f6:F 6=some (.ptr o6 4 0 0):=hF 6 _ (by unfold cR; simp only[go_sem,γ,reduceCtorEq])
 have f7:F 7=some (.int .i64 left):=hF 7 _ (by unfold cR; simp only[go_sem,γ,reduceCtorEq])
 have f8:F 8=some (.int .i64 i):=hF 8 _ (by unfold cR; simp only[go_sem,γ,reduceCtorEq])
 simp only[go_sem,XE,f9]
 refine aA (Lb.fmk (k:Int) 8 (by unfold cX; omega) (by unfold cX; omega)) rfl ?_
 unfold uY
 rw[if_neg (by decide)]
 simp only[go_sem,δ,γ]
 refine aO fun p hp=>?_
 have hH1:=hH.new hp (.rows 3 [(mkT (k:Nat) 8).cells])
 have g6:=hH1.at 2 rfl
 have gp:=hH1.LP
 have h13:(1:Nat)*3≤16777216:=by decide
 have hst:∀ y,PH.set (PH.set H p (.rows 3 [[PV.bool false,PV.bHP,PV.bHP]])) p y=PH.set H p y:=fun y=>PH.set_set p _ _
 simp only[go_sem,υ,δ,γ,η,θ,ζ,XF,f6,g6,gp,h13]
 refine hH1.append 0 (src:=[(mkT (k:Nat) 8).cells]) rfl rfl (XD Om) fun w1' H2 h2 hw=>?_
 rw[vT] at h2 hw; rw[lP] at hw
 obtain⟨q,rfl⟩:=hw (by simp)
 have g6':=h2.at 2 rfl
 simp only[go_sem,δ,θ,g6',bKI,bKR,or_false,forall_eq]
 have h3:=h2.set 2 rfl (WW (.osl q 3 0 (s.start++[mkT (k:Nat) 8]).length) w2 w3)
 refine hK _ _ _ (B++[(p,.rows 3 [(mkT (k:Nat) 8).cells])]) ?_ h3
 unfold cR
 exact Lq
theorem beF {C:Ctx} (Lb:rM C) {l:List Nat} {v:PV} (T:Tp l v) (o o4 o6 n i left a:Nat) (ha:a≤l.length) (hi:i<n) (hn:n≤100) (s:AR) (hs:s.exit.length=i) (w1 w2 w3:PV) (B:List BX) (rest:aB) (K:cA) (F:PF) (H:PH)
  (hF:(cR o o4 o6 n left i).le F) (hH:aT H (qB o o4 o6 v w1 w2 w3 a++B) (tV s w1 w2 w3))
  (hK:∀ w3' F' H' B',(cR o o4 o6 n left i).le F'→aT H' (qB o o4 o6 v w1 w2 w3' (eR l n i a).2++B') (tV { s with exit:=s.exit++[(eR l n i a).1] } w1 w2 w3')→aB.wp C rest K F' H') :
  aB.wp C (.seq (.region XG) (.seq (.seq (.region XH) (.cond (.tmp 58) (.region XI) .skip)) (.seq (.region HC) rest))) K F H:=by
 have f0:F 0=some (.ptr o 2 0 0):=hF 0 _ (by unfold cR; simp only[go_sem,reduceCtorEq])
 have f4:F 4=some (.ptr o4 4 0 0):=hF 4 _ (by unfold cR; simp only[go_sem,γ,reduceCtorEq])
 have f5:F 5=some (.int .i64 n):=hF 5 _ (by unfold cR; simp only[go_sem,γ,reduceCtorEq])
 have f6:F 6=some (.ptr o6 4 0 0):=hF 6 _ (by unfold cR; simp only[go_sem,γ,reduceCtorEq])
 have f7:F 7=some (.int .i64 left):=hF 7 _ (by unfold cR; simp only[go_sem,γ,reduceCtorEq])
 have f8:F 8=some (.int .i64 i):=hF 8 _ (by unfold cR; simp only[go_sem,γ,reduceCtorEq])
 have e1:IntKind.i64.wrap ((i:Int)+1)=((i+1:Nat):Int):=cW Om
 simp only[go_sem,XG,f0]
 refine mC (Lb.frac l v T o a ha) (hH.at 0 rfl) rfl ?_
 have hH1:=hH.set 0 rfl (bK v (eZ l a).2)
 simp only[go_sem,δ]
 refine aO fun p hp=>?_
 have hH2:=hH1.new hp (.rows 3 [(eZ l a).1.cells])
 simp only[go_sem,δ,γ,XH,f8,f5,e1]
 have fin:∀ (F':PF) (H':PH),(cR o o4 o6 n left i).le F'→F' 12=some (.ptr p 3 0 0)→aT H' (qB o o4 o6 v w1 w2 w3 (eR l n i a).2++B++[(p,.rows 3 [(eR l n i a).1.cells])]) (tV s w1 w2 w3)→wpOps C HC (aB.wp C rest K) F' H':=by
  intro F' H' hF' f12 hH'
  have q0:F' 0=some (.ptr o 2 0 0):=hF' 0 _ (by unfold cR; simp only[go_sem,reduceCtorEq])
  have q4:F' 4=some (.ptr o4 4 0 0):=hF' 4 _ (by unfold cR; simp only[go_sem,γ,reduceCtorEq])
  have q5:F' 5=some (.int .i64 n):=hF' 5 _ (by unfold cR; simp only[go_sem,γ,reduceCtorEq])
  have q6:F' 6=some (.ptr o6 4 0 0):=hF' 6 _ (by unfold cR; simp only[go_sem,γ,reduceCtorEq])
  have q7:F' 7=some (.int .i64 left):=hF' 7 _ (by unfold cR; simp only[go_sem,γ,reduceCtorEq])
  have q8:F' 8=some (.int .i64 i):=hF' 8 _ (by unfold cR; simp only[go_sem,γ,reduceCtorEq])
  have g6:=hH'.at 2 rfl
  have gp:=hH'.LP
  have h13:(1:Nat)*3≤16777216:=by decide
  simp only[go_sem,υ,δ,γ,η,ζ,HC,q6,g6,f12,gp,h13]
  refine hH'.append 2 (src:=[(eR l n i a).1.cells]) rfl rfl (XD Om) fun w3' H2 h2 hw=>?_
  rw[vT] at h2 hw; rw[lP] at hw
  obtain⟨q,rfl⟩:=hw (by simp)
  have g6':=h2.at 2 rfl
  simp only[go_sem,δ,g6',bKI,bKR,or_false,forall_eq]
  have h3:=h2.set 2 rfl (WW w1 w2 (.osl q 3 0 (s.exit++[(eR l n i a).1]).length))
  refine hK _ _ _ (B++[(p,.rows 3 [(eR l n i a).1.cells])]) ?_ h3
  unfold cR
  exact Lq
 by_cases c:i+1<n
 ·have c':((i+1:Nat):Int)<(n:Nat):=by omega
  have hle:=tA l ha
  simp only[go_sem,γ,reduceCtorEq,c',f0]
  refine dA Lb.toEU T (o:=o) (n:=3) (a:=(eZ l a).2) (by decide) hle rfl (hH2.at 0 rfl) ?_
  have hH3:=hH2.set 0 rfl (bK v (aF l 3 (eZ l a).2).2)
  by_cases c3:(aF l 3 (eZ l a).2).1=0
  ·have he:eR l n i a=(jY,(aF l 3 (eZ l a).2).2):=by unfold eR; simp only[if_pos c,c3,if_true]
   have gp:=aT.LP (B:=qB o o4 o6 v w1 w2 w3 (aF l 3 (eZ l a).2).2++B) hH3
   simp only[go_sem,γ,bP (show (((aF l 3 (eZ l a).2).1:Nat):Int)=0 by omega),XI]
   refine aA (Lb.int 0 (by unfold cX; omega)) rfl ?_
   simp only[go_sem,δ,γ,gp]
   refine fin _ _ ?_ rfl ?_
   ·unfold cR
    exact Lq
   ·rw[he]
    exact aT.amM (B:=qB o o4 o6 v w1 w2 w3 (aF l 3 (eZ l a).2).2++B) hH3 (.rows 3 [jY.cells])
  ·have he:eR l n i a=((eZ l a).1,(aF l 3 (eZ l a).2).2):=by unfold eR; simp only[if_pos c,c3,if_false]
   simp only[go_sem,γ,bF (show ¬ (((aF l 3 (eZ l a).2).1:Nat):Int)=0 by omega)]
   refine fin _ _ ?_ rfl ?_
   ·unfold cR
    exact Lq
   ·rw[he]
    exact hH3
 ·have c':¬ ((i+1:Nat):Int)<(n:Nat):=by omega
  have he:eR l n i a=eZ l a:=by unfold eR; simp only[if_neg c]
  simp only[go_sem,γ,reduceCtorEq,c']
  refine fin _ _ ?_ rfl ?_
  ·unfold cR
   exact Lq
  ·rw[he]
   exact hH2
def bjK (l:List Nat) (v:PV) (o dW a:Nat) (r:PV) (H:PH):Prop:=r=.agg (pQ l dW a).1.cells∧H=PH.nil.set o (bK v (pQ l dW a).2)
theorem bfU {l:List (List RF)} (h:l.length≤1000):roomFor (tK l).length 1 24:=by
 unfold roomFor
 simp only[bJT,maxLen]; omega
theorem bfV (l:List (List RF)) (x:List RF):tK l++[[frs x]]=tK (l++[x]):=by simp[tK]
theorem a7D {C:Ctx} (Lb:rM C) {l:List Nat} {v:PV} (T:Tp l v) (o o4 o6 n left i a:Nat) (ha:a≤l.length) (hn:n≤100) (hi:i<n) (s:AR) (hs:s.bHT.length=i) (w1 w2 w3:PV) (B:List BX) (K:cA) (F:PF) (H:PH)
  (hF:(cR o o4 o6 n left i).le F) (hH:aT H (qB o o4 o6 v w1 w2 w3 a++B) (tV s w1 w2 w3))
  (hK:∀ w2' w13 F' H' B',(cR o o4 o6 n left i).le F'→(∃ q,w13=.osl q 3 0 n)→aT H' (qB o o4 o6 v w1 w2' w3 (dH l i a n).2++B') [(w1,3,fQ s.start),(w2',1,tK s.bHT++[[w13]]),(w3,3,fQ s.exit),(w13,3,fQ (dH l i a n).1)]→K .normal F' H') :
  aB.wp C (.seq (.region XJ) (.seq (.seq (.region XK) (.block 2 (.loop HB))) (.region XO))) K F H:=by
 have f0:F 0=some (.ptr o 2 0 0):=hF 0 _ (by unfold cR; simp only[go_sem,reduceCtorEq])
 have f4:F 4=some (.ptr o4 4 0 0):=hF 4 _ (by unfold cR; simp only[go_sem,γ,reduceCtorEq])
 have f5:F 5=some (.int .i64 n):=hF 5 _ (by unfold cR; simp only[go_sem,γ,reduceCtorEq])
 have f6:F 6=some (.ptr o6 4 0 0):=hF 6 _ (by unfold cR; simp only[go_sem,γ,reduceCtorEq])
 have f7:F 7=some (.int .i64 left):=hF 7 _ (by unfold cR; simp only[go_sem,γ,reduceCtorEq])
 have f8:F 8=some (.int .i64 i):=hF 8 _ (by unfold cR; simp only[go_sem,γ,reduceCtorEq])
 simp only[go_sem,XJ,XK]
 refine bmJ (C:=C) Lb T o o4 o6 n left i a ha hn hi ([(o4,aFG),(o6,WW w1 w2 w3)]++B) (tV s w1 w2 w3) _ _ H ?_ hH ?_
 ·unfold fB
  (repeat' (first|exact PF.nil_le|refine PF.aG ?_ ?_))<;>first|(simp only[go_sem,γ,reduceCtorEq,f0,f4,f5,f6,f7,f8]<;>rfl)|rfl
 intro w F1 H1 hF1 hH1
 have hlen:=YP l i a n
 have hw:∃ q,w=.osl q 3 0 n:=by
  rcases hH1.own (v:=w) 3 rfl with ⟨h1,_⟩ | ⟨q,rs,h1,_⟩
  ·have:=congrArg List.length h1
   rw[lP,hlen] at this
   simp at this; omega
  ·rw[lP,hlen] at h1
   exact⟨q,h1⟩
 obtain⟨q,rfl⟩:=hw
 have g0:F1 0=some (.ptr o 2 0 0):=hF1 0 _ (by unfold fB; simp only[go_sem,reduceCtorEq])
 have g4:F1 4=some (.ptr o4 4 0 0):=hF1 4 _ (by unfold fB; simp only[go_sem,γ,reduceCtorEq])
 have g5:F1 5=some (.int .i64 n):=hF1 5 _ (by unfold fB; simp only[go_sem,γ,reduceCtorEq])
 have g6:F1 6=some (.ptr o6 4 0 0):=hF1 6 _ (by unfold fB; simp only[go_sem,γ,reduceCtorEq])
 have g7:F1 7=some (.int .i64 left):=hF1 7 _ (by unfold fB; simp only[go_sem,γ,reduceCtorEq])
 have g8:F1 8=some (.int .i64 i):=hF1 8 _ (by unfold fB; simp only[go_sem,γ,reduceCtorEq])
 have g13:F1 13=some (.osl q 3 0 n):=hF1 13 _ (by unfold fB; simp only[go_sem,γ,reduceCtorEq])
 have b6:=hH1.at 2 rfl
 have h11:(1:Nat)*1≤16777216:=by decide
 simp only[go_sem,υ,δ,γ,η,θ,ζ,XO,g6,b6,g13,h11,bKI,bKR,or_false,forall_eq]
 refine hH1.append 1 (src:=[[.osl q 3 0 n]]) rfl Sq (bfU Om) fun w2' H2 h2 hw2=>?_
 obtain⟨q2,rfl⟩:=hw2 (by simp)
 have b6':=h2.at 2 rfl
 simp only[go_sem,δ,θ,b6',bKI,bKR,or_false,forall_eq]
 have h3:=h2.set 2 rfl (WW w1 (.osl q2 1 0 (tK s.bHT++[[PV.osl q 3 0 n]]).length) w3)
 have hl2:(tK s.bHT++[[(PV.osl q 3 0 n:PV)]]).length=s.bHT.length+1:=by simp
 rw[hl2] at h3 ⊢
 refine hK (.osl q2 1 0 (s.bHT.length+1)) (.osl q 3 0 n) _ _ B ?_ ⟨q,rfl⟩ h3
 unfold cR
 (repeat' (first|exact PF.nil_le|refine PF.aG ?_ ?_))<;>first|(simp only[go_sem,γ,reduceCtorEq,g0,g4,g5,g6,g7,g8]<;>rfl)|rfl
theorem btG {C:Ctx} (Lb:rM C) {l:List Nat} {v:PV} (T:Tp l v) (o dW a:Nat) (hm:0<dW) (hm2:dW≤50) (ha:a≤l.length):NF.wp C (aR a7C.res (bjK l v o dW a)) (PF.args [.ptr o 2 0 0,.int .i64 dW]) (PH.nil.set o (bK v a)):=by
 have h0:aT (PH.nil.set o (bK v a)) [(o,bK v a)] []:=aT.nil.new (H:=PH.nil) rfl (bK v a)
 simp only[go_sem,δ,NF,aWS,a7C]
 refine aO fun o4 ho4=>?_
 have h1:=h0.new ho4 aFG
 simp only[go_sem,γ,reduceCtorEq,aWT]
 refine dA Lb.toEU T (o:=o) (n:=dW) (a:=a) Om ha Sq (h1.at 0 rfl) ?_
 have h2:=h1.set 0 rfl (bK v (aF l dW a).2)
 have hN:=cC l hm a
 have hNa:=bN l dW ha
 have e1:IntKind.i64.wrap (1+((aF l dW a).1:Int))=((1+(aF l dW a).1:Nat):Int):=by rw[wrap_i64 Om Om]; omega
 have hRT:∀ s:AR,s=fM l (1+(aF l dW a).1) (aF l dW a).2 (1+(aF l dW a).1)→pQ l dW a=(⟨[],s.start,s.bHT,s.exit⟩,s.a):=fun s hs=>by rw[hs]; rfl
 have hLR:∀ r H,bjK l v o dW a r H↔r=.agg (pQ l dW a).1.cells∧H=PH.nil.set o (bK v (pQ l dW a).2):=fun _ _=>Iff.rfl
 generalize hn:1+(aF l dW a).1=n at *
 generalize hb:(aF l dW a).2=b at *
 have hn0:0<n:=by omega
 have hn100:n≤100:=by omega
 simp only[go_sem,δ,γ,e1,aWU]
 refine aO fun o6 ho6=>?_
 have h3:=((h2.new ho6 aFG).qM 3).qM 1
 have h4:=h3.qM 3
 simp only[go_sem,aWV,aWW]
 refine wp_loop (α:=Nat × PV × PV × PV × PH) (fun t=>cR o o4 o6 n (fM l n b t.1).left t.1) (fun t=>t.2.2.2.2)
  (fun t=>t.1≤n∧aT t.2.2.2.2 (qB o o4 o6 v t.2.1 t.2.2.1 t.2.2.2.1 (fM l n b t.1).a) (tV (fM l n b t.1) t.2.1 t.2.2.1 t.2.2.2.1)) (fun t=>n-t.1) (0,.bHP,.bHP,.bHP,_) ⟨bKA _,h4⟩ ?_ PH.le_refl ?_
 ·unfold cR
  (repeat' (first|exact PF.nil_le|refine PF.aG ?_ ?_))<;>first|(simp only[go_sem,γ,reduceCtorEq,fM]<;>rfl)|rfl
 rintro⟨i,w1,w2,w3,H0⟩ ⟨hi,hH⟩
 simp only at hi hH ⊢
 obtain⟨k1,k2,k3,k4,k5⟩:=alB l n hNa i
 simp only[go_sem,γ,reduceCtorEq,aGX,aWX,cR]
 by_cases hlt:i<n
 ·have bHV:(i:Int)<(n:Nat):=by omega
  have bHW:fM l n b (i+1)=⟨(fM l n b i).start++[mkT ((dE l n i (fM l n b i)).1:Nat) 8],(fM l n b i).exit++[(eR l n i (dE l n i (fM l n b i)).2).1],(fM l n b i).bHT++[(dH l i (eR l n i (dE l n i (fM l n b i)).2).2 n).1],(fM l n b i).left-(dE l n i (fM l n b i)).1,(dH l i (eR l n i (dE l n i (fM l n b i)).2).2 n).2⟩:=rfl
  have kl:=WY l n i (fM l n b i) k1
  have ke:=aBN l n i kl.1
  generalize hs:fM l n b i=s at *
  simp only[go_sem,bHV]
  refine beG (C:=C) Lb T o o4 o6 n i s k1 k2 hn100 hlt [(o4,aFG),(o6,WW w1 w2 w3)] (tV s w1 w2 w3) _ _ _ H0 (by unfold cR; exact Lq) hH ?_
  intro F1 H1 hF1 f9 hH1
  refine a7E (C:=C) (l:=l) Lb o o4 o6 n i _ (dE l n i s).1 (dE l n i s).2 Om hlt hn100 s k3 w1 w2 w3 [] _ _ F1 H1 hF1 f9 hH1 ?_
  intro w1' F2 H2 B2 hF2 hH2
  refine beF (C:=C) Lb T o o4 o6 n i _ (dE l n i s).2 kl.1 hlt hn100 { s with start:=s.start++[mkT ((dE l n i s).1:Nat) 8] } k4 w1' w2 w3 B2 _ _ F2 H2 hF2 hH2 ?_
  intro w3' F3 H3 B3 hF3 hH3
  refine a7D (C:=C) Lb T o o4 o6 n _ i (eR l n i (dE l n i s).2).2 ke hn100 hlt { s with start:=s.start++[mkT ((dE l n i s).1:Nat) 8],exit:=s.exit++[(eR l n i (dE l n i s).2).1] } k5 w1' w2 w3' B3 _ F3 H3 hF3 hH3 ?_
  rintro w2' w13 F4 H4 B4 hF4 ⟨q,rfl⟩ hH4
  have g0:F4 0=some (.ptr o 2 0 0):=hF4 0 _ (by unfold cR; simp only[go_sem,reduceCtorEq])
  have g4:F4 4=some (.ptr o4 4 0 0):=hF4 4 _ (by unfold cR; simp only[go_sem,γ,reduceCtorEq])
  have g5:F4 5=some (.int .i64 n):=hF4 5 _ (by unfold cR; simp only[go_sem,γ,reduceCtorEq])
  have g6:F4 6=some (.ptr o6 4 0 0):=hF4 6 _ (by unfold cR; simp only[go_sem,γ,reduceCtorEq])
  have g7:F4 7=some (.int .i64 (s.left-(dE l n i s).1:Nat)):=hF4 7 _ (by unfold cR; simp only[go_sem,γ,reduceCtorEq])
  have g8:F4 8=some (.int .i64 i):=hF4 8 _ (by unfold cR; simp only[go_sem,γ,reduceCtorEq])
  obtain⟨rs,z1,z2,z3,z4,z5⟩:=hH4.frz 3 rfl
  have y1:=z4 0 _ (by decide) rfl
  have y2:=z4 1 _ (by decide) rfl
  have y3:=z4 2 _ (by decide) rfl
  simp only at y1 y2 y3
  have y4:=T.frz q 3 rs
  simp only[go_sem,γ,aHB,g8,ws i]
  refine aoX (i+1,w1',w2',w3',H4.frz q 3 rs) z1 ⟨hlt,?_⟩ (by simp only; omega) ?_ PH.le_refl
  ·rw[bHW]
   have eB:(qB o o4 o6 v w1' w2' w3' (dH l i (eR l n i (dE l n i s).2).2 n).2).map (fun b=>(b.1,b.2.frz q 3 rs))=qB o o4 o6 v w1' w2' w3' (dH l i (eR l n i (dE l n i s).2).2 n).2:=by
    simp only[bLF,bME,cI.frz,y1,y2,y3,y4]
    rfl
   have eL:([(w1',3,fQ (s.start++[mkT ((dE l n i s).1:Nat) 8])),(w2',1,tK s.bHT++[[.osl q 3 0 n]]),(w3',3,fQ (s.exit++[(eR l n i (dE l n i s).2).1]))]:List LI).map (fun x=>(x.1,x.2.1,x.2.2.map fun r=>r.map (PV.dT q 3 rs))) =
     tV ⟨s.start++[mkT ((dE l n i s).1:Nat) 8],s.exit++[(eR l n i (dE l n i s).2).1],s.bHT++[(dH l i (eR l n i (dE l n i s).2).2 n).1],s.left-(dE l n i s).1,(dH l i (eR l n i (dE l n i s).2).2 n).2⟩ w1' w2' w3':=by
    have e2:(tK s.bHT++[[PV.osl q 3 0 n]]).map (fun r=>r.map (PV.dT q 3 rs))=tK (s.bHT++[(dH l i (eR l n i (dE l n i s).2).2 n).1]):=by
     rw[bLT,aqY,bLF,bME,bLF,bME,z2,bfV]
    show ([(w1',3,(fQ (s.start++[mkT ((dE l n i s).1:Nat) 8])).map (fun r=>r.map (PV.dT q 3 rs))),(w2',1,(tK s.bHT++[[PV.osl q 3 0 n]]).map (fun r=>r.map (PV.dT q 3 rs))),(w3',3,(fQ (s.exit++[(eR l n i (dE l n i s).2).1])).map (fun r=>r.map (PV.dT q 3 rs)))]:List LI)=_
    rw[FJ,e2,FJ]
   rw[← eB,← eL]
   exact z5.sub (by rw[bLT]; exact List.sublist_append_left ..) (bLR.refl _)
  ·rw[bHW]
   (repeat' (first|exact PF.nil_le|refine PF.aG ?_ ?_))<;>first|(simp only[go_sem,γ,reduceCtorEq,g0,g4,g5,g6,g7,g8]<;>rfl)|rfl
 ·have bHV:¬ (i:Int)<(n:Nat):=by omega
  have:i=n:=by omega
  subst this
  simp only[go_sem,γ,reduceCtorEq,bHV,aHC]
  have b4:=hH.at 1 rfl
  have b6:=hH.at 2 rfl
  have osl:∀ {w:PV} {z:Nat} {rows:List (List PV)},rows.length=i→aX H0 z w rows→∃ q,w=.osl q z 0 i:=by
   intro w z rows hr hO
   rcases hO with ⟨h1,_⟩ | ⟨q,rs,h1,_⟩
   ·rw[h1] at hr; simp at hr; omega
   ·exact⟨q,by rw[h1,hr]⟩
  obtain⟨q1,rfl⟩:=osl (by rw[lP,k3]) (hH.own 0 rfl)
  obtain⟨q2,rfl⟩:=osl (by rw[bJT,k5]) (hH.own 1 rfl)
  obtain⟨q3,rfl⟩:=osl (by rw[lP,k4]) (hH.own 2 rfl)
  have hR:=hRT (fM l i b i) rfl
  simp only[go_sem,δ,γ,reduceCtorEq,b6,b4,bKI,bKR,or_false,forall_eq,forall_eq_or_imp]
  have x1:=hH.set 1 rfl (WW (.osl q1 3 0 i) (.osl q2 1 0 i) (.osl q3 3 0 i))
  obtain⟨r1,s1,s2,s3,s4,s5⟩:=x1.frz 0 rfl
  have u2:=s4 1 _ (by decide) rfl
  have u3:=s4 2 _ (by decide) rfl
  simp only at u2 u3
  have u4:=T.frz q1 3 r1
  obtain⟨r2,t1,t2,t3,t4,t5⟩:=s5.frz 0 rfl
  have m3:=t4 1 _ (by decide) rfl
  simp only at m3
  have m4:=T.frz q2 1 r2
  obtain⟨r3,n1,n2,n3,n4,n5⟩:=t5.frz 0 rfl
  have n4:=T.frz q3 3 r3
  refine amI (vs:=[.agg [.str [],.osl q1 3 0 i,.osl q2 1 0 i,.osl q3 3 0 i]]) (.inr rfl) ?_ (.step s1 (.step t1 (.step n1 (.done (H2:=PH.nil.set o (bK v (fM l i b i).a)) ?_ (PH.aG PH.nil_le ?_)))))
  ·simp only[go_sem,δ,γ,reduceCtorEq]
  ·rw[hLR,hR]
   refine⟨?_,rfl⟩
   simp only[bH,PV.frz,PV.rV,bLF,bME,s2,u2,u3,t2,m3,n2]
   simp only[PV.dT,FJ _ _ _ _,aqY _ _ _ _]
  ·have:=n5.at 0 rfl
   rw[this]
   simp only[cI.frz,bLF,bME,u4,m4,n4]
   rfl
structure mK (C:Ctx):Prop extends rM C where
 law:∀ (l:List Nat) (v:PV),Tp l v→∀ (o dW a:Nat),0<dW→dW≤50→a≤l.length→aI C 2 [.ptr o 2 0 0,.int .i64 dW] (PH.nil.set o (bK v a)) (bjK l v o dW a)
structure GOk (l:List Nat) (bHN:Nat) (s:GS):Prop where
 bIA:s.bIA.length≤35
 bIO:s.bIO.length≤bHN
 a:s.a≤l.length
theorem WE {l:List Nat} {mc bHN dom:Nat} {s:GS} (h:GOk l bHN s):∀ i,GOk l bHN (jK l mc bHN dom s i)∧(jK l mc bHN dom s i).bIA=s.bIA
 | 0=>⟨h,rfl⟩
 | i+1=>by
  obtain⟨⟨h1,h2,h3⟩,h4⟩:=WE (mc:=mc) (dom:=dom) h i
  simp only[jK]
  split
  ·exact⟨⟨h1,by simp only[bJX,bKD]; omega,bN l mc h3⟩,h4⟩
  ·exact⟨⟨h1,h2,h3⟩,h4⟩
theorem aTY {l:List Nat} {level dom bHN:Nat} {s:GS} (h:GOk l bHN s) (hf:pA bHN s=false):GOk l bHN (mN l level dom s)∧∃ x:cH,(mN l level dom s).bIA=s.bIA++[x]∧x.level=(level:Int)∧x.parent=(dom:Int):=by
 obtain⟨h1,h2,h3⟩:=h
 unfold pA at hf
 rw[Bool.or_eq_false_iff] at hf
 have hd:=of_decide_eq_false hf.2
 refine⟨⟨?_,h2,?_⟩,_,rfl,rfl,rfl⟩
 ·simp only[mN,bJX,bKD]; omega
 ·have a1:=bN l 3 (bN l 16 h3)
  simp only[mN]
  split
  ·exact bN l 6 a1
  ·exact a1
theorem WF {l:List Nat} {level bHN dom:Nat} {rec:Nat→GS→GS} (hrec:∀ d t,GOk l bHN t→GOk l bHN (rec d t)∧∃ u,(rec d t).bIA=t.bIA++u) {s:GS} (h:GOk l bHN s) :
  ∀ i,GOk l bHN (fU l level bHN dom rec s i)∧∃ u,(fU l level bHN dom rec s i).bIA=s.bIA++u
 | 0=>⟨h,[],by simp[fU]⟩
 | i+1=>by
  obtain⟨h1,u,h2⟩:=WF hrec h i
  simp only[fU]
  split
  ·exact⟨h1,u,h2⟩
  ·rename_i hf
   obtain⟨g1,x,g2,-⟩:=aTY (level:=level) (dom:=dom) h1 (by simpa using hf)
   obtain⟨k1,u',k2⟩:=hrec ((mN l level dom (fU l level bHN dom rec s i)).bIA.length-1) _ g1
   exact⟨k1,u++[x]++u',by rw[k2,g2,h2]; simp⟩
theorem WG {l:List Nat} {mc bHN:Nat}:∀ (k dom:Nat) {s:GS},GOk l bHN s→GOk l bHN (eK l mc bHN k dom s)∧∃ u,(eK l mc bHN k dom s).bIA=s.bIA++u
 | 0,dom,s,h=>by
  have h0:GOk l bHN { s with a:=(aF l 2 s.a).2 }:=⟨h.bIA,h.bIO,bN l 2 h.a⟩
  obtain⟨h1,h2⟩:=WE (mc:=mc) (dom:=dom) h0 (1+(aF l 2 s.a).1)
  exact⟨h1,[],by simp only[eK]; rw[h2]; simp⟩
 | k+1,dom,s,h=>by
  have h0:GOk l bHN { s with a:=(aF l 2 s.a).2 }:=⟨h.bIA,h.bIO,bN l 2 h.a⟩
  exact WF (level:=4-k) (dom:=dom) (fun d t ht=>WG k d ht) h0 (if 4-k=2 then 1 else 1+(aF l 2 s.a).1)
theorem a5D {l : List Nat} {level bHN dom : Nat} {rec : Nat → GS → GS} {s : GS} {i : Nat} (h : pA bHN (fU l level bHN dom rec s i) = true) : ∀ n, i ≤ n → fU l level bHN dom rec s n = fU l level bHN dom rec s i := by
  intro n hn
  induction n with
  | zero => have : i = 0 := by omega
            subst this; rfl
  | succ n ih =>
    rcases bKO n i with h' | h'
    · have : i = n + 1 := by omega
      subst this; rfl
    · have e := ih h'
      simp only [fU]
      rw [e, if_pos h]
def mkS (l:List Nat) (v:PV):Spec:=fun name vs=>match name,vs with
 | 29,[.str s,.int _ i]=>some ([],fun _=>aD (.str (s++bU i.toNat)))
 | 47,[.int _ n]=>some ([],fun _=>aD (.agg (mkT n 1).cells))
 | 4,[.ptr o _ _ _,.int _ n]=>some ([o],fun H0 r H'=>∀ a,H0 o=some (bK v a)→aaG l v o n.toNat a r H')
 | _,_=>none
section
variable {C:Ctx} {F:PF} {H Hs:PH} {l:List Nat} {v:PV} {o a:Nat}
theorem qH (Lb:EU C) (T:Tp l v) {n:Nat} {st:Bool} {args:List aP} {d:Option Nat} {K:PF→PH→Prop} (hn:n≤1000000) (ha:a≤l.length) (bJI:aP.evs F args=some [.ptr o 2 0 0,.int .i64 n]) (ho:H o=some (bK v a))
  (hle:Hs.le (H.set o (bK v (aF l n a).2))) (hk:K (F.put d (.int .i64 ((aF l n a).1:Nat))) (H.set o (bK v (aF l n a).2))):dOp C Hs (mkS l v) st (.call 4 args) d K F H:=by
 refine bjV (x:=bK v a) (y:=bK v (aF l n a).2) (r:=.int .i64 ((aF l n a).1:Nat)) (R:=fun H0 r H'=>∀ a,H0 o=some (bK v a)→aaG l v o n a r H') rfl ho (Lb.next l v T o n a hn ha) ?_ ?_ bJI hle hk
 ·intro b hb
  rw[jJ] at hb
  injection hb with hb
  injection hb with _ hb
  injection hb with hb _
  injection hb with _ hb
  injection hb with hb _
  injection hb with _ hb
  have:a=b:=by omega
  subst this
  exact⟨rfl,rfl⟩
 ·intro r' H' hr
  exact hr a (by rw[jJ])
theorem EX (Lb:rM C) {s:List UInt8} {n:Nat} {st:Bool} {args:List aP} {d:Option Nat} {K:PF→PH→Prop} (hs:s.length≤100) (hn:n<100) (bJI:aP.evs F args=some [.str s,.int .i64 n]) (hle:Hs.le H) (hk:K (F.put d (.str (s++bU n))) H) :
  dOp C Hs (mkS l v) st (.call 29 args) d K F H :=
 bC (v:=.str (s++bU n)) rfl (Lb.name s n hs hn) bJI hle hk
theorem brA (Lb:EU C) {n:Int} {st:Bool} {args:List aP} {d:Option Nat} {K:PF→PH→Prop} (hn:cX n) (bJI:aP.evs F args=some [.int .i64 n]) (hle:Hs.le H) (hk:K (F.put d (.agg (mkT n 1).cells)) H) :
  dOp C Hs (mkS l v) st (.call 47 args) d K F H :=
 bC (v:=.agg (mkT n 1).cells) rfl (Lb.int n hn) bJI hle hk
end
theorem aX.vH {H:PH} {s:Nat} {v:PV} {rows:List (List PV)} (h:aX H s v rows):PV.vH v=some (.int .i64 (rows.length:Nat)):=by
 rcases h with ⟨rfl,rfl⟩ | ⟨q,rs,rfl,_⟩<;>rfl
abbrev jT (l:List cH):List (List PV):=l.map cH.cells
abbrev lO (l:List cY):List (List PV):=l.map cY.cells
abbrev flB (ext wl wm wd wr wp wv:PV):cI:=.rows 7 [[ext,wl,wm,wd,wr,wp,wv]]
structure GE where
 o:Nat
 fo:Nat
 qm:Nat
 ext:PV
 wl:PV
 wp:PV
 wv:PV
abbrev GE.boxes (G:GE) (v:PV) (mc:Nat) (wd wr:PV) (a:Nat):List BX:=[(G.o,bK v a),(G.fo,flB G.ext G.wl (.osl G.qm 4 0 mc) wd wr G.wp G.wv)]
abbrev lF (s:GS) (wd wr:PV):List LI:=[(wd,7,jT s.bIA),(wr,3,lO s.bIO)]
def eS (G:GE) (dom bHN level n i:Nat):PF:=(((((((PF.nil.set 0 (.ptr G.o 2 0 0)).set 1 (.ptr G.fo 7 0 0)).set 2 (.int .i64 dom)).set 3 (.int .i64 bHN)).set 8 (.int .i64 level)).set 9 (.int .i64 n)).set 10 (.int .i64 i))
theorem aX.one {H:PH} {s:Nat} {v:PV} {rows:List (List PV)} (h:aX H s v rows) (hn:0<rows.length):∃ q,v=.osl q s 0 rows.length:=by
 rcases h with ⟨rfl,_⟩ | ⟨q,rs,rfl,_⟩
 ·simp at hn
 ·exact⟨q,rfl⟩
theorem aGO {C:Ctx} (Lb:mK C) {l:List Nat} {v:PV} (T:Tp l v) (G:GE) (mc bHN dom n:Nat) (hmc:0<mc) (hmc2:mc≤1000) (hdr:bHN≤60) (hn:n≤10) (s:GS) (hs:GOk l bHN s) (wd wr:PV) (K:cA) (F:PF) (H:PH)
  (hF:(eS G dom bHN 5 n 0).le F) (hH:aT H (G.boxes v mc wd wr s.a) (lF s wd wr))
  (hK:∀ wd' wr' F' H',aT H' (G.boxes v mc wd' wr' (jK l mc bHN dom s n).a) (lF (jK l mc bHN dom s n) wd' wr')→K (.exit 0) F' H') :
  aB.wp C (.loop uQ) K F H:=by
 refine wp_loop (α:=Nat × PV × PV × PH) (fun t=>eS G dom bHN 5 n t.1) (fun t=>t.2.2.2) (fun t=>t.1≤n∧aT t.2.2.2 (G.boxes v mc t.2.1 t.2.2.1 (jK l mc bHN dom s t.1).a) (lF (jK l mc bHN dom s t.1) t.2.1 t.2.2.1)) (fun t=>n-t.1) (0,wd,wr,H) ⟨bKA _,hH⟩ hF PH.le_refl ?_
 rintro⟨i,wd,wr,H0⟩ ⟨hi,hH⟩
 simp only at hi hH ⊢
 obtain⟨gs,-⟩:=WE (mc:=mc) (dom:=dom) hs i
 have bHW:jK l mc bHN dom s (i+1)=(if (jK l mc bHN dom s i).bIO.length<bHN then { jK l mc bHN dom s i with bIO:=(jK l mc bHN dom s i).bIO++[⟨[100]++bU (jK l mc bHN dom s i).bIO.length,((aF l mc (jK l mc bHN dom s i).a).1:Nat),(dom:Nat)⟩],a:=(aF l mc (jK l mc bHN dom s i).a).2 } else jK l mc bHN dom s i):=rfl
 simp only[go_sem,γ,reduceCtorEq,uQ,XB,eS]
 by_cases hlt:i<n
 ·have bHV:(i:Int)<(n:Nat):=by omega
  generalize hg:jK l mc bHN dom s i=g at *
  have b1:=hH.at 1 rfl
  have lr:=(hH.own 1 rfl).vH
  rw[bJT] at lr
  have ei:=ws i
  simp only[go_sem,δ,γ,θ,reduceCtorEq,bHV,XC,show (((5:Nat):Int)==5)=true from rfl,aGU,b1,lr]
  by_cases hc:g.bIO.length<bHN
  ·have hc':(g.bIO.length:Int)<(bHN:Nat):=by omega
   rw[if_pos hc] at bHW
   simp only[go_sem,hc']
   have hHs:(PH.nil.set G.fo (flB G.ext G.wl (.osl G.qm 4 0 mc) wd wr G.wp G.wv)).le H0:=PH.aG PH.nil_le b1
   refine bL (PH.nil.set G.fo (flB G.ext G.wl (.osl G.qm 4 0 mc) wd wr G.wp G.wv)) (mkS l v) hHs ?_
   simp only[go_sem,δ,γ,θ,reduceCtorEq,aGV,b1,lr]
   refine EX Lb.torM (s:=[100]) (n:=g.bIO.length) (by decide) (by have:=gs.bIO; omega) rfl hHs ?_
   simp only[go_sem,δ,γ,θ,reduceCtorEq]
   have ho:=hH.at 0 rfl
   have h1:=hH.set 0 rfl (bK v (aF l mc g.a).2)
   have b1':=h1.at 1 rfl
   refine qH Lb.toEU T (o:=G.o) (n:=mc) (a:=g.a) Om gs.a rfl ho (PH.aG PH.nil_le b1') ?_
   have h132:(1:Nat)*3≤16777216:=by decide
   simp only[go_sem,υ,δ,γ,η,θ,ζ,reduceCtorEq,h132,bKI,bKR,or_false,forall_eq,forall_eq_or_imp]
   refine h1.append 1 (src:=[(⟨[100]++bU g.bIO.length,((aF l mc g.a).1:Nat),(dom:Nat)⟩:cY).cells]) rfl rfl (by unfold roomFor; rw[bJT]; have:=gs.bIO; simp only[bKD,maxLen]; omega) fun wr' H2 h2 hw=>?_
   obtain⟨q,rfl⟩:=hw (by simp)
   have b2:=h2.at 1 rfl
   refine⟨PH.aG PH.nil_le b2,?_⟩
   refine bL .nil dJ PH.nil_le ?_
   simp only[go_sem,δ,γ,θ,reduceCtorEq,aGW,b2,bKI,bKR,or_false,forall_eq]
   have h3:=h2.set 1 rfl (flB G.ext G.wl (.osl G.qm 4 0 mc) wd (.osl q 3 0 (lO g.bIO++[(⟨[100]++bU g.bIO.length,((aF l mc g.a).1:Nat),(dom:Nat)⟩:cY).cells]).length) G.wp G.wv)
   refine⟨PH.nil_le,?_⟩
   simp only[go_sem,γ,reduceCtorEq,uR,ei]
   refine aC (i+1,wd,.osl q 3 0 (lO g.bIO++[(⟨[100]++bU g.bIO.length,((aF l mc g.a).1:Nat),(dom:Nat)⟩:cY).cells]).length,_) ⟨hlt,?_⟩ (by simp only; omega) ?_ PH.le_refl
   ·rw[bHW]
    have e:lO (g.bIO++[(⟨[100]++bU g.bIO.length,((aF l mc g.a).1:Nat),(dom:Nat)⟩:cY)])=lO g.bIO++[(⟨[100]++bU g.bIO.length,((aF l mc g.a).1:Nat),(dom:Nat)⟩:cY).cells]:=by simp[lO]
    unfold lF
    simp only
    rw[e]
    exact h3
   ·exact Lq
  ·have hc':¬ (g.bIO.length:Int)<(bHN:Nat):=by omega
   rw[if_neg hc] at bHW
   simp only[go_sem,γ,reduceCtorEq,hc',uR,ei]
   refine aC (i+1,wd,wr,H0) ⟨hlt,by rw[bHW]; exact hH⟩ (by simp only; omega) ?_ PH.le_refl
   exact Lq
 ·have bHV:¬ (i:Int)<(n:Nat):=by omega
  have:i=n:=by omega
  subst this
  simp only[go_sem,bHV]
  exact hK wd wr _ _ hH
def a3M (G:GE) (v:PV) (mc:Nat) (s':GS) (r:PV) (B':List BX) (L':List LI):Prop:=r=.tup []∧∃ wd wr,B'=G.boxes v mc wd wr s'.a∧L'=lF s' wd wr
def aaF (C:Ctx) (l:List Nat) (v:PV) (mc bHN k:Nat):Prop :=
 ∀ (G:GE) (wd wr:PV) (s:GS) (dom:Nat) (x:cH),GOk l bHN s→s.bIA[dom]?=some x→x.level=4-(k:Int)→∀ H0,aT H0 (G.boxes v mc wd wr s.a) (lF s wd wr) →
  aI C 7 [.ptr G.o 2 0 0,.ptr G.fo 7 0 0,.int .i64 dom,.int .i64 bHN] H0 (fun r H'=>∃ B' L',a3M G v mc (eK l mc bHN k dom s) r B' L'∧aT H' B' L')
theorem bcZ {lv:Nat} (h:lv≤4):([45,115,114,107,109]:List UInt8)[lv]?=some (kT lv):=by
 match lv,h with
 | 0,_=>rfl
 | 1,_=>rfl
 | 2,_=>rfl
 | 3,_=>rfl
 | 4,_=>rfl
theorem TF {C:Ctx} {l:List Nat} {v:PV} (G:GE) (mc bHN dom lv n i k p:Nat) (hlv:lv=4-k) (hk:k<4) (hrec:aaF C l v mc bHN k) (g:GS) (x:cH) (a:Nat) (hg:GOk l bHN { g with bIA:=g.bIA++[x],a:=a }) (hx:x.level=(lv:Nat)) (wd wr:PV) (hdr:bHN≤60) (K:cA) (F:PF) (H:PH)
  (hF:(eS G dom bHN lv n i).le F) (f11:F 11=some (.ptr p 7 0 0)) (hH:aT H (G.boxes v mc wd wr a++[(p,.rows 7 [x.cells])]) (lF g wd wr))
  (hK:∀ wd' wr' F' H',(eS G dom bHN lv n i).le F'→aT H' (G.boxes v mc wd' wr' (eK l mc bHN k g.bIA.length { g with bIA:=g.bIA++[x],a:=a }).a) (lF (eK l mc bHN k g.bIA.length { g with bIA:=g.bIA++[x],a:=a }) wd' wr')→K .normal F' H') :
  aB.wp C (.draw ND) (iV C (aB.wp C (.region NE)) K) F H:=by
 have f0:F 0=some (.ptr G.o 2 0 0):=hF 0 _ (by unfold eS; simp only[go_sem,reduceCtorEq])
 have f1:F 1=some (.ptr G.fo 7 0 0):=hF 1 _ (by unfold eS; simp only[go_sem,γ,reduceCtorEq])
 have f2:F 2=some (.int .i64 dom):=hF 2 _ (by unfold eS; simp only[go_sem,γ,reduceCtorEq])
 have f3:F 3=some (.int .i64 bHN):=hF 3 _ (by unfold eS; simp only[go_sem,γ,reduceCtorEq])
 have f8:F 8=some (.int .i64 lv):=hF 8 _ (by unfold eS; simp only[go_sem,γ,reduceCtorEq])
 have f9:F 9=some (.int .i64 n):=hF 9 _ (by unfold eS; simp only[go_sem,γ,reduceCtorEq])
 have f10:F 10=some (.int .i64 i):=hF 10 _ (by unfold eS; simp only[go_sem,γ,reduceCtorEq])
 have hdl:=hg.bIA
 simp only[bJX,bKD] at hdl
 have b1:=hH.at 1 rfl
 have b2:=hH.at 2 rfl
 have h17:(1:Nat)*7≤16777216:=by decide
 refine bL .nil dJ PH.nil_le ?_
 simp only[go_sem,υ,δ,γ,η,θ,ζ,reduceCtorEq,ND,f1,f11,b1,b2,h17,bKI,bKR,or_false,forall_eq,forall_eq_or_imp]
 refine hH.append 0 (src:=[x.cells]) rfl rfl (by unfold roomFor; rw[bJT]; simp only[bKD,maxLen]; omega) fun wd' H2 h2 hw=>?_
 obtain⟨q,rfl⟩:=hw (by simp)
 have hl:(jT g.bIA++[x.cells]).length=g.bIA.length+1:=by simp
 rw[hl] at h2 ⊢
 have c1:=h2.at 1 rfl
 refine⟨PH.nil_le,?_⟩
 simp only[go_sem,δ,θ,c1,bKI,bKR,or_false,forall_eq]
 have h3:=h2.set 1 rfl (flB G.ext G.wl (.osl G.qm 4 0 mc) (.osl q 7 0 (g.bIA.length+1)) wr G.wp G.wv)
 have c2:=h3.at 1 rfl
 refine⟨PH.nil_le,?_⟩
 have e:jT (g.bIA++[x])=jT g.bIA++[x.cells]:=by simp[jT]
 have ew:IntKind.i64.wrap (((g.bIA.length+1:Nat):Int)-1)=((g.bIA.length:Nat):Int):=by rw[wrap_i64 Om Om]; omega
 simp only[go_sem,δ,γ,θ,reduceCtorEq,NE,f0,f1,f3,ew]
 have h4:aT (H2.set G.fo (flB G.ext G.wl (.osl G.qm 4 0 mc) (.osl q 7 0 (g.bIA.length+1)) wr G.wp G.wv)) (G.boxes v mc (.osl q 7 0 (g.bIA.length+1)) wr a++[(p,.rows 7 [x.cells])]) (lF { g with bIA:=g.bIA++[x],a:=a } (.osl q 7 0 (g.bIA.length+1)) wr++[]):=by
  unfold lF
  simp only
  rw[e]
  exact h3
 refine DK h4 (fun H0 hH0=>hrec G _ wr { g with bIA:=g.bIA++[x],a:=a } g.bIA.length x hg (by simp) (by rw[hx]; omega) H0 hH0) rfl ?_
 rintro r B' L' H' ⟨rfl,wd2,wr2,rfl,rfl⟩ hH'
 refine hK wd2 wr2 _ _ ?_ (hH'.sub (List.sublist_append_left ..) (by rw[bLK]; exact bLR.refl _))
 unfold eS
 exact Lq
theorem LD {C:Ctx} (Lb:mK C) {l:List Nat} {v:PV} (T:Tp l v) (G:GE) (mc bHN dom n k:Nat) (hk:k<4) (hdr:bHN≤60) (hn:n≤10) (hrec:aaF C l v mc bHN k) (s:GS) (hs:GOk l bHN s) (hd0:0<s.bIA.length) (wd wr:PV) (K:cA) (F:PF) (H:PH)
  (hF:(eS G dom bHN (4-k) n 0).le F) (hH:aT H (G.boxes v mc wd wr s.a) (lF s wd wr))
  (hK:∀ e wd' wr' F' H',(e=.exit 0∨e=.ret)→aT H' (G.boxes v mc wd' wr' (fU l (4-k) bHN dom (eK l mc bHN k) s n).a) (lF (fU l (4-k) bHN dom (eK l mc bHN k) s n) wd' wr')→K e F' H') :
  aB.wp C (.loop uQ) K F H:=by
 obtain⟨lv,hlv⟩:∃ lv,lv=4-k:=⟨_,rfl⟩
 rw[← hlv] at hF hK
 refine wp_loop (α:=Nat × PV × PV × PH) (fun t=>eS G dom bHN lv n t.1) (fun t=>t.2.2.2) (fun t=>t.1≤n∧aT t.2.2.2 (G.boxes v mc t.2.1 t.2.2.1 (fU l lv bHN dom (eK l mc bHN k) s t.1).a) (lF (fU l lv bHN dom (eK l mc bHN k) s t.1) t.2.1 t.2.2.1)) (fun t=>n-t.1) (0,wd,wr,H) ⟨bKA _,hH⟩ hF PH.le_refl ?_
 rintro⟨i,wd,wr,H0⟩ ⟨hi,hH⟩
 simp only at hi hH ⊢
 obtain⟨gs,u,gu⟩:=WF (level:=lv) (dom:=dom) (fun d t ht=>WG (mc:=mc) k d ht) hs i
 have hfull:=fun h=>a5D (l:=l) (level:=lv) (bHN:=bHN) (dom:=dom) (rec:=eK l mc bHN k) (s:=s) (i:=i) h n hi
 have bHW:fU l lv bHN dom (eK l mc bHN k) s (i+1)=(if pA bHN (fU l lv bHN dom (eK l mc bHN k) s i) then fU l lv bHN dom (eK l mc bHN k) s i else eK l mc bHN k ((mN l lv dom (fU l lv bHN dom (eK l mc bHN k) s i)).bIA.length-1) (mN l lv dom (fU l lv bHN dom (eK l mc bHN k) s i))):=rfl
 simp only[go_sem,γ,reduceCtorEq,uQ,XB,eS]
 by_cases hlt:i<n
 ·have bHV:(i:Int)<(n:Nat):=by omega
  generalize hg:fU l lv bHN dom (eK l mc bHN k) s i=g at *
  have gd0:0<g.bIA.length:=by rw[gu,bJX]; omega
  have b1:=hH.at 1 rfl
  have lr:=(hH.own 1 rfl).vH
  have ld:=(hH.own 0 rfl).vH
  rw[bJT] at lr ld
  have ei:=ws i
  simp only[go_sem,δ,γ,θ,reduceCtorEq,bHV,XC,bF (Om:((lv:Nat):Int)≠5),apR,b1,lr]
  by_cases c1:bHN≤g.bIO.length
  ·have hf:pA bHN g=true:=by unfold pA; simp[c1]
   simp only[go_sem,γ,reduceCtorEq,show (g.bIO.length:Int)≥(bHN:Nat) by omega]
   exact hK _ wd wr _ _ (.inr rfl) (by rw[hfull hf]; exact hH)
  simp only[go_sem,δ,γ,θ,reduceCtorEq,show ¬ (g.bIO.length:Int)≥(bHN:Nat) by omega,b1,ld]
  by_cases c2:35≤g.bIA.length
  ·have hf:pA bHN g=true:=by unfold pA; simp[c2]
   simp only[go_sem,show (g.bIA.length:Int)≥35 by omega]
   exact hK _ wd wr _ _ (.inr rfl) (by rw[hfull hf]; exact hH)
  have hf:pA bHN g=false:=by unfold pA; simp[c1,c2]
  rw[if_neg (by rw[hf]; decide)] at bHW
  simp only[go_sem,show ¬ (g.bIA.length:Int)≥35 by omega]
  have ls:=bcZ (Om:lv≤4)
  refine bL .nil (mkS l v) PH.nil_le ?_
  have hbr:oL [[PV.int IntKind.u8 (((kT lv).toNat:Nat):Int)]]=some [kT lv]:=by
   simp[oL]
  obtain⟨gg,x0,gx0,-⟩:=aTY (level:=lv) (dom:=dom) gs hf
  have hdl:(mN l lv dom g).bIA.length-1=g.bIA.length:=by rw[gx0]; simp
  rw[hdl] at bHW
  have h1:=hH.set 0 rfl (bK v (aF l 16 g.a).2)
  have a1:=bN l 16 gs.a
  have n1:=cC l (show 0<16 by decide) g.a
  have e1:IntKind.i64.wrap (1+((aF l 16 g.a).1:Int))=((1+(aF l 16 g.a).1:Nat):Int):=by rw[wrap_i64 Om Om]; omega
  simp only[go_sem,υ,δ,γ,η,θ,ζ,reduceCtorEq,apS,ls,hbr,b1,ld]
  refine EX Lb.torM (s:=[kT lv]) (n:=g.bIA.length) (by simp) (by have:=gs.bIA; omega) rfl PH.nil_le ?_
  simp only[go_sem,γ,reduceCtorEq]
  refine qH Lb.toEU T (o:=G.o) (n:=16) (a:=g.a) Om gs.a rfl (hH.at 0 rfl) PH.nil_le ?_
  simp only[go_sem,γ,reduceCtorEq,e1]
  refine brA Lb.toEU (n:=0) (by unfold cX; omega) rfl PH.nil_le ?_
  simp only[go_sem,δ,γ,θ,reduceCtorEq,bKI,bKR,or_false,forall_eq,forall_eq_or_imp]
  refine aO fun p hp=>?_
  have h2:=h1.new hp (.rows 7 [(⟨[kT lv]++bU g.bIA.length,(lv:Nat),(dom:Nat),(1+(aF l 16 g.a).1:Nat),jY⟩:cH).cells])
  simp only[go_sem,δ,γ,reduceCtorEq,bKI,bKR,or_false,forall_eq,forall_eq_or_imp]
  refine⟨PH.nil_le,?_⟩
  simp only[go_sem,reduceCtorEq,apT]
  refine dA Lb.toEU T (o:=G.o) (n:=3) (a:=(aF l 16 g.a).2) (by decide) a1 rfl (h2.at 0 rfl) ?_
  have h3:=h2.set 0 rfl (bK v (aF l 3 (aF l 16 g.a).2).2)
  have a2:=bN l 3 a1
  by_cases c3:(aF l 3 (aF l 16 g.a).2).1=0
  ·have hd:mN l lv dom g={ g with bIA:=g.bIA++[⟨[kT lv]++bU g.bIA.length,(lv:Nat),(dom:Nat),(1+(aF l 16 g.a).1:Nat),mkT 1 ((2+(aF l 6 (aF l 3 (aF l 16 g.a).2).2).1:Nat):Int)⟩],a:=(aF l 6 (aF l 3 (aF l 16 g.a).2).2).2 }:=by
    unfold mN; simp only[c3,if_true]
   rw[hd] at bHW gg
   have n2:=cC l (show 0<6 by decide) (aF l 3 (aF l 16 g.a).2).2
   have e2:IntKind.i64.wrap (2+((aF l 6 (aF l 3 (aF l 16 g.a).2).2).1:Int))=((2+(aF l 6 (aF l 3 (aF l 16 g.a).2).2).1:Nat):Int):=by rw[wrap_i64 Om Om]; omega
   simp only[go_sem,γ,reduceCtorEq,bP (show (((aF l 3 (aF l 16 g.a).2).1:Nat):Int)=0 by omega),apU]
   refine dA Lb.toEU T (o:=G.o) (n:=6) (a:=(aF l 3 (aF l 16 g.a).2).2) (by decide) a2 rfl (h3.at 0 rfl) ?_
   have h4:=h3.set 0 rfl (bK v (aF l 6 (aF l 3 (aF l 16 g.a).2).2).2)
   rw[PH.set_set] at h4
   simp only[go_sem,γ,reduceCtorEq,e2]
   refine aA (Lb.fmk 1 ((2+(aF l 6 (aF l 3 (aF l 16 g.a).2).2).1:Nat):Int) (by unfold cX; omega) (by unfold cX; omega)) rfl ?_
   unfold uY
   rw[if_neg Om]
   simp only[go_sem,δ,γ,reduceCtorEq,show ¬ p=G.o from h4.ne 2 0 rfl rfl (by decide)]
   have h5:=h4.set 2 rfl (.rows 7 [(⟨[kT lv]++bU g.bIA.length,(lv:Nat),(dom:Nat),(1+(aF l 16 g.a).1:Nat),mkT 1 ((2+(aF l 6 (aF l 3 (aF l 16 g.a).2).2).1:Nat):Int)⟩:cH).cells])
   try simp only[anA]
   refine TF G mc bHN dom lv n i k p hlv hk hrec g _ _ gg rfl wd wr hdr _ _ _ (by unfold eS; exact Lq) rfl h5 ?_
   intro wd' wr' F' H' hF' hH'
   rw[← bHW] at hH'
   have f10:F' 10=some (.int .i64 i):=hF' 10 _ (by unfold eS; simp only[go_sem,γ,reduceCtorEq])
   have g0:F' 0=some (.ptr G.o 2 0 0):=hF' 0 _ (by unfold eS; simp only[go_sem,reduceCtorEq])
   have g1:F' 1=some (.ptr G.fo 7 0 0):=hF' 1 _ (by unfold eS; simp only[go_sem,γ,reduceCtorEq])
   have g2:F' 2=some (.int .i64 dom):=hF' 2 _ (by unfold eS; simp only[go_sem,γ,reduceCtorEq])
   have g3:F' 3=some (.int .i64 bHN):=hF' 3 _ (by unfold eS; simp only[go_sem,γ,reduceCtorEq])
   have g8:F' 8=some (.int .i64 lv):=hF' 8 _ (by unfold eS; simp only[go_sem,γ,reduceCtorEq])
   have g9:F' 9=some (.int .i64 n):=hF' 9 _ (by unfold eS; simp only[go_sem,γ,reduceCtorEq])
   simp only[go_sem,γ,uR,f10,ei]
   refine aC (i+1,wd',wr',H') ⟨hlt,hH'⟩ (by simp only; omega) ?_ PH.le_refl
   exact Lq
  ·have hd:mN l lv dom g={ g with bIA:=g.bIA++[⟨[kT lv]++bU g.bIA.length,(lv:Nat),(dom:Nat),(1+(aF l 16 g.a).1:Nat),jY⟩],a:=(aF l 3 (aF l 16 g.a).2).2 }:=by
    unfold mN; simp only[c3,if_false]
   rw[hd] at bHW gg
   simp only[go_sem,γ,reduceCtorEq,bF (show ¬ (((aF l 3 (aF l 16 g.a).2).1:Nat):Int)=0 by omega)]
   try simp only[anA]
   refine TF G mc bHN dom lv n i k p hlv hk hrec g _ _ gg rfl wd wr hdr _ _ _ (by unfold eS; exact Lq) rfl h3 ?_
   intro wd' wr' F' H' hF' hH'
   rw[← bHW] at hH'
   have f10:F' 10=some (.int .i64 i):=hF' 10 _ (by unfold eS; simp only[go_sem,γ,reduceCtorEq])
   have g0:F' 0=some (.ptr G.o 2 0 0):=hF' 0 _ (by unfold eS; simp only[go_sem,reduceCtorEq])
   have g1:F' 1=some (.ptr G.fo 7 0 0):=hF' 1 _ (by unfold eS; simp only[go_sem,γ,reduceCtorEq])
   have g2:F' 2=some (.int .i64 dom):=hF' 2 _ (by unfold eS; simp only[go_sem,γ,reduceCtorEq])
   have g3:F' 3=some (.int .i64 bHN):=hF' 3 _ (by unfold eS; simp only[go_sem,γ,reduceCtorEq])
   have g8:F' 8=some (.int .i64 lv):=hF' 8 _ (by unfold eS; simp only[go_sem,γ,reduceCtorEq])
   have g9:F' 9=some (.int .i64 n):=hF' 9 _ (by unfold eS; simp only[go_sem,γ,reduceCtorEq])
   simp only[go_sem,γ,uR,f10,ei]
   refine aC (i+1,wd',wr',H') ⟨hlt,hH'⟩ (by simp only; omega) ?_ PH.le_refl
   exact Lq
 ·have bHV:¬ (i:Int)<(n:Nat):=by omega
  have:i=n:=by omega
  subst this
  simp only[go_sem,bHV]
  exact hK _ wd wr _ _ (.inl rfl) hH
theorem aGP {C:Ctx} (Lb:mK C) {l:List Nat} {v:PV} (T:Tp l v) (mc bHN k:Nat) (hmc:0<mc) (hmc2:mc≤1000) (hdr:bHN≤60) (hk:k≤4) (hrec:∀ k',k=k'+1→aaF C l v mc bHN k') (G:GE) (wd wr:PV) (s:GS) (dom:Nat) (x:cH)
  (hs:GOk l bHN s) (hx:s.bIA[dom]?=some x) (hl:x.level=4-(k:Int)) (H0:PH) (hH:aT H0 (G.boxes v mc wd wr s.a) (lF s wd wr)) :
  wD.wp C (aR adL.res (fun r H'=>∃ B' L',a3M G v mc (eK l mc bHN k dom s) r B' L'∧aT H' B' L')) (PF.args [.ptr G.o 2 0 0,.ptr G.fo 7 0 0,.int .i64 dom,.int .i64 bHN]) H0:=by
 have hd0:dom<s.bIA.length:=(bLD.1 hx).1
 have b1:=hH.at 1 rfl
 have fin:∀ (e:mD) (wd' wr':PV) (F':PF) (H':PH),(e=.exit 0∨e=.ret)→aT H' (G.boxes v mc wd' wr' (eK l mc bHN k dom s).a) (lF (eK l mc bHN k dom s) wd' wr') →
   dN 0 (aR adL.res (fun r H'=>∃ B' L',a3M G v mc (eK l mc bHN k dom s) r B' L'∧aT H' B' L')) e F' H':=by
  intro e wd' wr' F' H' he hH'
  rcases he with rfl | rfl
  ·rw[AS,if_pos rfl]
   exact aV (vs:=[]) (.inl rfl) H' rfl PH.le_refl ⟨_,_,⟨rfl,wd',wr',rfl,rfl⟩,hH'⟩
  ·exact aV (vs:=[]) (.inr rfl) H' rfl PH.le_refl ⟨_,_,⟨rfl,wd',wr',rfl,rfl⟩,hH'⟩
 obtain⟨q,rs,e1,e2,e3,e4⟩:∃ q rs,wd=.osl q 7 0 s.bIA.length∧H0 q=some (.rows 7 rs)∧s.bIA.length≤rs.length∧rs.take s.bIA.length=jT s.bIA:=by
  rcases hH.own 0 rfl with ⟨h1,_⟩ | ⟨q,rs,h1,h2,h3,h4⟩
  ·have:=congrArg List.length h1
   rw[bJT] at this
   simp at this; rw[this] at hd0; simp at hd0
  ·rw[bJT] at h1 h3 h4
   exact⟨q,rs,h1,h2,h3,h4⟩
 have hrd:rs[dom]?=some x.cells:=by
  have:(jT s.bIA)[dom]?=some x.cells:=by simp[jT,hx]
  rw[← e4,List.getElem?_take_of_lt hd0] at this
  exact this
 subst e1
 have c1:(dom:Int)<(s.bIA.length:Nat):=by omega
 have ew:IntKind.i64.wrap (x.level+1)=((5-k:Nat):Int):=by rw[hl,wrap_i64 Om Om]; omega
 have nlt:=cC l (show 0<2 by decide) s.a
 have en:IntKind.i64.wrap (1+((aF l 2 s.a).1:Int))=((1+(aF l 2 s.a).1:Nat):Int):=by rw[wrap_i64 Om Om]; omega
 have h1:=hH.set 0 rfl (bK v (aF l 2 s.a).2)
 have hs1:GOk l bHN { s with a:=(aF l 2 s.a).2 }:=⟨hs.bIA,hs.bIO,bN l 2 hs.a⟩
 have hqo:¬ q=G.o:=fun h=>hH.neL 0 0 rfl rfl rfl h.symm
 simp only[go_sem,δ,γ,θ,reduceCtorEq,wD,aGQ,b1,c1,e2,hrd,ew,aGR]
 refine dA Lb.toEU T (o:=G.o) (n:=2) (a:=s.a) (by decide) hs.a (by simp only[go_sem,γ]; rfl) (hH.at 0 rfl) ?_
 simp only[go_sem,γ,en,aGS]
 cases k with
 | zero =>
  simp only[go_sem,bF (Om:¬ ((5-0:Nat):Int)=2),HA]
  refine aGO (C:=C) Lb T G mc bHN dom (1+(aF l 2 s.a).1) hmc hmc2 hdr Om { s with a:=(aF l 2 s.a).2 } hs1 _ wr _ _ _ ?_ h1 ?_
  ·unfold eS
   exact Lq
  ·intro wd' wr' F' H' hH'
   exact fin _ wd' wr' F' H' (.inl rfl) hH'
 | succ k =>
  have hrc:=hrec k rfl
  by_cases c2:4-k=2
  ·have e5:eK l mc bHN (k+1) dom s=fU l (4-k) bHN dom (eK l mc bHN k) { s with a:=(aF l 2 s.a).2 } 1:=by simp only[eK,if_pos c2]
   simp only[go_sem,bP (show ((5-(k+1):Nat):Int)=2 by omega),aGT,HA]
   refine LD (C:=C) Lb T G mc bHN dom 1 k Om hdr (by decide) hrc { s with a:=(aF l 2 s.a).2 } hs1 (by simp only; omega) _ wr _ _ _ ?_ h1 ?_
   ·unfold eS
    (repeat' (first|exact PF.nil_le|refine PF.aG ?_ ?_))<;>first|(simp only[go_sem,γ,reduceCtorEq,show 4-k=5-(k+1) by omega]<;>rfl)|rfl
   ·intro e wd' wr' F' H' he hH'
    rw[← e5] at hH'
    exact fin e wd' wr' F' H' he hH'
  ·have e5:eK l mc bHN (k+1) dom s=fU l (4-k) bHN dom (eK l mc bHN k) { s with a:=(aF l 2 s.a).2 } (1+(aF l 2 s.a).1):=by simp only[eK,if_neg c2]
   simp only[go_sem,bF (show ¬ ((5-(k+1):Nat):Int)=2 by omega),HA]
   refine LD (C:=C) Lb T G mc bHN dom (1+(aF l 2 s.a).1) k Om hdr Om hrc { s with a:=(aF l 2 s.a).2 } hs1 (by simp only; omega) _ wr _ _ _ ?_ h1 ?_
   ·unfold eS
    (repeat' (first|exact PF.nil_le|refine PF.aG ?_ ?_))<;>first|(simp only[go_sem,γ,reduceCtorEq,show 4-k=5-(k+1) by omega]<;>rfl)|rfl
   ·intro e wd' wr' F' H' he hH'
    rw[← e5] at hH'
    exact fin e wd' wr' F' H' he hH'
theorem aEA {C:Ctx} (Lb:mK C) {l:List Nat} {v:PV} (T:Tp l v) (mc bHN:Nat) (hmc:0<mc) (hmc2:mc≤1000) (hdr:bHN≤60)
  (hE:∀ (args:List PV) (H:PH) (R:PV→PH→Prop),args.length=4→wD.wp C (aR adL.res R) (PF.args args) H→aI C 7 args H R):∀ k,k≤4→aaF C l v mc bHN k
 | 0,h=>fun G wd wr s dom x hs hx hl H0 hH=>hE _ _ _ rfl (aGP Lb T mc bHN 0 hmc hmc2 hdr h (fun _ e=>by omega) G wd wr s dom x hs hx hl H0 hH)
 | k+1,h=>fun G wd wr s dom x hs hx hl H0 hH=>hE _ _ _ rfl (aGP Lb T mc bHN (k+1) hmc hmc2 hdr h (fun k' e=>by
   have:k'=k:=by omega
   subst this
   exact aEA Lb T mc bHN hmc hmc2 hdr hE k' Om) G wd wr s dom x hs hx hl H0 hH)
theorem bsT (l:List Nat) (dW:Nat) {a:Nat} (h:a≤l.length):(pQ l dW a).2≤l.length:=(alB l (1+(aF l dW a).1) (bN l dW h) (1+(aF l dW a).1)).1
theorem WX (l:List Nat) {a:Nat} (h:a≤l.length):∀ k,(gY l a k).2≤l.length∧(gY l a k).1.length=k
 | 0=>⟨h,rfl⟩
 | k+1=>by
  obtain⟨h1,h2⟩:=WX l h k
  exact⟨bsT l 2 h1,by simp only[gY,bJX,bKD,h2]⟩
theorem HF (l:List Nat) (bHY:Nat) {a:Nat} (h:a≤l.length):∀ k,(eD l bHY a k).2≤l.length∧(eD l bHY a k).1.length=k
 | 0=>⟨h,rfl⟩
 | k+1=>by
  obtain⟨h1,h2⟩:=HF l bHY h k
  exact⟨bN l bHY (bN l 8 (bN l 4 h1)),by simp only[eD,bJX,bKD,h2]⟩
structure FE where
 o:Nat
 o6:Nat
 o7:Nat
 bHN:Nat
 bHQ:Nat
abbrev flZ:cI:=flB (.int .i64 0) .bHP .bHP .bHP .bHP .bHP .bHP
abbrev FE.boxes (E:FE) (v ext w1 w2 w3 w4 w5 w6:PV) (a:Nat):List BX:=[(E.o,bK v a),(E.o7,flB ext w1 w2 w3 w4 w5 w6),(E.o6,flZ)]
def fK (E:FE):PF:=(((((PF.nil.set 0 (.ptr E.o 2 0 0)).set 1 (.int .i64 E.bHN)).set 2 (.int .i64 E.bHQ)).set 6 (.ptr E.o6 7 0 0)).set 7 (.ptr E.o7 7 0 0))
abbrev gV (l:List bX):List (List PV):=l.map bX.cells
abbrev jO (l:List cK):List (List PV):=l.map cK.cells
theorem RS {E:FE} {F:PF} (h0:F 0=some (.ptr E.o 2 0 0)) (h1:F 1=some (.int .i64 E.bHN)) (h2:F 2=some (.int .i64 E.bHQ)) (h6:F 6=some (.ptr E.o6 7 0 0)) (h7:F 7=some (.ptr E.o7 7 0 0)):(fK E).le F :=
 PF.aG (PF.aG (PF.aG (PF.aG (PF.aG PF.nil_le h0) h1) h2) h6) h7
theorem bmD {C:Ctx} (Lb:mK C) {l:List Nat} {v:PV} (T:Tp l v) (E:FE) (n a:Nat) (hn:n≤10) (ha:a≤l.length) (ext:PV) (K:cA) (F:PF) (H:PH)
  (hF:(((fK E).set 8 (.int .i64 n)).set 9 (.int .i64 0)).le F) (hH:aT H (E.boxes v ext .bHP .bHP .bHP .bHP .bHP .bHP a) [])
  (hK:∀ w1 F' H',(fK E).le F'→aT H' (E.boxes v ext w1 .bHP .bHP .bHP .bHP .bHP (gY l a n).2) [(w1,4,gV (gY l a n).1)]→K (.exit 0) F' H') :
  aB.wp C (.loop NC) K F H:=by
 refine wp_loop (α:=Nat × PV × PH) (fun t=>((fK E).set 8 (.int .i64 n)).set 9 (.int .i64 t.1)) (fun t=>t.2.2) (fun t=>t.1≤n∧aT t.2.2 (E.boxes v ext t.2.1 .bHP .bHP .bHP .bHP .bHP (gY l a t.1).2) [(t.2.1,4,gV (gY l a t.1).1)]) (fun t=>n-t.1) (0,.bHP,H) ⟨bKA _,hH.qM 4⟩ hF PH.le_refl ?_
 rintro⟨i,w1,H0⟩ ⟨hi,hH⟩
 simp only at hi hH ⊢
 obtain⟨k1,k2⟩:=WX l ha i
 have bHW:gY l a (i+1)=((gY l a i).1++[{ (pQ l 2 (gY l a i).2).1 with name:=[108,97,119]++bU i }],(pQ l 2 (gY l a i).2).2):=rfl
 simp only[go_sem,γ,reduceCtorEq,NC,apM,fK]
 by_cases hlt:i<n
 ·have bHV:(i:Int)<(n:Nat):=by omega
  generalize hg:gY l a i=g at *
  simp only[go_sem,reduceCtorEq,bHV,apN]
  refine mC (Lb.law l v T E.o 2 g.2 (by decide) (by decide) k1) (hH.at 0 rfl) rfl ?_
  have h1:=hH.set 0 rfl (bK v (pQ l 2 g.2).2)
  generalize hz:pQ l 2 g.2=z at *
  simp only[go_sem,δ]
  refine aO fun p hp=>?_
  have h2:=h1.new hp (.rows 4 [z.1.cells])
  simp only[go_sem,δ,γ,reduceCtorEq,apO,bKI,bKR,or_false,forall_eq,forall_eq_or_imp]
  refine aA (Lb.name [108,97,119] i (by decide) Om) rfl ?_
  have h3:=h2.set 3 rfl (.rows 4 [({ z.1 with name:=[108,97,119]++bU i }:bX).cells])
  rw[PH.set_set] at h3
  have b1:=h3.at 1 rfl
  have hne:¬ E.o7=p:=h3.ne 1 3 rfl rfl (by decide)
  have hne2:¬ E.o7=E.o:=h3.ne 1 0 rfl rfl (by decide)
  simp only[bA,if_neg hne,if_neg hne2] at b1
  have h14:(1:Nat)*4≤16777216:=by decide
  simp only[go_sem,υ,δ,γ,η,θ,ζ,reduceCtorEq,apP,hne,hne2,b1,h14,bKI,bKR,or_false,forall_eq,forall_eq_or_imp]
  refine h3.append 0 (src:=[({ z.1 with name:=[108,97,119]++bU i }:bX).cells]) rfl rfl (by unfold roomFor; rw[bJT]; simp only[bKD,maxLen]; omega) fun w' H2 h4 hw=>?_
  obtain⟨q,rfl⟩:=hw (by simp)
  have b2:=h4.at 1 rfl
  simp only[go_sem,δ,θ,b2,bKI,bKR,or_false,forall_eq]
  have h5:=h4.set 1 rfl (flB ext (.osl q 4 0 (gV g.1++[({ z.1 with name:=[108,97,119]++bU i }:bX).cells]).length) .bHP .bHP .bHP .bHP .bHP)
  simp only[go_sem,γ,reduceCtorEq,apQ,ws i]
  refine aC (i+1,.osl q 4 0 (gV g.1++[({ z.1 with name:=[108,97,119]++bU i }:bX).cells]).length,_) ⟨hlt,?_⟩ (by simp only; omega) ?_ PH.le_refl
  ·rw[bHW]
   have e:gV (g.1++[{ z.1 with name:=[108,97,119]++bU i }])=gV g.1++[({ z.1 with name:=[108,97,119]++bU i }:bX).cells]:=by simp[gV]
   simp only
   rw[e]
   exact h5.dropLast (B:=E.boxes v ext _ .bHP .bHP .bHP .bHP .bHP z.2)
  ·exact Lq
 ·have bHV:¬ (i:Int)<(n:Nat):=by omega
  have:i=n:=by omega
  subst this
  simp only[go_sem,bHV]
  exact hK w1 _ _ (RS rfl rfl rfl rfl rfl) hH
theorem a6Z {C:Ctx} (Lb:mK C) {l:List Nat} {v:PV} (T:Tp l v) (E:FE) (n a nl:Nat) (hn:n≤10) (hnl:nl≤1000) (ha:a≤l.length) (ext w1:PV) (bHY:List bX) (hlw:bHY.length=nl) (K:cA) (F:PF) (H:PH)
  (hF:(((fK E).set 11 (.int .i64 n)).set 12 (.int .i64 0)).le F) (hH:aT H (E.boxes v ext w1 .bHP .bHP .bHP .bHP .bHP a) [(w1,4,gV bHY)])
  (hK:∀ w2 F' H',(fK E).le F'→F' 11=some (.int .i64 n)→aT H' (E.boxes v ext w1 w2 .bHP .bHP .bHP .bHP (eD l nl a n).2) [(w1,4,gV bHY),(w2,4,jO (eD l nl a n).1)]→K (.exit 2) F' H') :
  aB.wp C (.loop GN) K F H:=by
 refine wp_loop (α:=Nat × PV × PH) (fun t=>((fK E).set 11 (.int .i64 n)).set 12 (.int .i64 t.1)) (fun t=>t.2.2) (fun t=>t.1≤n∧aT t.2.2 (E.boxes v ext w1 t.2.1 .bHP .bHP .bHP .bHP (eD l nl a t.1).2) [(w1,4,gV bHY),(t.2.1,4,jO (eD l nl a t.1).1)]) (fun t=>n-t.1) (0,.bHP,H) ⟨bKA _,hH.qM 4⟩ hF PH.le_refl ?_
 rintro⟨i,w2,H0⟩ ⟨hi,hH⟩
 simp only at hi hH ⊢
 obtain⟨k1,k2⟩:=HF l nl ha i
 have bHW:eD l nl a (i+1)=((eD l nl a i).1++[⟨[109]++bU i,(1+(aF l 4 (eD l nl a i).2).1:Nat),(1+(aF l 8 (aF l 4 (eD l nl a i).2).2).1:Nat),((aF l nl (aF l 8 (aF l 4 (eD l nl a i).2).2).2).1:Nat)⟩],(aF l nl (aF l 8 (aF l 4 (eD l nl a i).2).2).2).2):=rfl
 simp only[go_sem,γ,reduceCtorEq,GN,acR,fK]
 by_cases hlt:i<n
 ·have bHV:(i:Int)<(n:Nat):=by omega
  generalize hg:eD l nl a i=g at *
  have hx:=cC l (show 0<4 by decide) g.2
  have ax:=bN l 4 k1
  have hy:=cC l (show 0<8 by decide) (aF l 4 g.2).2
  have ay:=bN l 8 ax
  have az:=bN l nl ay
  have h1:=hH.set 0 rfl (bK v (aF l 4 g.2).2)
  have h2:=h1.set 0 rfl (bK v (aF l 8 (aF l 4 g.2).2).2)
  have h3:=h2.set 0 rfl (bK v (aF l nl (aF l 8 (aF l 4 g.2).2).2).2)
  generalize hx0:aF l 4 g.2=x at *
  generalize hy0:aF l 8 x.2=y at *
  generalize hz0:aF l nl y.2=z at *
  have b1:=hH.at 1 rfl
  have lw:=(hH.own 0 rfl).vH
  rw[bJT,hlw] at lw
  have hHs:(PH.nil.set E.o7 (flB ext w1 w2 .bHP .bHP .bHP .bHP)).le H0:=PH.aG PH.nil_le b1
  have ex:IntKind.i64.wrap (1+(x.1:Int))=((1+x.1:Nat):Int):=by rw[wrap_i64 Om Om]; omega
  have ey:IntKind.i64.wrap (1+(y.1:Int))=((1+y.1:Nat):Int):=by rw[wrap_i64 Om Om]; omega
  simp only[go_sem,bHV]
  refine bL (PH.nil.set E.o7 (flB ext w1 w2 .bHP .bHP .bHP .bHP)) (mkS l v) hHs ?_
  simp only[go_sem,δ,γ,θ,reduceCtorEq,acS]
  refine EX Lb.torM (s:=[109]) (n:=i) (by decide) Om rfl hHs ?_
  simp only[go_sem,reduceCtorEq]
  refine qH Lb.toEU T (o:=E.o) (n:=4) (a:=g.2) (by decide) k1 rfl (hH.at 0 rfl) ?_ ?_
  ·rw[hx0]; exact PH.aG PH.nil_le (h1.at 1 rfl)
  rw[hx0]
  simp only[go_sem,γ,reduceCtorEq,ex]
  refine qH Lb.toEU T (o:=E.o) (n:=8) (a:=x.2) (by decide) ax rfl (h1.at 0 rfl) ?_ ?_
  ·rw[hy0]; exact PH.aG PH.nil_le (h2.at 1 rfl)
  rw[hy0]
  simp only[go_sem,δ,γ,θ,reduceCtorEq,ey,lw]
  rw[PH.set_set] at h2
  refine qH Lb.toEU T (o:=E.o) (n:=nl) (a:=y.2) Om ay rfl (h2.at 0 rfl) ?_ ?_
  ·rw[hz0]; exact PH.aG PH.nil_le ((h2.set 0 rfl (bK v z.2)).at 1 rfl)
  rw[hz0]
  have h4:=h2.set 0 rfl (bK v z.2)
  have h14:(1:Nat)*4≤16777216:=by decide
  simp only[go_sem,υ,δ,γ,η,θ,ζ,reduceCtorEq,h14,bKI,bKR,or_false,forall_eq,forall_eq_or_imp]
  rw[PH.set_set] at h4
  refine h4.append 1 (src:=[(⟨[109]++bU i,(1+x.1:Nat),(1+y.1:Nat),(z.1:Nat)⟩:cK).cells]) rfl rfl (by unfold roomFor; rw[bJT]; simp only[bKD,maxLen]; omega) fun w' H2 h5 hw=>?_
  obtain⟨q,rfl⟩:=hw (by simp)
  have b2:=h5.at 1 rfl
  refine⟨PH.aG PH.nil_le b2,?_⟩
  refine bL .nil dJ PH.nil_le ?_
  simp only[go_sem,δ,γ,θ,reduceCtorEq,acT,b2,bKI,bKR,or_false,forall_eq]
  have h6:=h5.set 1 rfl (flB ext w1 (.osl q 4 0 (jO g.1++[(⟨[109]++bU i,(1+x.1:Nat),(1+y.1:Nat),(z.1:Nat)⟩:cK).cells]).length) .bHP .bHP .bHP .bHP)
  refine⟨PH.nil_le,?_⟩
  simp only[go_sem,γ,reduceCtorEq,acU,ws i]
  refine aC (i+1,.osl q 4 0 (jO g.1++[(⟨[109]++bU i,(1+x.1:Nat),(1+y.1:Nat),(z.1:Nat)⟩:cK).cells]).length,_) ⟨hlt,?_⟩ (by simp only; omega) ?_ PH.le_refl
  ·rw[bHW]
   have e:jO (g.1++[⟨[109]++bU i,(1+x.1:Nat),(1+y.1:Nat),(z.1:Nat)⟩])=jO g.1++[(⟨[109]++bU i,(1+x.1:Nat),(1+y.1:Nat),(z.1:Nat)⟩:cK).cells]:=by simp[jO]
   simp only
   rw[e]
   exact h6
  ·exact Lq
 ·have bHV:¬ (i:Int)<(n:Nat):=by omega
  have:i=n:=by omega
  subst this
  simp only[go_sem,bHV]
  exact hK w2 _ _ (RS rfl rfl rfl rfl rfl) rfl hH
abbrev vK (x:cJ) (w:PV):List PV:=[.str x.name,.int .i64 x.k,.int .i64 x.m,.int .i64 x.bIT,.int .i64 x.s0,.int .i64 x.s1,.int .i64 x.s2,.int .i64 x.s3,.int .i64 x.s4,w,frs x.repair,
 .bool x.target.neg,aJ x.target.num,aJ x.target.den,.bool x.bIB.neg,aJ x.bIB.num,aJ x.bIB.den]
def alF (E:FE) (mc n i:Nat):PF:=(((fK E).set 11 (.int .i64 mc)).set 13 (.int .i64 n)).set 14 (.int .i64 i)
structure PAt (E:FE) (mc n i:Nat) (F:PF):Prop where
 f0:F 0=some (.ptr E.o 2 0 0)
 f1:F 1=some (.int .i64 E.bHN)
 f2:F 2=some (.int .i64 E.bHQ)
 f6:F 6=some (.ptr E.o6 7 0 0)
 f7:F 7=some (.ptr E.o7 7 0 0)
 f11:F 11=some (.int .i64 mc)
 f13:F 13=some (.int .i64 n)
 f14:F 14=some (.int .i64 i)
def pS (l:List Nat) (a:Nat):Nat→List Int × Nat
 | 0=>([],a)
 | j+1=>let s:=pS l a j
  let t:=gE l s.2
  (s.1++[t.1],t.2)
theorem sM (l:List Nat) {a:Nat} (h:a≤l.length):(gE l a).2≤l.length:=by
 unfold gE
 simp only
 split
 ·exact bN l 3 (bN l 3 h)
 ·exact bN l 3 h
theorem amO (l:List Nat) {a:Nat} (h:a≤l.length):∀ j,(pS l a j).2≤l.length∧(pS l a j).1.length=j
 | 0=>⟨h,rfl⟩
 | j+1=>by
  obtain⟨h1,h2⟩:=amO l h j
  exact⟨sM l h1,by simp only[pS,bJX,bKD,h2]⟩
abbrev pR (pre post:List PV) (s:List Int):List PV:=pre++(s.map fun x=>PV.int .i64 x)++bJY (4-s.length) (.int .i64 0)++post
theorem buQ {pre post:List PV} {s:List Int} (hp:pre.length=5) (hs:s.length<4) (x:Int):(pR pre post s).set (5+s.length) (.int .i64 x)=pR pre post (s++[x]):=by
 obtain⟨k,hk⟩:∃ k,4-s.length=k+1:=⟨3-s.length,by omega⟩
 unfold pR
 rw[bJX,bKD,show 4-(s.length+1)=k by omega,hk,List.replicate_succ,bLT,bLF,bME]
 rw[List.set_append_left _ _ (by simp[hp]),bMV _ _ (by simp[hp])]
 have:5+s.length-(pre++s.map fun x=>PV.int .i64 x).length=0:=by simp[hp]
 rw[this,List.set_cons_zero]
 simp
theorem boE {pre post:List PV} {s:List Int} (hp:pre.length=5) (hs:s.length<4):pR pre post s=pR pre post (s++[0]):=by
 obtain⟨k,hk⟩:∃ k,4-s.length=k+1:=⟨3-s.length,by omega⟩
 unfold pR
 rw[bJX,bKD,show 4-(s.length+1)=k by omega,hk,List.replicate_succ,bLT,bLF,bME]
 simp
theorem a7A {C:Ctx} (Lb:mK C) {l:List Nat} {v:PV} (T:Tp l v) (E:FE) (mc n i a p:Nat) (ha:a≤l.length) (B:List BX) (L:List LI) (pre post:List PV) (hpre:pre.length=5) (hpost:post.length=8) (K:cA) (F:PF) (H:PH)
  (hF:PAt E mc n i F) (f15:F 15=some (.ptr p 17 0 0)) (f16:F 16=some (.int .i64 1)) (hH:aT H ((E.o,bK v a)::B++[(p,.rows 17 [pR pre post []])]) L)
  (hK:∀ F' H',PAt E mc n i F'→F' 15=some (.ptr p 17 0 0)→aT H' ((E.o,bK v (pS l a 4).2)::B++[(p,.rows 17 [pR pre post (pS l a 4).1])]) L→K (.exit 6) F' H') :
  aB.wp C (.loop vX) K F H:=by
 refine wp_loop (α:=Nat × PH) (fun t=>((alF E mc n i).set 15 (.ptr p 17 0 0)).set 16 (.int .i64 (t.1+1:Nat))) (fun t=>t.2) (fun t=>t.1≤4∧aT t.2 ((E.o,bK v (pS l a t.1).2)::B++[(p,.rows 17 [pR pre post (pS l a t.1).1])]) L) (fun t=>4-t.1) (0,H) ⟨bKA _,hH⟩ ?_ PH.le_refl ?_
 ·unfold alF fK
  (repeat' (first|exact PF.nil_le|refine PF.aG ?_ ?_))<;>first|(simp only[go_sem,hF.f0,hF.f1,hF.f2,hF.f6,hF.f7,hF.f11,hF.f13,hF.f14,f15,f16]<;>rfl)|rfl
 rintro⟨j,H0⟩ ⟨hj,hH⟩
 simp only at hj hH ⊢
 obtain⟨k1,k2⟩:=amO l ha j
 have bHW:pS l a (j+1)=((pS l a j).1++[(gE l (pS l a j).2).1],(gE l (pS l a j).2).2):=rfl
 simp only[go_sem,γ,reduceCtorEq,vX,adA,alF,fK]
 by_cases hlt:j<4
 ·generalize hg:pS l a j=g at *
  have ei:=cW (Om:j+1<9223372036854775807)
  simp only[go_sem,reduceCtorEq,show ((j+1:Nat):Int)<5 by omega,adB]
  refine dA Lb.toEU T (o:=E.o) (n:=3) (a:=g.2) (by decide) k1 (by simp only[go_sem,γ,reduceCtorEq]; rfl) (hH.at 0 rfl) ?_
  have h1:aT _ ((E.o,bK v (aF l 3 g.2).2)::B++[(p,.rows 17 [pR pre post g.1])]) L:=hH.set 0 rfl (bK v (aF l 3 g.2).2)
  by_cases c:(aF l 3 g.2).1=0
  ·have hs:gE l g.2=(((1+(aF l 3 (aF l 3 g.2).2).1:Nat):Int),(aF l 3 (aF l 3 g.2).2).2):=by unfold gE; simp only[c,if_true]
   have n2:=cC l (show 0<3 by decide) (aF l 3 g.2).2
   have e2:IntKind.i64.wrap (1+((aF l 3 (aF l 3 g.2).2).1:Int))=((1+(aF l 3 (aF l 3 g.2).2).1:Nat):Int):=by rw[wrap_i64 Om Om]; omega
   simp only[go_sem,γ,reduceCtorEq,bP (show (((aF l 3 g.2).1:Nat):Int)=0 by omega),adC]
   refine dA Lb.toEU T (o:=E.o) (n:=3) (a:=(aF l 3 g.2).2) (by decide) (bN l 3 k1) (by simp only[go_sem,γ,reduceCtorEq]; rfl) (h1.at 0 rfl) ?_
   have h2:aT _ ((E.o,bK v (aF l 3 (aF l 3 g.2).2).2)::B++[(p,.rows 17 [pR pre post g.1])]) L:=h1.set 0 rfl (bK v (aF l 3 (aF l 3 g.2).2).2)
   have bp:=h2.LP
   rw[PH.set_set] at bp h2
   have hpo:¬ p=E.o:=fun h=>by
    have hnd:=h2.ndB
    simp[eI,h] at hnd
   simp only[bA,if_neg hpo] at bp
   have hj5:((j+1:Nat):Int)<((5:Nat):Int):=by omega
   have h0j:(0:Int)≤((j+1:Nat):Int):=by omega
   have hlen:(pR pre post g.1).length=17:=by simp[pR,hpre,hpost,k2]; omega
   have bJM:=buQ (pre:=pre) (post:=post) (s:=g.1) hpre Om ((1+(aF l 3 (aF l 3 g.2).2).1:Nat):Int)
   rw[k2] at bJM
   have hidx:4+(j+1)*1=5+j:=by omega
   have hle17:5+j+1≤17:=by omega
   simp only[go_sem,γ,reduceCtorEq,e2,hj5,h0j,hidx,hpo,bp,hle17,bKI,bKR,or_false,forall_eq,bJM,GT,ei]
   refine aC (j+1,_) ⟨hlt,?_⟩ (by simp only; omega) ?_ PH.le_refl
   ·rw[bHW,hs]
    exact h2.amM _
   ·exact Lq
  ·have hs:gE l g.2=(0,(aF l 3 g.2).2):=by unfold gE; simp only[c,if_false]
   simp only[go_sem,γ,reduceCtorEq,bF (show ¬ (((aF l 3 g.2).1:Nat):Int)=0 by omega),GT,ei]
   refine aC (j+1,_) ⟨hlt,?_⟩ (by simp only; omega) ?_ PH.le_refl
   ·rw[boE (pre:=pre) (post:=post) (s:=g.1) hpre Om] at h1
    rw[bHW,hs]
    exact h1
   ·exact Lq
 ·have:j=4:=by omega
  subst this
  simp only[go_sem,δ,ε,show ¬ ((4+1:Nat):Int)<5 by decide]
  exact hK _ _ ⟨by simp only[go_sem,reduceCtorEq],by simp only[go_sem,γ,reduceCtorEq],by simp only[go_sem,γ,reduceCtorEq],by simp only[go_sem,γ,reduceCtorEq],by simp only[go_sem,γ,reduceCtorEq],by simp only[go_sem,γ,reduceCtorEq],by simp only[go_sem,γ,reduceCtorEq],by simp only[go_sem,γ,reduceCtorEq]⟩ Sq hH
theorem aT.oK {E:FE} {v ext w1 w2 w3 w4 w5 w6:PV} {a:Nat} {H:PH} {B:List BX} {L:List LI} (h:aT H (E.boxes v ext w1 w2 w3 w4 w5 w6 a++B) L) (b:Nat):aT (H.set E.o (bK v b)) (E.boxes v ext w1 w2 w3 w4 w5 w6 b++B) L:=h.set 0 rfl _
abbrev YM (s:List UInt8) (k m q:Int) (w r t1 t2 t3:PV) (h:RF):List PV:=[.str s,.int .i64 k,.int .i64 m,.int .i64 q,.int .i64 0,.int .i64 0,.int .i64 0,.int .i64 0,.int .i64 0,w,r,t1,t2,t3,.bool h.neg,aJ h.num,aJ h.den]
theorem bmE {C : Ctx} (Lb : mK C) {l : List Nat} {v : PV} (T : Tp l v) (E : FE) (mc n i a : Nat) (ha : a ≤ l.length) (hi : i < 50) (ext w1 w2 w3 w4 w5 w6 : PV) (L : List LI) (rest : aB) (K : cA) (F : PF) (H : PH)
    (hF : PAt E mc n i F) (hH : aT H (E.boxes v ext w1 w2 w3 w4 w5 w6 a) L)
    (hK : ∀ p F' H', PAt E mc n i F' → F' 15 = some (.ptr p 17 0 0) →
      (let k := aF l 2 a; let m := aF l 3 k.2; let h := aF l 4 m.2; let q := aF l (m.1 + 1) h.2; let r := jW l q.2 (max m.1 1); let g := aF l 9 r.2
       aT H' (E.boxes v ext w1 w2 w3 w4 w5 w6 g.2 ++ [(p, .rows 17 [pR [.str ([112] ++ bU i), .int .i64 (1 + k.1 : Nat), .int .i64 (m.1 : Nat), .int .i64 (1 + k.1 + q.1 : Nat), .int .i64 0]
        ([.bHP, frs r.1] ++ (mkT (g.1 : Nat) 8).cells ++ (mkT ((1 + h.1 : Nat) : Int) 1).cells) []])]) L) → aB.wp C rest K F' H') :
    aB.wp C (.seq (.region GQ) (.seq (.seq (.draw vY) (.draw vZ)) (.seq (.region wA) (.seq (.region wB) rest)))) K F H := by
  obtain ⟨f0, f1, f2, f6, f7, f11, f13, f14⟩ := hF
  have nk := cC l (show 0 < 2 by decide) a
  have ak := bN l 2 ha
  have nm := cC l (show 0 < 3 by decide) (aF l 2 a).2
  have am := bN l 3 ak
  simp only at hK
  generalize hk : aF l 2 a = k at *
  generalize hm : aF l 3 k.2 = m at *
  have nh := cC l (show 0 < 4 by decide) m.2
  have ah := bN l 4 am
  generalize hh : aF l 4 m.2 = h at *
  have nq := cC l (Om : 0 < m.1 + 1) h.2
  have aq := bN l (m.1 + 1) ah
  generalize hq : aF l (m.1 + 1) h.2 = q at *
  have ar := EH l aq (max m.1 1)
  generalize hr : jW l q.2 (max m.1 1) = r at *
  have ng := cC l (show 0 < 9 by decide) r.2
  have ag := bN l 9 ar
  generalize hg : aF l 9 r.2 = g at *
  have ek : IntKind.i64.wrap (1 + (k.1 : Int)) = ((1 + k.1 : Nat) : Int) := by rw [wrap_i64 Om Om]; omega
  have eh : IntKind.i64.wrap (1 + (h.1 : Int)) = ((1 + h.1 : Nat) : Int) := by rw [wrap_i64 Om Om]; omega
  have em : IntKind.i64.wrap ((m.1 : Int) + 1) = ((m.1 + 1 : Nat) : Int) := cW Om
  have eq' : IntKind.i64.wrap (((1 + k.1 : Nat) : Int) + (q.1 : Int)) = ((1 + k.1 + q.1 : Nat) : Int) := by rw [wrap_i64 Om Om]; omega
  have h0 : aT H (E.boxes v ext w1 w2 w3 w4 w5 w6 a ++ []) L := by rw [bLK]; exact hH
  simp only[go_sem,GQ,f14]
  refine aA (Lb.name [112] i (by decide) Om) rfl ?_
  simp only[go_sem,reduceCtorEq,f0]
  refine dA Lb.toEU T (o := E.o) (n := 2) (a := a) (by decide) ha rfl (h0.at 0 rfl) ?_
  have g1 := h0.oK k.2
  rw [hk]
  simp only[go_sem,γ,reduceCtorEq,ek,f0]
  refine dA Lb.toEU T (o := E.o) (n := 3) (a := k.2) (by decide) ak rfl (g1.at 0 rfl) ?_
  have g2 := g1.oK m.2
  rw [hm]
  rw [PH.set_set] at g2
  simp only[go_sem,reduceCtorEq,f0]
  refine dA Lb.toEU T (o := E.o) (n := 4) (a := m.2) (by decide) am rfl (g2.at 0 rfl) ?_
  have g3 := g2.oK h.2
  rw [hh]
  rw [PH.set_set] at g3
  simp only[go_sem,γ,eh]
  refine aA (Lb.int ((1 + h.1 : Nat) : Int) (by unfold cX; omega)) rfl ?_
  simp only[go_sem,δ,γ,θ,bKI,bKR,or_false,forall_eq,forall_eq_or_imp]
  refine aO fun p hp => ?_
  have g4 := g3.new hp (.rows 17 [YM ([112] ++ bU i) (1 + k.1 : Nat) (m.1 : Nat) 0 .bHP .bHP (.bool false) .bHP .bHP (mkT ((1 + h.1 : Nat) : Int) 1)])
  have hpo : ¬ p = E.o := g4.ne 3 0 rfl rfl (by decide)
  have hop : ¬ E.o = p := fun e => hpo e.symm
  have q2 : ∀ (F2 : PF) (H2 : PH), PAt E mc n i F2 → F2 15 = some (.ptr p 17 0 0) → aT H2 (E.boxes v ext w1 w2 w3 w4 w5 w6 h.2 ++ [(p, .rows 17 [YM ([112] ++ bU i) (1 + k.1 : Nat) (m.1 : Nat) 0 .bHP .bHP (.bool false) .bHP .bHP (mkT ((1 + h.1 : Nat) : Int) 1)])]) L →
      aB.wp C (.seq (.seq (.draw vY) (.draw vZ)) (.seq (.region wA) (.seq (.region wB) rest))) K F2 H2 := by
    intro F2 H2 hF2 f15 hH2
    obtain ⟨f0, f1, f2, f6, f7, f11, f13, f14⟩ := hF2
    have bp := hH2.at 3 rfl
    have hHs : (PH.nil.set p (.rows 17 [YM ([112] ++ bU i) (1 + k.1 : Nat) (m.1 : Nat) 0 .bHP .bHP (.bool false) .bHP .bHP (mkT ((1 + h.1 : Nat) : Int) 1)])).le H2 := PH.aG PH.nil_le bp
    simp only[go_sem]
    refine bL _ (mkS l v) hHs ?_
    simp only[go_sem,δ,γ,θ,reduceCtorEq,vY,f15,bp,em,f0]
    refine qH Lb.toEU T (o := E.o) (n := m.1 + 1) (a := h.2) Om ah rfl (hH2.at 0 rfl) ?_ ?_
    · rw [hq]; exact PH.aG PH.nil_le ((hH2.oK q.2).at 3 rfl)
    rw [hq]
    have g5 := hH2.oK q.2
    simp only[go_sem,γ,eq',f15]
    refine bL .nil dJ PH.nil_le ?_
    simp only[go_sem,δ,γ,θ,vZ,hpo,bp]
    refine ⟨PH.nil_le, ?_⟩
    have g6 : aT _ (E.boxes v ext w1 w2 w3 w4 w5 w6 q.2 ++ [(p, .rows 17 [YM ([112] ++ bU i) (1 + k.1 : Nat) (m.1 : Nat) (1 + k.1 + q.1 : Nat) .bHP .bHP (.bool false) .bHP .bHP (mkT ((1 + h.1 : Nat) : Int) 1)])]) L := g5.set 3 rfl (.rows 17 [YM ([112] ++ bU i) (1 + k.1 : Nat) (m.1 : Nat) (1 + k.1 + q.1 : Nat) .bHP .bHP (.bool false) .bHP .bHP (mkT ((1 + h.1 : Nat) : Int) 1)])
    have bq := g6.at 3 rfl
    simp only[go_sem,δ,γ,θ,reduceCtorEq,wA,f0,f15]
    refine mC (Lb.rep l v T E.o q.2 m.1 Om aq) (g6.at 0 rfl) rfl ?_
    have g7 := g6.oK r.2
    rw [hr]
    simp only[go_sem,δ,γ,θ,hpo,f15]
    have g8 : aT _ (E.boxes v ext w1 w2 w3 w4 w5 w6 r.2 ++ [(p, .rows 17 [YM ([112] ++ bU i) (1 + k.1 : Nat) (m.1 : Nat) (1 + k.1 + q.1 : Nat) .bHP (frs r.1) (.bool false) .bHP .bHP (mkT ((1 + h.1 : Nat) : Int) 1)])]) L := g7.set 3 rfl (.rows 17 [YM ([112] ++ bU i) (1 + k.1 : Nat) (m.1 : Nat) (1 + k.1 + q.1 : Nat) .bHP (frs r.1) (.bool false) .bHP .bHP (mkT ((1 + h.1 : Nat) : Int) 1)])
    simp only[go_sem,reduceCtorEq,wB,f0]
    refine dA Lb.toEU T (o := E.o) (n := 9) (a := r.2) (by decide) ar rfl (g8.at 0 rfl) ?_
    have g9 := g8.oK g.2
    rw [hg]
    simp only[go_sem]
    refine aA (Lb.fmk (g.1 : Int) 8 (by unfold cX; omega) (by unfold cX; omega)) rfl ?_
    unfold uY
    rw [if_neg (by decide)]
    simp only[go_sem,δ,γ,θ,f15,hpo]
    have g10 := g9.set 3 rfl (.rows 17 [pR [.str ([112] ++ bU i), .int .i64 (1 + k.1 : Nat), .int .i64 (m.1 : Nat), .int .i64 (1 + k.1 + q.1 : Nat), .int .i64 0]
        ([.bHP, frs r.1] ++ (mkT (g.1 : Nat) 8).cells ++ (mkT ((1 + h.1 : Nat) : Int) 1).cells) []])
    refine hK p _ _ ⟨by simp only[go_sem,reduceCtorEq,f0], by simp only[go_sem,γ,f1], by simp only[go_sem,γ,f2], by simp only[go_sem,γ,f6], by simp only[go_sem,γ,f7], by simp only[go_sem,γ,f11], by simp only[go_sem,γ,f13], by simp only[go_sem,γ,f14]⟩ (by simp only[go_sem,γ,f15]) g10
  simp only [aB.wp, go_sem] at q2
  simp only[go_sem,δ,γ,bKI,bKR,or_false,forall_eq,forall_eq_or_imp]
  exact q2 _ _ ⟨by simp only[go_sem,reduceCtorEq,f0], by simp only[go_sem,γ,f1], by simp only[go_sem,γ,f2], by simp only[go_sem,γ,f6], by simp only[go_sem,γ,f7], by simp only[go_sem,γ,f11], by simp only[go_sem,γ,f13], by simp only[go_sem,γ,f14]⟩ rfl g4
abbrev FE.lists (w1 w2 w3 w4 w5:PV) (lw:List bX) (md:List cK) (dm:List cH) (dv:List cY) (pr:List (List PV)):List LI:=[(w1,4,gV lw),(w2,4,jO md),(w3,7,jT dm),(w4,3,lO dv),(w5,17,pr)]
theorem bmF {C:Ctx} (Lb:mK C) {l:List Nat} {v:PV} (T:Tp l v) (E:FE) (mc n i a:Nat) (ha:a≤l.length) (hmc:0<mc) (hmc2:mc≤50) (ext w1 w2 w3 w4 w5:PV) (lw:List bX) (md:List cK) (dm:List cH) (dv:List cY) (pr:List (List PV)) (hpr:pr.length≤50)
  (s:List UInt8) (k m q:Int) (r t h:RF) (rl:List RF) (p:Nat) (K:cA) (F:PF) (H:PH)
  (hF:PAt E mc n i F) (f15:F 15=some (.ptr p 17 0 0))
  (hH:aT H (E.boxes v ext w1 w2 w3 w4 w5 .bHP a++[(p,.rows 17 [pR [.str s,.int .i64 k,.int .i64 m,.int .i64 q,.int .i64 0] ([.bHP,frs rl]++t.cells++h.cells) []])]) (FE.lists w1 w2 w3 w4 w5 lw md dm dv pr))
  (hK:(let sp:=pS l a 4; let f:=aF l mc sp.2; let b:=aF l 2 f.2
   let ms:List Int × Nat:=if 1<mc then (if b.1=0 then ([(f.1:Int),1-(f.1:Int)],b.2) else ([(f.1:Int)],b.2)) else ([(f.1:Int)],f.2)
   ∀ (w w5':PV) (F':PF) (H':PH) (B':List BX),PAt E mc n i F'→(∃ o,w=.osl o 1 0 ms.1.length)→aT H' (E.boxes v ext w1 w2 w3 w4 w5' .bHP ms.2++B')
    (FE.lists w1 w2 w3 w4 w5' lw md dm dv (pr++[vK ⟨s,k,m,q,0,(sp.1.getD 0 0),(sp.1.getD 1 0),(sp.1.getD 2 0),(sp.1.getD 3 0),ms.1,rl,t,h⟩ w])++[(w,1,cZ ms.1)])→K .normal F' H')) :
  aB.wp C (.seq (.seq (.region GR) (.block 6 (.loop vX))) (.seq (.region GU) (.seq (.region GW) (.seq (.seq (.region GX) (.cond (.tmp 143) (.region GY) .skip)) (.region wC))))) K F H:=by
 obtain⟨f0,f1,f2,f6,f7,f11,f13,f14⟩:=hF
 simp only[go_sem,GR]
 refine a7A (C:=C) Lb T E mc n i a p ha [(E.o7,flB ext w1 w2 w3 w4 w5 .bHP),(E.o6,flZ)] _ _ _ rfl rfl _ _ H ⟨by simp only[go_sem,reduceCtorEq,f0],by simp only[go_sem,γ,f1],by simp only[go_sem,γ,f2],by simp only[go_sem,γ,f6],by simp only[go_sem,γ,f7],by simp only[go_sem,γ,f11],by simp only[go_sem,γ,f13],by simp only[go_sem,γ,f14]⟩ (by simp only[go_sem,γ,f15]) rfl hH ?_
 clear f0 f1 f2 f6 f7 f11 f13 f14 f15 hH
 intro F1 H1 hF1 f15 hH1
 obtain⟨f0,f1,f2,f6,f7,f11,f13,f14⟩:=hF1
 obtain⟨as',ls⟩:=amO l ha 4
 have hsp:∃ x1 x2 x3 x4,(pS l a 4).1=[x1,x2,x3,x4]:=⟨_,_,_,_,rfl⟩
 simp only at hK
 generalize hspg:pS l a 4=sp at *
 obtain⟨x1,x2,x3,x4,hx⟩:=hsp
 rw[hx] at hK hH1
 replace hH1:aT H1 (E.boxes v ext w1 w2 w3 w4 w5 .bHP sp.2++[(p,.rows 17 [vK ⟨s,k,m,q,0,x1,x2,x3,x4,[],rl,t,h⟩ .bHP])]) (FE.lists w1 w2 w3 w4 w5 lw md dm dv pr):=hH1
 have nf:=cC l hmc sp.2
 have af:=bN l mc as'
 generalize hf:aF l mc sp.2=f at *
 have ab:=bN l 2 af
 generalize hb:aF l 2 f.2=b at *
 have hpo:¬ p=E.o:=hH1.ne 3 0 rfl rfl (by decide)
 have hp7:¬ p=E.o7:=hH1.ne 3 1 rfl rfl (by decide)
 have h7p:¬ E.o7=p:=fun e=>hp7 e.symm
 have h7o:¬ E.o7=E.o:=hH1.ne 1 0 rfl rfl (by decide)
 simp only[go_sem,γ,GU,f0,f11]
 refine dA Lb.toEU T (o:=E.o) (n:=mc) (a:=sp.2) Om as' rfl (hH1.at 0 rfl) ?_
 have h2:=hH1.set 0 rfl (bK v f.2)
 rw[hf]
 simp only[go_sem,υ,γ,η,θ,ζ,GW]
 refine aO fun o ho=>?_
 have h3:=h2.bxD (s:=1) (rows:=cZ [(f.1:Int)]) ho
 have b3:=h3.at 3 rfl
 have ob:¬ p=o:=h3.neL 3 5 rfl rfl rfl
 have o7b:¬ E.o7=o:=h3.neL 1 5 rfl rfl rfl
 have oob:¬ E.o=o:=h3.neL 0 5 rfl rfl rfl
 simp only[bA,if_neg ob,if_neg hpo] at b3
 simp only[go_sem,δ,γ,θ,f15,ob,hpo,b3,bKI,bKR,or_false,forall_eq]
 have h4:=h3.set 3 rfl (.rows 17 [vK ⟨s,k,m,q,0,x1,x2,x3,x4,[],rl,t,h⟩ (.osl o 1 0 1)])
 have fin:∀ (w:PV) (ms:List Int) (a':Nat) (F':PF) (H':PH),PAt E mc n i F'→F' 15=some (.ptr p 17 0 0)→(∃ o,w=.osl o 1 0 ms.length) →
   aT H' (E.boxes v ext w1 w2 w3 w4 w5 .bHP a'++[(p,.rows 17 [vK ⟨s,k,m,q,0,x1,x2,x3,x4,ms,rl,t,h⟩ w])]) (FE.lists w1 w2 w3 w4 w5 lw md dm dv pr++[(w,1,cZ ms)]) →
   (∀ (w5':PV) (F2:PF) (H2:PH),PAt E mc n i F2→aT H2 (E.boxes v ext w1 w2 w3 w4 w5' .bHP a'++[(p,.rows 17 [vK ⟨s,k,m,q,0,x1,x2,x3,x4,ms,rl,t,h⟩ w])]) (FE.lists w1 w2 w3 w4 w5' lw md dm dv (pr++[vK ⟨s,k,m,q,0,x1,x2,x3,x4,ms,rl,t,h⟩ w])++[(w,1,cZ ms)])→K .normal F2 H2) →
   wpOps C wC (K .normal) F' H':=by
  intro w ms a' F' H' hF' f15 hw hH' hK'
  obtain⟨wo,rfl⟩:=hw
  obtain⟨f0,f1,f2,f6,f7,f11,f13,f14⟩:=hF'
  have c1:=hH'.at 1 rfl
  have c3:=hH'.at 3 rfl
  have h17:(1:Nat)*17≤16777216:=by decide
  simp only[go_sem,υ,δ,γ,η,θ,ζ,wC,f7,f15,c1,c3,h17,bKI,bKR,or_false,forall_eq,forall_eq_or_imp]
  refine hH'.append 4 (src:=[vK ⟨s,k,m,q,0,x1,x2,x3,x4,ms,rl,t,h⟩ (.osl wo 1 0 ms.length)]) rfl rfl (by unfold roomFor; simp only[bKD,maxLen]; omega) fun w5' H2 h5 hw5=>?_
  obtain⟨q5,rfl⟩:=hw5 (by simp)
  have c2:=h5.at 1 rfl
  simp only[go_sem,δ,θ,c2,bKI,bKR,or_false,forall_eq]
  exact hK' _ _ _ ⟨by simp only[go_sem,reduceCtorEq,f0],by simp only[go_sem,γ,f1],by simp only[go_sem,γ,f2],by simp only[go_sem,γ,f6],by simp only[go_sem,γ,f7],by simp only[go_sem,γ,f11],by simp only[go_sem,γ,f13],by simp only[go_sem,γ,f14]⟩ (h5.set 1 rfl (flB ext w1 w2 w3 w4 _ .bHP))
 simp only[go_sem,γ,GX,f11]
 by_cases c:1<mc
 ·have c':(mc:Int)>1:=by omega
  simp only[go_sem,γ,reduceCtorEq,c',f0]
  refine dA Lb.toEU T (o:=E.o) (n:=2) (a:=f.2) (by decide) af rfl (h4.at 0 rfl) ?_
  have h5:=h4.set 0 rfl (bK v b.2)
  rw[hb]
  by_cases c2:b.1=0
  ·have c2':((b.1:Nat):Int)=0:=by omega
   rw[if_pos c,if_pos c2] at hK
   have e1:IntKind.i64.wrap (1-(f.1:Int))=1-(f.1:Int):=wrap_i64 Om Om
   have c3:=h5.at 3 rfl
   have h11:(1:Nat)*1≤16777216:=by decide
   simp only[go_sem,υ,δ,γ,η,θ,ζ,bP c2',GY,f15,hpo,e1,h11]
   refine h5.append 5 (src:=[[.int .i64 (1-(f.1:Int))]]) rfl rfl (by unfold roomFor; simp only[cZ,bJT,bKD,maxLen]; omega) fun w' H2 h6 hw=>?_
   obtain⟨q2,rfl⟩:=hw (by simp)
   have c4:=h6.at 3 rfl
   simp only[go_sem,δ,θ,c4,f15,bKI,bKR,or_false,forall_eq]
   have h7:=h6.set 3 rfl (.rows 17 [vK ⟨s,k,m,q,0,x1,x2,x3,x4,[(f.1:Int),1-(f.1:Int)],rl,t,h⟩ (.osl q2 1 0 2)])
   exact fin (.osl q2 1 0 2) [(f.1:Int),1-(f.1:Int)] b.2 _ _ ⟨by simp only[go_sem,reduceCtorEq,f0],by simp only[go_sem,γ,f1],by simp only[go_sem,γ,f2],by simp only[go_sem,γ,f6],by simp only[go_sem,γ,f7],by simp only[go_sem,γ,f11],by simp only[go_sem,γ,f13],by simp only[go_sem,γ,f14]⟩ (by simp only[go_sem,γ,f15]) ⟨q2,rfl⟩ h7 (fun w5' F2 H2 g1 g2=>hK _ w5' F2 H2 _ g1 ⟨q2,rfl⟩ g2)
  ·have c2':¬ ((b.1:Nat):Int)=0:=by omega
   rw[if_pos c,if_neg c2] at hK
   simp only[go_sem,γ,bF c2']
   exact fin (.osl o 1 0 1) [(f.1:Int)] b.2 _ _ ⟨by simp only[go_sem,reduceCtorEq,f0],by simp only[go_sem,γ,f1],by simp only[go_sem,γ,f2],by simp only[go_sem,γ,f6],by simp only[go_sem,γ,f7],by simp only[go_sem,γ,f11],by simp only[go_sem,γ,f13],by simp only[go_sem,γ,f14]⟩ (by simp only[go_sem,γ,f15]) ⟨o,rfl⟩ h5 (fun w5' F2 H2 g1 g2=>hK _ w5' F2 H2 _ g1 ⟨o,rfl⟩ g2)
 ·have c':¬ (mc:Int)>1:=by omega
  rw[if_neg c] at hK
  simp only[go_sem,γ,reduceCtorEq,c']
  exact fin (.osl o 1 0 1) [(f.1:Int)] f.2 _ _ ⟨by simp only[go_sem,reduceCtorEq,f0],by simp only[go_sem,γ,f1],by simp only[go_sem,γ,f2],by simp only[go_sem,γ,f6],by simp only[go_sem,γ,f7],by simp only[go_sem,γ,f11],by simp only[go_sem,γ,f13],by simp only[go_sem,γ,f14]⟩ (by simp only[go_sem,γ,f15]) ⟨o,rfl⟩ h4 (fun w5' F2 H2 g1 g2=>hK _ w5' F2 H2 _ g1 ⟨o,rfl⟩ g2)
abbrev lG (l:List cJ):List (List PV):=l.map cJ.cells
abbrev nK (l:List eM):List (List PV):=l.map eM.cells
theorem pH {rows:List (List PV)} (h:∀ r∈rows,∀ c∈r,c.oid=none):Flat rows:=Flat.of fun r hr c hc q s rs=>abP (h r hr c hc) q s rs
theorem aWP (l:List bX):Flat (gV l):=pH fun r hr c hc=>by
 obtain⟨x,_,rfl⟩:=bLA.1 hr
 simp only[bX.cells,bKI,bKR,or_false] at hc
 rcases hc with rfl | rfl | rfl | rfl<;>rfl
theorem aWQ (l:List cK):Flat (jO l):=pH fun r hr c hc=>by
 obtain⟨x,_,rfl⟩:=bLA.1 hr
 simp only[cK.cells,bKI,bKR,or_false] at hc
 rcases hc with rfl | rfl | rfl | rfl<;>rfl
theorem aTX (l:List cH):Flat (jT l):=pH fun r hr c hc=>by
 obtain⟨x,_,rfl⟩:=bLA.1 hr
 simp only[cH.cells,bKI,bKR,or_false] at hc
 rcases hc with rfl | rfl | rfl | rfl | rfl | rfl | rfl<;>rfl
theorem aTZ (l:List cY):Flat (lO l):=pH fun r hr c hc=>by
 obtain⟨x,_,rfl⟩:=bLA.1 hr
 simp only[cY.cells,bKI,bKR,or_false] at hc
 rcases hc with rfl | rfl | rfl<;>rfl
theorem bvM (l:List eM):Flat (nK l):=pH fun r hr c hc=>by
 obtain⟨x,_,rfl⟩:=bLA.1 hr
 simp only[eM.cells,bKI,bKR,or_false] at hc
 rcases hc with rfl | rfl<;>rfl
theorem aZD (l:List cJ):Flat (lG l):=pH fun r hr c hc=>by
 obtain⟨x,_,rfl⟩:=bLA.1 hr
 simp only[cJ.cells,bKI,bKR,or_false] at hc
 rcases hc with rfl | rfl | rfl | rfl | rfl | rfl | rfl | rfl | rfl | rfl | rfl | rfl | rfl | rfl | rfl | rfl | rfl<;>rfl
theorem a8R (l:List Nat) (mc i:Nat) {a:Nat} (h:a≤l.length):(lL l mc i a).2≤l.length:=by
 have h1:=bN l 9 (EH l (bN l ((aF l 3 (aF l 2 a).2).1+1) (bN l 4 (bN l 3 (bN l 2 h)))) (max (aF l 3 (aF l 2 a).2).1 1))
 have h2:=bN l mc (sM l (sM l (sM l (sM l h1))))
 unfold lL
 simp only
 split
 ·split
  ·exact bN l 2 h2
  ·exact bN l 2 h2
 ·exact h2
theorem yJ (l:List Nat) (mc:Nat) {a:Nat} (h:a≤l.length):∀ k,(dK l mc a k).2≤l.length∧(dK l mc a k).1.length=k
 | 0=>⟨h,rfl⟩
 | k+1=>by
  obtain⟨h1,h2⟩:=yJ l mc h k
  exact⟨a8R l mc k h1,by simp only[dK,bJX,bKD,h2]⟩
theorem VH (l:List Nat) (pc:Nat) {a:Nat} (h:a≤l.length):∀ k,(eE l pc a k).2≤l.length∧(eE l pc a k).1.length=k
 | 0=>⟨h,rfl⟩
 | k+1=>by
  obtain⟨h1,h2⟩:=VH l pc h k
  exact⟨bN l pc h1,by simp only[eE,bJX,bKD,h2]⟩
theorem aGK {C:Ctx} (Lb:mK C) {l:List Nat} {v:PV} (T:Tp l v) (E:FE) (mc n a:Nat) (hn:n≤10) (hmc:0<mc) (hmc2:mc≤50) (ha:a≤l.length) (x0:Int) (w1 w2 w3 w4:PV) (lw:List bX) (md:List cK) (dm:List cH) (dv:List cY) (K:cA) (F:PF) (H:PH)
  (hF:PAt E mc n 0 F) (hH:aT H (E.boxes v (.int .i64 x0) w1 w2 w3 w4 .bHP .bHP a) [(w1,4,gV lw),(w2,4,jO md),(w3,7,jT dm),(w4,3,lO dv)])
  (hK:∀ w5 F' H',(fK E).le F'→aT H' (E.boxes v (.int .i64 x0) w1 w2 w3 w4 w5 .bHP (dK l mc a n).2) (FE.lists w1 w2 w3 w4 w5 lw md dm dv (lG (dK l mc a n).1))→K (.exit 4) F' H') :
  aB.wp C (.loop GO) K F H:=by
 refine wp_loop (α:=Nat × PV × PH) (fun t=>alF E mc n t.1) (fun t=>t.2.2) (fun t=>t.1≤n∧aT t.2.2 (E.boxes v (.int .i64 x0) w1 w2 w3 w4 t.2.1 .bHP (dK l mc a t.1).2) (FE.lists w1 w2 w3 w4 t.2.1 lw md dm dv (lG (dK l mc a t.1).1))) (fun t=>n-t.1) (0,.bHP,H) ⟨bKA _,hH.qM 17⟩ ?_ PH.le_refl ?_
 ·unfold alF fK
  (repeat' (first|exact PF.nil_le|refine PF.aG ?_ ?_))<;>first|(simp only[go_sem,hF.f0,hF.f1,hF.f2,hF.f6,hF.f7,hF.f11,hF.f13,hF.f14]<;>rfl)|rfl
 rintro⟨i,w5,H0⟩ ⟨hi,hH⟩
 simp only at hi hH ⊢
 obtain⟨k1,k2⟩:=yJ l mc ha i
 have bHW:dK l mc a (i+1)=((dK l mc a i).1++[(lL l mc i (dK l mc a i).2).1],(lL l mc i (dK l mc a i).2).2):=rfl
 simp only[go_sem,γ,reduceCtorEq,GO,acZ,alF,fK]
 by_cases hlt:i<n
 ·have bHV:(i:Int)<(n:Nat):=by omega
  generalize hg:dK l mc a i=g at *
  simp only[go_sem,bHV]
  refine bmE (C:=C) Lb T E mc n i g.2 k1 Om (.int .i64 x0) w1 w2 w3 w4 w5 .bHP _ _ _ _ H0 ⟨by simp only[go_sem,reduceCtorEq],by simp only[go_sem,γ,reduceCtorEq],by simp only[go_sem,γ,reduceCtorEq],by simp only[go_sem,γ,reduceCtorEq],by simp only[go_sem,γ,reduceCtorEq],by simp only[go_sem,γ,reduceCtorEq],by simp only[go_sem,γ,reduceCtorEq],by simp only[go_sem,γ,reduceCtorEq]⟩ hH ?_
  intro p F1 H1 hF1 f15 hH1
  simp only at hH1
  have hpT:lL l mc i g.2=_:=rfl
  have hgle:=bN l 9 (EH l (bN l ((aF l 3 (aF l 2 g.2).2).1+1) (bN l 4 (bN l 3 (bN l 2 k1)))) (max (aF l 3 (aF l 2 g.2).2).1 1))
  refine bmF (C:=C) Lb T E mc n i _ hgle hmc hmc2 (.int .i64 x0) w1 w2 w3 w4 w5 lw md dm dv _ (by rw[bJT,k2]; omega) _ _ _ _ (mkT 0 1) _ _ _ p _ F1 H1 hF1 f15 hH1 ?_
  intro sp f b ms w w5' F2 H2 B' hF2 hw hH2
  obtain⟨o,rfl⟩:=hw
  have hP:lL l mc i g.2=(⟨[112]++bU i,(1+(aF l 2 g.2).1:Nat),((aF l 3 (aF l 2 g.2).2).1:Nat),(1+(aF l 2 g.2).1+(aF l ((aF l 3 (aF l 2 g.2).2).1+1) (aF l 4 (aF l 3 (aF l 2 g.2).2).2).2).1:Nat),0,sp.1.getD 0 0,sp.1.getD 1 0,sp.1.getD 2 0,sp.1.getD 3 0,ms.1,(jW l (aF l ((aF l 3 (aF l 2 g.2).2).1+1) (aF l 4 (aF l 3 (aF l 2 g.2).2).2).2).2 (max (aF l 3 (aF l 2 g.2).2).1 1)).1,mkT ((aF l 9 (jW l (aF l ((aF l 3 (aF l 2 g.2).2).1+1) (aF l 4 (aF l 3 (aF l 2 g.2).2).2).2).2 (max (aF l 3 (aF l 2 g.2).2).1 1)).2).1:Nat) 8,mkT ((1+(aF l 4 (aF l 3 (aF l 2 g.2).2).2).1:Nat):Int) 1⟩,ms.2):=rfl
  rw[hP] at bHW
  generalize hPP:(⟨[112]++bU i,(1+(aF l 2 g.2).1:Nat),((aF l 3 (aF l 2 g.2).2).1:Nat),(1+(aF l 2 g.2).1+(aF l ((aF l 3 (aF l 2 g.2).2).1+1) (aF l 4 (aF l 3 (aF l 2 g.2).2).2).2).1:Nat),0,sp.1.getD 0 0,sp.1.getD 1 0,sp.1.getD 2 0,sp.1.getD 3 0,ms.1,(jW l (aF l ((aF l 3 (aF l 2 g.2).2).1+1) (aF l 4 (aF l 3 (aF l 2 g.2).2).2).2).2 (max (aF l 3 (aF l 2 g.2).2).1 1)).1,mkT ((aF l 9 (jW l (aF l ((aF l 3 (aF l 2 g.2).2).1+1) (aF l 4 (aF l 3 (aF l 2 g.2).2).2).2).2 (max (aF l 3 (aF l 2 g.2).2).1 1)).2).1:Nat) 8,mkT ((1+(aF l 4 (aF l 3 (aF l 2 g.2).2).2).1:Nat):Int) 1⟩:cJ)=P at *
  have hPm:P.bHO=ms.1:=by rw[← hPP]
  obtain⟨rs,z1,z2,z3,z4,z5⟩:=hH2.frz 5 rfl
  have y1:=z4 0 _ (by decide) rfl
  have y2:=z4 1 _ (by decide) rfl
  have y3:=z4 2 _ (by decide) rfl
  have y4:=z4 3 _ (by decide) rfl
  have y5:=z4 4 _ (by decide) rfl
  simp only at y1 y2 y3 y4 y5
  have y0:=T.frz o 1 rs
  obtain⟨f0,f1,f2,f6,f7,f11,f13,f14⟩:=hF2
  simp only[go_sem,γ,adD,f14,ws i]
  refine aoX (i+1,w5',H2.frz o 1 rs) z1 ⟨hlt,?_⟩ (by simp only; omega) ?_ PH.le_refl
  ·rw[bHW]
   have eB:(E.boxes v (.int .i64 x0) w1 w2 w3 w4 w5' .bHP ms.2).map (fun b=>(b.1,b.2.frz o 1 rs))=E.boxes v (.int .i64 x0) w1 w2 w3 w4 w5' .bHP ms.2:=by
    show [(E.o,cI.rows 2 [[PV.dT o 1 rs v,.int .i64 ms.2]]),(E.o7,cI.rows 7 [[.int .i64 x0,PV.dT o 1 rs w1,PV.dT o 1 rs w2,PV.dT o 1 rs w3,PV.dT o 1 rs w4,PV.dT o 1 rs w5',.bHP]]),(E.o6,flZ)]=_
    rw[y0,y1,y2,y3,y4,y5]
   have e5:(lG g.1++[vK P (.osl o 1 0 ms.1.length)]).map (fun r=>r.map (PV.dT o 1 rs))=lG (g.1++[P]):=by
    rw[bLT,aZD]
    have:([vK P (.osl o 1 0 ms.1.length)]:List (List PV)).map (fun r=>r.map (PV.dT o 1 rs))=[P.cells]:=by
     show [[PV.str P.name,.int .i64 P.k,.int .i64 P.m,.int .i64 P.bIT,.int .i64 P.s0,.int .i64 P.s1,.int .i64 P.s2,.int .i64 P.s3,.int .i64 P.s4,PV.dT o 1 rs (.osl o 1 0 ms.1.length),frs P.repair,.bool P.target.neg,aJ P.target.num,aJ P.target.den,.bool P.bIB.neg,aJ P.bIB.num,aJ P.bIB.den]]=_
     rw[z2,← hPm]
     rfl
    rw[this]
    simp[lG]
   have eL:(FE.lists w1 w2 w3 w4 w5' lw md dm dv (lG g.1++[vK P (.osl o 1 0 ms.1.length)])).map (fun x=>(x.1,x.2.1,x.2.2.map fun r=>r.map (PV.dT o 1 rs)))=FE.lists w1 w2 w3 w4 w5' lw md dm dv (lG (g.1++[P])):=by
    show [(w1,4,(gV lw).map _),(w2,4,(jO md).map _),(w3,7,(jT dm).map _),(w4,3,(lO dv).map _),(w5',17,(lG g.1++[vK P (.osl o 1 0 ms.1.length)]).map _)]=_
    rw[aWP,aWQ,aTX,aTZ,e5]
   rw[← eB,← eL]
   exact z5.sub (by rw[bLT]; exact List.sublist_append_left ..) (bLR.refl _)
  ·(repeat' (first|exact PF.nil_le|refine PF.aG ?_ ?_))<;>first|(simp only[go_sem,γ,reduceCtorEq,f0,f1,f2,f6,f7,f11,f13]<;>rfl)|rfl
 ·have bHV:¬ (i:Int)<(n:Nat):=by omega
  have:i=n:=by omega
  subst this
  simp only[go_sem,bHV]
  exact hK w5 _ _ (RS Sq Sq Sq Sq Sq) hH
theorem aSK {C:Ctx} (Lb:mK C) {l:List Nat} {v:PV} (T:Tp l v) (E:FE) (pc n a:Nat) (hn:n≤60) (hpc:pc≤50) (ha:a≤l.length) (ext w1 w2 w3 w4 w5:PV) (pr:List cJ) (hpr:pr.length=pc) (L:List LI) (K:cA) (F:PF) (H:PH)
  (hF:(((fK E).set 18 (.int .i64 n)).set 19 (.int .i64 0)).le F) (hH:aT H (E.boxes v ext w1 w2 w3 w4 w5 .bHP a) ((w5,17,lG pr)::L))
  (hK:∀ w6 F' H',(fK E).le F'→aT H' (E.boxes v ext w1 w2 w3 w4 w5 w6 (eE l pc a n).2) ((w5,17,lG pr)::L++[(w6,2,nK (eE l pc a n).1)])→K (.exit 8) F' H') :
  aB.wp C (.loop GP) K F H:=by
 refine wp_loop (α:=Nat × PV × PH) (fun t=>((fK E).set 18 (.int .i64 n)).set 19 (.int .i64 t.1)) (fun t=>t.2.2) (fun t=>t.1≤n∧aT t.2.2 (E.boxes v ext w1 w2 w3 w4 w5 t.2.1 (eE l pc a t.1).2) ((w5,17,lG pr)::L++[(t.2.1,2,nK (eE l pc a t.1).1)])) (fun t=>n-t.1) (0,.bHP,H) ⟨bKA _,hH.qM 2⟩ hF PH.le_refl ?_
 rintro⟨i,w6,H0⟩ ⟨hi,hH⟩
 simp only at hi hH ⊢
 obtain⟨k1,k2⟩:=VH l pc ha i
 have bHW:eE l pc a (i+1)=((eE l pc a i).1++[⟨[118]++bU i,((aF l pc (eE l pc a i).2).1:Nat)⟩],(aF l pc (eE l pc a i).2).2):=rfl
 simp only[go_sem,γ,reduceCtorEq,GP,adG,fK]
 by_cases hlt:i<n
 ·have bHV:(i:Int)<(n:Nat):=by omega
  generalize hg:eE l pc a i=g at *
  have h1:=hH.set 0 rfl (bK v (aF l pc g.2).2)
  generalize hz0:aF l pc g.2=z at *
  have b1:=hH.at 1 rfl
  have lw:=(hH.own 0 rfl).vH
  rw[bJT,hpr] at lw
  have hHs:(PH.nil.set E.o7 (flB ext w1 w2 w3 w4 w5 w6)).le H0:=PH.aG PH.nil_le b1
  simp only[go_sem,bHV]
  refine bL (PH.nil.set E.o7 (flB ext w1 w2 w3 w4 w5 w6)) (mkS l v) hHs ?_
  simp only[go_sem,δ,γ,reduceCtorEq,adH]
  refine EX Lb.torM (s:=[118]) (n:=i) (by decide) Om rfl hHs ?_
  simp only[go_sem,δ,γ,θ,reduceCtorEq,lw]
  refine qH Lb.toEU T (o:=E.o) (n:=pc) (a:=g.2) Om k1 rfl (hH.at 0 rfl) ?_ ?_
  ·rw[hz0]; exact PH.aG PH.nil_le (h1.at 1 rfl)
  rw[hz0]
  have h12:(1:Nat)*2≤16777216:=by decide
  simp only[go_sem,υ,δ,γ,η,θ,ζ,reduceCtorEq,h12,bKI,bKR,or_false,forall_eq,forall_eq_or_imp]
  refine h1.append (v:=w6) (s:=2) (rows:=nK g.1) (L.length+1) (src:=[(⟨[118]++bU i,(z.1:Nat)⟩:eM).cells]) (by simp) rfl (by unfold roomFor; rw[bJT]; simp only[bKD,maxLen]; omega) fun w' H2 h5 hw=>?_
  obtain⟨q,rfl⟩:=hw (by simp)
  rw[show ((w5,17,lG pr)::L++[(w6,2,nK g.1)])=((w5,17,lG pr)::L)++[(w6,2,nK g.1)] from rfl,bMV _ _ (by simp),show L.length+1-((w5,17,lG pr)::L).length=0 by simp] at h5
  have b2:=h5.at 1 rfl
  refine⟨PH.aG PH.nil_le b2,?_⟩
  refine bL .nil dJ PH.nil_le ?_
  simp only[go_sem,δ,γ,reduceCtorEq,adI,b2,bKI,bKR,or_false,forall_eq]
  have h6:=h5.set 1 rfl (flB ext w1 w2 w3 w4 w5 (.osl q 2 0 (nK g.1++[(⟨[118]++bU i,(z.1:Nat)⟩:eM).cells]).length))
  refine⟨PH.nil_le,?_⟩
  simp only[go_sem,γ,reduceCtorEq,adJ,ws i]
  refine aC (i+1,.osl q 2 0 (nK g.1++[(⟨[118]++bU i,(z.1:Nat)⟩:eM).cells]).length,_) ⟨hlt,?_⟩ (by simp only; omega) ?_ PH.le_refl
  ·rw[bHW]
   have e:nK (g.1++[⟨[118]++bU i,(z.1:Nat)⟩])=nK g.1++[(⟨[118]++bU i,(z.1:Nat)⟩:eM).cells]:=by simp[nK]
   simp only
   rw[e]
   exact h6
  ·exact Lq
 ·have bHV:¬ (i:Int)<(n:Nat):=by omega
  have:i=n:=by omega
  subst this
  simp only[go_sem,bHV]
  exact hK w6 _ _ (RS rfl rfl rfl rfl rfl) hH
def LL (l:List Nat) (v:PV) (o bHN bHQ a:Nat) (r:PV) (H:PH):Prop:=Co r (.agg (jA l bHN bHQ a).1.cells)∧H=PH.nil.set o (bK v (jA l bHN bHQ a).2)
structure aAB (C:Ctx):Prop extends mK C where
 grow:∀ (l:List Nat) (v:PV),Tp l v→∀ (mc bHN:Nat),0<mc→mc≤1000→bHN≤60→aaF C l v mc bHN 4
theorem bdZ {C:Ctx} (Lb:aAB C) {l:List Nat} {v:PV} (T:Tp l v) (o bHN bHQ a:Nat) (hdr:bHN≤60) (hvo:bHQ≤50) (ha:a≤l.length) :
  BI.wp C (aR acO.res (LL l v o bHN bHQ a)) (PF.args [.ptr o 2 0 0,.int .i64 bHN,.int .i64 bHQ]) (PH.nil.set o (bK v a)):=by
 have hT:jA l bHN bHQ a=jA l bHN bHQ a:=rfl
 conv at hT=>rhs; unfold jA
 dsimp only at hT
 have hR:∀ r H,LL l v o bHN bHQ a r H↔Co r (.agg (jA l bHN bHQ a).1.cells)∧H=PH.nil.set o (bK v (jA l bHN bHQ a).2):=fun _ _=>Iff.rfl
 have ne:=cC l (show 0<2 by decide) a
 have ae:=bN l 2 ha
 generalize he:aF l 2 a=e at *
 have nlw:=cC l (show 0<2 by decide) e.2
 have alw:=bN l 2 ae
 generalize hlw:aF l 2 e.2=lw at *
 obtain⟨alaws,llaws⟩:=WX l alw (1+lw.1)
 generalize hlaws:gY l lw.2 (1+lw.1)=bHY at *
 have nmd:=cC l (show 0<2 by decide) bHY.2
 have amd:=bN l 2 alaws
 generalize hmd:aF l 2 bHY.2=md at *
 obtain⟨amodels,lmodels⟩:=HF l (1+lw.1) amd (1+md.1)
 generalize hmodels:eD l (1+lw.1) md.2 (1+md.1)=bHO at *
 have hG0:GOk l bHN ⟨[mH],[],bHO.2⟩:=⟨by simp,bKA _,amodels⟩
 obtain⟨hG,-⟩:=WG (mc:=1+md.1) 4 0 hG0
 generalize hg:eK l (1+md.1) bHN 4 0 ⟨[mH],[],bHO.2⟩=g at *
 have npl:=cC l (show 0<2 by decide) g.a
 have apl:=bN l 2 hG.a
 generalize hpl:aF l 2 g.a=pl at *
 obtain⟨apols,lpols⟩:=yJ l (1+md.1) apl (1+pl.1)
 generalize hpols:dK l (1+md.1) pl.2 (1+pl.1)=pols at *
 have nvo:=cC l (Om:0<bHQ+1) pols.2
 have avo:=bN l (bHQ+1) apols
 generalize hvo':aF l (bHQ+1) pols.2=vo at *
 generalize hvols:eE l (1+pl.1) vo.2 vo.1=vols at *
 have ee:IntKind.i64.wrap (1+(e.1:Int))=((1+e.1:Nat):Int):=by rw[wrap_i64 Om Om]; omega
 have elw:IntKind.i64.wrap (1+(lw.1:Int))=((1+lw.1:Nat):Int):=by rw[wrap_i64 Om Om]; omega
 have emd:IntKind.i64.wrap (1+(md.1:Int))=((1+md.1:Nat):Int):=by rw[wrap_i64 Om Om]; omega
 have epl:IntKind.i64.wrap (1+(pl.1:Int))=((1+pl.1:Nat):Int):=by rw[wrap_i64 Om Om]; omega
 have evo:IntKind.i64.wrap ((bHQ:Int)+1)=((bHQ+1:Nat):Int):=cW Om
 have h0:aT (PH.nil.set o (bK v a)) [(o,bK v a)] []:=aT.nil.new (H:=PH.nil) rfl (bK v a)
 simp only[go_sem,δ,BI,apI,acO]
 refine aO fun o6 ho6=>?_
 have h1:=h0.new ho6 flZ
 simp only[go_sem,reduceCtorEq,apJ]
 refine dA Lb.toEU T (o:=o) (n:=2) (a:=a) (by decide) ha rfl (h1.at 0 rfl) ?_
 have h2:=h1.set 0 rfl (bK v e.2)
 rw[he]
 simp only[go_sem,δ,γ,θ,ee]
 refine aO fun o7 ho7=>?_
 have h3:=h2.new ho7 (flB (.int .i64 (1+e.1:Nat)) .bHP .bHP .bHP .bHP .bHP .bHP)
 simp only[go_sem,δ,γ,reduceCtorEq,apK,bKI,bKR,or_false,forall_eq,forall_eq_or_imp]
 refine dA Lb.toEU T (o:=o) (n:=2) (a:=e.2) (by decide) ae rfl (h3.at 0 rfl) ?_
 have h4:=h3.set 0 rfl (bK v lw.2)
 rw[hlw]
 have h5:=h4.perm (B':=FE.boxes ⟨o,o6,o7,bHN,bHQ⟩ v (.int .i64 (1+e.1:Nat)) .bHP .bHP .bHP .bHP .bHP .bHP lw.2) (L':=[]) (List.Perm.cons _ (List.Perm.swap _ _ _)) (List.Perm.refl _)
 obtain⟨E,hE⟩:∃ E:FE,E=⟨o,o6,o7,bHN,bHQ⟩:=⟨_,rfl⟩
 rw[← hE] at h5
 simp only[go_sem,γ,elw,apL]
 refine bmD (C:=C) Lb.tomK T E (1+lw.1) lw.2 Om alw _ _ _ _ ?_ h5 ?_
 ·rw[hE]
  unfold fK
  exact Lq
 clear h5 h4 h3 h2 h1 h0 ho6 ho7
 intro w1 F1 H1 hF1 h1
 rw[hlaws] at h1
 have f0:F1 0=some (.ptr o 2 0 0):=hF1 0 _ (by rw[hE]; unfold fK; simp only[go_sem,reduceCtorEq])
 have f1:F1 1=some (.int .i64 bHN):=hF1 1 _ (by rw[hE]; unfold fK; simp only[go_sem,γ,reduceCtorEq])
 have f2:F1 2=some (.int .i64 bHQ):=hF1 2 _ (by rw[hE]; unfold fK; simp only[go_sem,γ,reduceCtorEq])
 have f6:F1 6=some (.ptr o6 7 0 0):=hF1 6 _ (by rw[hE]; unfold fK; simp only[go_sem,γ,reduceCtorEq])
 have f7:F1 7=some (.ptr o7 7 0 0):=hF1 7 _ (by rw[hE]; unfold fK; simp only[go_sem,γ,reduceCtorEq])
 have q0:=h1.at 0 rfl
 rw[hE] at q0
 simp only[go_sem,acP,f0]
 refine dA Lb.toEU T (o:=o) (n:=2) (a:=bHY.2) (by decide) alaws rfl q0 ?_
 have h2:=h1.set 0 rfl (bK v md.2)
 rw[hmd]
 simp only[go_sem,γ,emd,acQ]
 refine a6Z (C:=C) Lb.tomK T E (1+md.1) md.2 (1+lw.1) Om Om amd (.int .i64 (1+e.1:Nat)) w1 bHY.1 llaws _ _ _ ?_ (by rw[hE] at h2 ⊢; exact h2) ?_
 ·rw[hE]
  unfold fK
  exact Lq
 clear q0 h2 h1 f0 f1 f2 f6 f7 hF1
 intro w2 F2 H2 hF2 f11 h2
 rw[hmodels] at h2
 have f0:F2 0=some (.ptr o 2 0 0):=hF2 0 _ (by rw[hE]; unfold fK; simp only[go_sem,reduceCtorEq])
 have f1:F2 1=some (.int .i64 bHN):=hF2 1 _ (by rw[hE]; unfold fK; simp only[go_sem,γ,reduceCtorEq])
 have f2:F2 2=some (.int .i64 bHQ):=hF2 2 _ (by rw[hE]; unfold fK; simp only[go_sem,γ,reduceCtorEq])
 have f6:F2 6=some (.ptr o6 7 0 0):=hF2 6 _ (by rw[hE]; unfold fK; simp only[go_sem,γ,reduceCtorEq])
 have f7:F2 7=some (.ptr o7 7 0 0):=hF2 7 _ (by rw[hE]; unfold fK; simp only[go_sem,γ,reduceCtorEq])
 obtain⟨qm,hqm⟩:=(h2.own 1 rfl).one (by rw[bJT]; omega)
 rw[bJT,lmodels] at hqm
 subst hqm
 have h17:(1:Nat)*7≤16777216:=by decide
 simp only[go_sem,ο,acV]
 refine aA (Lb.int 0 (by unfold cX; omega)) rfl ?_
 simp only[go_sem,ο,υ,δ,γ,η,θ,ζ,bKI,bKR,or_false,forall_eq,forall_eq_or_imp,h17]
 refine aO fun od hod=>?_
 have h3:=h2.bxD (s:=7) (rows:=jT [mH]) hod
 have b7:=h2.at 1 rfl
 rw[hE] at b7
 have n7:¬ o7=od:=by
  have:=h3.neL 1 2 rfl rfl rfl
  rw[hE] at this; exact this
 simp only[go_sem,ο,δ,γ,θ,f7,b7,n7,bKI,bKR,or_false,forall_eq]
 have h4:=(h3.set 1 rfl (flB (.int .i64 (1+e.1:Nat)) w1 (.osl qm 4 0 (1+md.1)) (.osl od 7 0 1) .bHP .bHP .bHP)).qM 3
 rw[hE] at h4
 have h5:=h4.perm (B':=(GE.mk o o7 qm (.int .i64 (1+e.1:Nat)) w1 .bHP .bHP).boxes v (1+md.1) (.osl od 7 0 1) .bHP bHO.2++[(o6,flZ)]) (L':=lF ⟨[mH],[],bHO.2⟩ (.osl od 7 0 1) .bHP++[(w1,4,gV bHY.1),(.osl qm 4 0 (1+md.1),4,jO bHO.1)]) (List.Perm.refl _)
  (List.perm_append_comm (l₁:=[(w1,4,gV bHY.1),(.osl qm 4 0 (1+md.1),4,jO bHO.1)]) (l₂:=lF ⟨[mH],[],bHO.2⟩ (.osl od 7 0 1) .bHP))
 simp only[go_sem,ο,γ,reduceCtorEq,acW,f0,f1,f7]
 refine DK h5 (fun H0 hH0=>Lb.grow l v T (1+md.1) bHN Om Om hdr (GE.mk o o7 qm (.int .i64 (1+e.1:Nat)) w1 .bHP .bHP) (.osl od 7 0 1) .bHP ⟨[mH],[],bHO.2⟩ 0 mH hG0 rfl rfl H0 hH0) (by simp only[go_sem,ο,γ,f0,f1,f7]; rfl) ?_
 rintro r B' L' H3 ⟨rfl,w3,w4,rfl,rfl⟩ h6
 rw[hg] at h6
 have h7:=h6.perm (B':=E.boxes v (.int .i64 (1+e.1:Nat)) w1 (.osl qm 4 0 (1+md.1)) w3 w4 .bHP .bHP g.a) (L':=[(w1,4,gV bHY.1),(.osl qm 4 0 (1+md.1),4,jO bHO.1),(w3,7,jT g.bIA),(w4,3,lO g.bIO)]) (by rw[hE]; exact List.Perm.refl _)
  (List.perm_append_comm (l₁:=lF g w3 w4) (l₂:=[(w1,4,gV bHY.1),(.osl qm 4 0 (1+md.1),4,jO bHO.1)]))
 have q0:=h7.at 0 rfl
 rw[hE] at q0
 simp only[go_sem,ο,reduceCtorEq,acX,f0]
 refine dA Lb.toEU T (o:=o) (n:=2) (a:=g.a) (by decide) hG.a rfl q0 ?_
 have h8:=h7.set 0 rfl (bK v pl.2)
 rw[hpl]
 simp only[go_sem,ο,γ,epl,acY]
 refine aGK (C:=C) Lb.tomK T E (1+md.1) (1+pl.1) pl.2 Om Om Om apl ((1+e.1:Nat):Int) w1 (.osl qm 4 0 (1+md.1)) w3 w4 bHY.1 bHO.1 g.bIA g.bIO _ _ _ (by rw[hE]; exact⟨by simp only[go_sem,ο,reduceCtorEq,f0],by simp only[go_sem,ο,γ,f1],by simp only[go_sem,ο,γ,f2],by simp only[go_sem,ο,γ,f6],by simp only[go_sem,ο,γ,f7],by simp only[go_sem,ο,γ,f11],by simp only[go_sem,ο,γ],by simp only[go_sem,ο,γ]; rfl⟩) (by rw[hE] at h8 ⊢; exact h8) ?_
 clear h8 h7 h6 h5 h4 h3 h2 q0 b7 f0 f1 f2 f6 f7 hF2
 intro w5 F4 H4 hF4 h1
 rw[hpols] at h1
 have f0:F4 0=some (.ptr o 2 0 0):=hF4 0 _ (by rw[hE]; unfold fK; simp only[go_sem,reduceCtorEq])
 have f1:F4 1=some (.int .i64 bHN):=hF4 1 _ (by rw[hE]; unfold fK; simp only[go_sem,γ,reduceCtorEq])
 have f2:F4 2=some (.int .i64 bHQ):=hF4 2 _ (by rw[hE]; unfold fK; simp only[go_sem,γ,reduceCtorEq])
 have f6:F4 6=some (.ptr o6 7 0 0):=hF4 6 _ (by rw[hE]; unfold fK; simp only[go_sem,γ,reduceCtorEq])
 have f7:F4 7=some (.ptr o7 7 0 0):=hF4 7 _ (by rw[hE]; unfold fK; simp only[go_sem,γ,reduceCtorEq])
 have q0:=h1.at 0 rfl
 rw[hE] at q0
 simp only[go_sem,γ,adE,f0,f2,evo]
 refine dA Lb.toEU T (o:=o) (n:=bHQ+1) (a:=pols.2) Om apols rfl q0 ?_
 have h2:=h1.set 0 rfl (bK v vo.2)
 rw[hvo']
 have h3:=h2.perm (B':=E.boxes v (.int .i64 (1+e.1:Nat)) w1 (.osl qm 4 0 (1+md.1)) w3 w4 w5 .bHP vo.2) (L':=(w5,17,lG pols.1)::[(w1,4,gV bHY.1),(.osl qm 4 0 (1+md.1),4,jO bHO.1),(w3,7,jT g.bIA),(w4,3,lO g.bIO)]) (List.Perm.refl _)
  (List.perm_append_comm (l₁:=[(w1,4,gV bHY.1),(.osl qm 4 0 (1+md.1),4,jO bHO.1),(w3,7,jT g.bIA),(w4,3,lO g.bIO)]) (l₂:=[(w5,17,lG pols.1)]))
 simp only[go_sem,γ,adF]
 refine aSK (C:=C) Lb.tomK T E (1+pl.1) vo.1 vo.2 Om Om avo _ _ _ _ _ w5 pols.1 lpols _ _ _ _ ?_ (by rw[hE] at h3 ⊢; exact h3) ?_
 ·rw[hE]
  unfold fK
  exact Lq
 clear h3 h2 h1 q0 f0 f1 f2 f6 f7 hF4
 intro w6 F5 H5 hF5 h1
 rw[hvols] at h1
 have f6:F5 6=some (.ptr o6 7 0 0):=hF5 6 _ (by rw[hE]; unfold fK; simp only[go_sem,γ,reduceCtorEq])
 have f7:F5 7=some (.ptr o7 7 0 0):=hF5 7 _ (by rw[hE]; unfold fK; simp only[go_sem,γ,reduceCtorEq])
 rw[hE] at h1
 have b7:=h1.at 1 rfl
 have b6:=h1.at 2 rfl
 have one:∀ (x:PV),x∈[w1,w3,w4,w5,w6]→(∃ q s n,x=.osl q s 0 n)∨x=.bHP:=by
  intro x hx
  have key:∀ {s:Nat} {rows:List (List PV)},aX H5 s x rows→(∃ q s n,x=.osl q s 0 n)∨x=.bHP:=by
   rintro s rows (⟨_,h⟩ | ⟨q,rs,h,_⟩)
   ·exact .inr h
   ·exact .inl ⟨q,s,_,h⟩
  simp only[bKI,bKR,or_false] at hx
  rcases hx with rfl | rfl | rfl | rfl | rfl
  ·exact key (h1.own 1 rfl)
  ·exact key (h1.own 3 rfl)
  ·exact key (h1.own 4 rfl)
  ·exact key (h1.own 0 rfl)
  ·exact key (h1.own 5 rfl)
 have one':∀ (x:PV),x∈[w1,w3,w4,w5,w6]→PV.one x=true:=fun x hx=>by
  rcases one x hx with ⟨q,s,n,rfl⟩ | rfl<;>rfl
 have o1:=one' w1 (by simp)
 have o3:=one' w3 (by simp)
 have o4:=one' w4 (by simp)
 have o5:=one' w5 (by simp)
 have o6':=one' w6 (by simp)
 simp only[PV.one] at o1 o3 o4 o5 o6'
 simp only[go_sem,δ,γ,adK,f6,f7,b7,b6,bKI,bKR,or_false,forall_eq,forall_eq_or_imp,o1,o3,o4,o5,o6']
 have h2:=h1.set 2 rfl (flB (.int .i64 (1+e.1:Nat)) w1 (.osl qm 4 0 (1+md.1)) w3 w4 w5 w6)
 have h3:=h2.sub (B':=[(o,bK v vols.2)]) (bLR.cons_cons _ (List.nil_sublist _)) (bLR.refl _)
 obtain⟨φ,H6,k1,k2,k3,k4⟩:=aT.giveUp _ h3 (fun x hx=>by
  simp only[List.cons_append,List.nil_append,bKI,bKR,or_false] at hx
  rcases hx with rfl | rfl | rfl | rfl | rfl | rfl
  ·exact aZD _
  ·exact aWP _
  ·exact aWQ _
  ·exact aTX _
  ·exact aTZ _
  ·exact bvM _) (fun b hb q s rs=>by
  simp only[bKI,bKR,or_false] at hb
  subst hb
  simp only[cI.frz,bLF,bME,T.frz]
  rfl)
 refine amI (vs:=[.agg [.int .i64 (1+e.1:Nat),w1,.osl qm 4 0 (1+md.1),w3,w4,w5,w6]]) (.inr rfl) (by simp only[go_sem,δ,γ,f6]) (k4 _ _ (.done (H2:=PH.nil.set o (bK v vols.2)) ?_ (PH.aG PH.nil_le (k3.at 0 rfl))))
 rw[hR,hT]
 refine⟨CoL.agg ?_,rfl⟩
 have s5:=k1 (w5,17,lG pols.1) (by simp)
 have s1:=k1 (w1,4,gV bHY.1) (by simp)
 have s2:=k1 (.osl qm 4 0 (1+md.1),4,jO bHO.1) (by simp)
 have s3:=k1 (w3,7,jT g.bIA) (by simp)
 have s4:=k1 (w4,3,lO g.bIO) (by simp)
 have s6:=k1 (w6,2,nK vols.1) (by simp)
 have s0:φ (.int .i64 (1+e.1:Nat))=.int .i64 (1+e.1:Nat):=k2 _ rfl
 show CoL [φ (.int .i64 (1+e.1:Nat)),φ w1,φ (.osl qm 4 0 (1+md.1)),φ w3,φ w4,φ w5,φ w6] _
 rw[s0]
 exact CoL.cons (.refl _) (CoL.cons s1.co (CoL.cons s2.co (CoL.cons s3.co (CoL.cons s4.co (CoL.cons s5.co (CoL.cons s6.co .nil))))))
structure bbF (C:Ctx):Prop extends aAB C where
 new:∀ (l:List Nat),(∀ x∈l,x<256)→l.length≤9223372036854775807→aI C 28 [.sl 1 (kN l)] .nil (a3N l)
 fleet:∀ (l:List Nat) (v:PV),Tp l v→∀ (o bHN bHQ a:Nat),bHN≤60→bHQ≤50→a≤l.length →
  aI C 0 [.ptr o 2 0 0,.int .i64 bHN,.int .i64 bHQ] (PH.nil.set o (bK v a)) (fun r H=>r=.agg (jA l bHN bHQ a).1.cells∧H=PH.nil.set o (bK v (jA l bHN bHQ a).2))
theorem LL.exact {C:Ctx} {name:Nat} {args:List PV} {H:PH} {l:List Nat} {v:PV} {o bHN bHQ a:Nat} (h:aI C name args H (LL l v o bHN bHQ a)):aI C name args H (fun r H=>r=.agg (jA l bHN bHQ a).1.cells∧H=PH.nil.set o (bK v (jA l bHN bHQ a).2)) :=
 h.post fun r H' hr=>⟨_,hr.1,rfl,hr.2⟩
theorem bdW {C:Ctx} (Lb:bbF C) (l:List Nat) (hb:∀ x∈l,x<256) (hl:l.length≤9223372036854775807) (bHN bHQ:Nat) (hdr:bHN≤60) (hvo:bHQ≤50) :
  BG.wp C (aR acL.res (bQ (.agg (jA (l.take 400) bHN bHQ 0).1.cells))) (PF.args [.sl 1 (kN l),.int .i64 bHN,.int .i64 bHQ]) .nil:=by
 simp only[go_sem,δ,BG,apC,acL]
 refine aO fun o6 ho6=>?_
 simp only[go_sem,reduceCtorEq,apD]
 refine nH (Lb.new l hb hl) rfl PH.nil_le ?_
 rintro r H' ⟨o,v,rfl,T,rfl⟩ ha
 have hne:¬ o6=o:=by
  intro e
  subst e
  have:=ha o6 (bK v 0) (by rw[bA,if_pos rfl]) rfl
  rw[bA,if_pos rfl] at this
  cases this
 rw[PH.oS]
 simp only[go_sem,γ]
 refine mC (Lb.fleet _ v T o bHN bHQ 0 hdr hvo (bKA _)) (by rw[bA,if_pos rfl]) rfl ?_
 simp only[go_sem,δ,γ,hne]
 exact aV (vs:=[.agg (jA (l.take 400) bHN bHQ 0).1.cells]) (.inr rfl) .nil Sq PH.nil_le ⟨.refl _,rfl⟩
theorem CoL.a8E:CoL [] []:=⟨rfl,fun j p q h=>by simp at h⟩
theorem CoL.mE {p q:PV} {ps qs:List PV} (h:Co p q) (hs:CoL ps qs):CoL (p::ps) (q::qs):=by
 refine⟨by simp[hs.len],fun j x y a b=>?_⟩
 cases j with
 | zero =>
  simp only[List.getElem?_cons_zero,bMC.injEq] at a b
  subst a; subst b; exact h
 | succ j=>exact hs.at_ j x y (by simpa using a) (by simpa using b)
theorem aI.aFE {C:Ctx} {name:Nat} {R:PV→PH→Prop} {x y:PV} {s:Nat} (h:aI C name [x,y,.sl s []] .nil R):aI C name [x,y,.bHP] .nil R :=
 h.args (.mE (.refl _) (.mE (.refl _) (.mE (.nil s) .a8E)))
theorem aI.seen {C:Ctx} {name:Nat} {args:List PV} {H:PH} {v:PV} (h:aI C name args H (bQ v)):aI C name args H (aD v) :=
 h.post fun r H' hr=>⟨v,hr.1,rfl,hr.2⟩
structure LM (C:Ctx):Prop where
 at_:∀ f:aE,f.Ok→∀ d level:Int,aI C 147 [.agg f.cells,.int .i64 d,.int .i64 level] .nil (aD (.int .i64 (atP f d level)))
 child:∀ f:aE,f.Ok→∀ d:Int,aI C 148 [.agg f.cells,.int .i64 d] .nil (aD (ints (rR f d)))
 bHN:∀ f:aE,f.Ok→∀ d:Int,aI C 149 [.agg f.cells,.int .i64 d] .nil (aD (ints (mO f d)))
 holds:∀ (f:aE) (l:List (List Int)) (room:List Int),f.Ok→eY l→aI C 150 [.agg f.cells,lay l,ints room] .nil (aD (.bool (oM f l room)))
 loads:∀ (f:aE) (l:List (List Int)),f.Ok→eY l→aI C 151 [.agg f.cells,lay l] .nil (aD (ints (lS f l)))
 room:∀ (f:aE) (room:List Int),f.Ok→aI C 152 [.agg f.cells,ints room] .nil (aD (ints (mG f room)))
 shaped:∀ (f:aE) (l:List (List Int)),f.Ok→eY l→aI C 153 [.agg f.cells,lay l] .nil (aD (.bool (rD f l)))
 viol:∀ (f:aE) (l:List (List Int)) (room:List Int),f.Ok→eY l→aI C 154 [.agg f.cells,lay l,ints room] .nil (aD (mB (jN f l room)))
 fleet:∀ (l:List Nat),(∀ x∈l,x<256)→l.length≤9223372036854775807→∀ bHN bHQ:Nat,bHN≤60→bHQ≤50 →
  aI C 27 [.sl 1 (kN l),.int .i64 bHN,.int .i64 bHQ] .nil (aD (.agg (jA (l.take 400) bHN bHQ 0).1.cells))
def RY (x:RF):Bool:=(x.num.all (fun n=>decide (n<4294967296))&&x.den.all fun n=>decide (n<4294967296))&&(decide (x.num.length≤9)&&decide (x.den.length≤9))
theorem HY {x:RF} (h:RY x=true):x.Ok:=by
 simp only[RY,bKM,bKP,decide_eq_true_eq] at h
 exact⟨h.1.1,h.1.2,by omega,by omega⟩
def EJ (l:List RF):Bool:=decide (l.length≤9)&&l.all RY
theorem zS {l:List RF} (h:EJ l=true):jP l:=by
 simp only[EJ,bKM,bKP,decide_eq_true_eq] at h
 exact⟨by unfold Fits; omega,fun x hx=>HY (h.2 x hx)⟩
def aFF (x:bX):Bool:=(EJ x.start&&EJ x.exit)&&(decide (x.bHT.length≤9)&&x.bHT.all EJ)
theorem bcS {x:bX} (h:aFF x=true):x.Ok:=by
 simp only[aFF,bKM,bKP,decide_eq_true_eq] at h
 exact⟨zS h.1.1,zS h.1.2,by unfold Fits; omega,fun r hr=>zS (h.2.2 r hr)⟩
def aJM (x:cJ):Bool:=(decide (cX x.k∧cX x.m∧cX x.bIT)&&(decide (x.bHO.length≤9)&&x.bHO.all fun m=>decide (cX m)))&&(EJ x.repair&&(RY x.target&&RY x.bIB))
theorem bfI {x:cJ} (h:aJM x=true):x.Ok:=by
 simp only[aJM,bKM,bKP,decide_eq_true_eq] at h
 exact⟨h.1.1.1,h.1.1.2.1,h.1.1.2.2,by unfold Fits; omega,h.1.2.2,zS h.2.1,HY h.2.2.1,HY h.2.2.2⟩
def okB (f:aE):Bool:=(decide (f.bHY.length≤99∧f.bHO.length≤99∧f.bHR.length≤99∧f.bHN.length≤99∧f.bHS.length≤99∧f.bHQ.length≤99)&&(f.bHY.all aFF&&f.bHS.all aJM)) &&
 (f.bHR.all (fun x=>RY x.bIH&&decide (cX x.level∧cX x.parent))&&(f.bHN.all (fun x=>decide (cX x.model∧cX x.machine))&&f.bHQ.all fun x=>decide (cX x.bID)))
theorem bxI {f:aE} (h:okB f=true):f.Ok:=by
 simp only[okB,bKM,bKP,decide_eq_true_eq] at h
 obtain⟨⟨⟨l1,l2,l3,l4,l5,l6⟩,h1,h2⟩,h3,h4,h5⟩:=h
 exact⟨by unfold Fits; omega,by unfold Fits; omega,by unfold Fits; omega,by unfold Fits; omega,by unfold Fits; omega,by unfold Fits; omega,fun x hx=>bcS (h1 x hx),fun x hx=>⟨HY (h3 x hx).1,(h3 x hx).2⟩,h4,fun x hx=>bfI (h2 x hx),h5⟩
noncomputable def lW:aE:={ (jA [] 1 0 0).1 with bHQ:=[⟨[118,48],0⟩] }
theorem sL:cV lW=true:=by decide +kernel
theorem zY:lW.Ok:=bxI (by decide +kernel)
theorem bdT {C:Ctx} (L:LM C):BF.wp C (aR acK.res (aD (.agg lW.cells))) (PF.args []) .nil:=by
 simp only[go_sem,δ,BF,aoY,acK]
 refine aO fun o0 h0=>?_
 simp only[go_sem,aoZ]
 have h:=L.fleet [] (fun x hx=>by cases hx) (by decide) 1 0 (by decide) (by decide)
 refine aA (h.args (.mE (.nil 1) (.mE (.refl _) (.mE (.refl _) .a8E)))) rfl ?_
 simp only[go_sem,δ]
 refine aO fun o1 h1=>?_
 have n1:¬ o0=o1:=by
  intro e
  subst e
  rw[bA,if_pos rfl] at h1
  cases h1
 have n2:¬ o1=o0:=fun e=>n1 e.symm
 simp only[go_sem,δ,γ,reduceCtorEq,n1,n2]
 have h12:(1:Nat)*2≤16777216:=by decide
 simp only[go_sem,υ,δ,γ,η,θ,ζ,reduceCtorEq,apA,h12,n1,n2,bKI,bKR,or_false,forall_eq,apB]
 refine aM (.inr rfl) (vs:=[.agg lW.cells]) ?_ rfl
 simp only[go_sem,δ,reduceCtorEq,n1,n2]
 rfl
theorem boD:atP lW 0 4=4:=by
 unfold atP
 rw[if_pos ⟨sL,by decide,by decide +kernel,by decide,by decide⟩]
 decide +kernel
theorem aKM:mO lW 0=[0]:=by
 unfold mO
 rw[if_pos ⟨sL,by decide,by decide +kernel⟩]
 decide +kernel
theorem a9H:(jN lW [[-1]] []).map fC.cells=[[.int .i64 2,.int .i64 0,.int .i64 0]]:=by
 unfold jN
 rw[if_pos sL,if_pos (by decide +kernel)]
 rfl
theorem aTH:oM lW [[0]] []=true:=by
 unfold oM jN
 rw[sL,if_pos rfl,if_pos (by decide +kernel)]
 decide +kernel
def EF:aE:=⟨0,[],[],[],[],[],[]⟩
theorem a8M:EF.Ok:=⟨by decide,by decide,by decide,by decide,by decide,by decide,(fun _ h=>by cases h),(fun _ h=>by cases h),(fun _ h=>by cases h),(fun _ h=>by cases h),(fun _ h=>by cases h)⟩
theorem axZ:oM EF [] []=false:=rfl
theorem a8L:Co (.agg [.int .i64 0,.bHP,.bHP,.bHP,.bHP,.bHP,.bHP]) (.agg EF.cells):=by
 have:CoL [.int .i64 0,.bHP,.bHP,.bHP,.bHP,.bHP,.bHP] EF.cells :=
  .mE (.refl _) (.mE (.nil _) (.mE (.nil _) (.mE (.nil _) (.mE (.nil _) (.mE (.nil _) (.mE (.nil _) .a8E))))))
 exact .agg this.len this.at_
theorem BB {l:List (List Int)} (h:l.length≤16777216) (h2:l.flatten.length≤16777216):eY l:=⟨h,h2⟩
theorem bcU {C:Ctx} (L:LM C) (hs:aI C 23 [] .nil (aD (.agg lW.cells))):BA.wp C (aR acF.res (aD (.bool true))) (PF.args []) .nil:=by
 simp only[go_sem,BA,aoF,aoG,acF]
 refine aA hs rfl ?_
 simp only[go_sem,δ]
 refine aO fun o1 h1=>?_
 have h12:(1:Nat)*1≤16777216:=by decide
 have hv:=L.viol lW [[-1]] [] zY (BB (by decide) (by decide))
 have hh:=L.holds lW [[0]] [] zY (BB (by decide) (by decide))
 have hn:=L.holds EF [] [] a8M (BB (by decide) (by decide))
 rw[aTH] at hh
 rw[axZ] at hn
 rw[show mB (jN lW [[-1]] [])=.sl 3 [[.int .i64 2,.int .i64 0,.int .i64 0]] from by unfold mB; rw[a9H]] at hv
 simp only[go_sem,ο,υ,δ,γ,η,ζ,reduceCtorEq,aoH,h12]
 refine aA hv.aFE rfl ?_
 have c1:(((1:Nat):Int)==1)=true:=rfl
 have ha:=L.at_ lW zY 0 4
 rw[boD] at ha
 have hd:=L.bHN lW zY 0
 rw[aKM] at hd
 simp only[go_sem,ο,δ,γ,reduceCtorEq,aoI]
 refine aA ha rfl ?_
 simp only[go_sem,ρ,ο,δ,γ,reduceCtorEq]
 refine aA hd rfl ?_
 simp only[go_sem,ρ,ο,ν,υ,δ,γ,η,θ,ζ,reduceCtorEq,h12,c1]
 refine aA hh.aFE rfl ?_
 simp only[go_sem,ο,γ,reduceCtorEq]
 refine aA (hn.args (.mE a8L (.mE (.nil 1) (.mE (.nil 1) .a8E)))) rfl ?_
 simp only[go_sem,ο,γ,reduceCtorEq]
 refine aM (.inr rfl) rfl ?_
 rfl
def avL:Rg:=[iZ 4]
def avM:Rg:=[iZ 5]
def avN:Rg:=[iA 6 (.mv (.const (.int .u64 0)))]
def avO:Rg:=[iI 7 0]
def avP:Rg:=[iM 10 7,iM 11 0,iN 12 11,iB 13 .lss 10 12]
def avQ:Rg:=[iM 16 6,iM 8 16]
def avR:Rg:=[iM 17 7,iM 18 1,iN 19 18,iB 20 .lss 17 19]
def avS:Rg:=[iM 21 8,iM 22 1,iM 23 7,iX 24 1 22 23,iL 25 24,iA 26 (.conv .u64 (Tm 25)),iB 27 .add 21 26,iM 8 27]
def QF:Rg:=[iM 28 0,iM 29 7,iX 30 1 28 29,iL 31 30,iA 32 (.conv .u64 (Tm 31)),iM 9 32]
def QG:Rg:=[iA 6 (.mv (.const (.int .u64 0)))]
def JG:Rg:=[iM 33 9,iM 34 8,iB 35 .lss 33 34]
def JH:Rg:=[iM 36 9,iA 37 (.bin .add (Tm 36) (.const (.int .u64 4294967296))),iM 9 37]
def JI:Rg:=[iA 6 (.mv (.const (.int .u64 1)))]
def wN:Rg:=[iM 38 5,iM 39 9,iM 40 8,iB 41 .sub 39 40,iA 42 (.conv .u32 (Tm 41)),iA 43 (.bHU true 1 1 [(.int .u32 0)] [(0,(Tm 42))]),iA 44 (.append 1 4 (Tm 38) (Tm 43)),iM 5 44]
def wO:Rg:=[iM 14 7,iC 15 .add 14 1,iM 7 15]
def ahB:aB:=(.seq (sq avP (.cond (Tm 13) .skip (.exit 0))) (.seq (.block 1 (sq avQ (.seq (sq avR (.cond (Tm 20) (.region avS) .skip)) (sq QF (sq QG (.seq (sq JG (.cond (Tm 35) (sq JH (.region JI)) .skip)) (.region wN))))))) (.region wO)))
def ahC:Rg:=[iM 45 5,iK 46 38 45,iM 4 46]
def DC:aB:=(sq avL (sq avM (sq avN (.seq (sq avO (.block 0 (.loop ahB))) (sq ahC .ret)))))
def bhV:List Nat:=[43]
def ahA:aS:=⟨2,47,DC,[.tmp 4]⟩
def aOI:Rg:=[iZ 4]
def aOJ:Rg:=[iZ 5]
def aOK:Rg:=[iA 6 (.mv (.const (.int .u64 0)))]
def aOL:Rg:=[iI 7 0]
def aOM:Rg:=[iM 9 7,iM 10 0,iN 11 10,iB 12 .lss 9 11,iM 13 12,gM 14 7 13 false,gM 15 1 13 false,gN 16 15 13 false,gB 17 .lss 14 16 13 false,iQ 18 13 17,iM 19 18,gM 20 6 19 false,iG 21 (.bin .gtr (Tm 20) (.const (.int .u64 0))) 19 false,iQ 22 19 21]
def ZM:Rg:=[iM 25 6,iM 8 25]
def ZN:Rg:=[iM 26 7,iM 27 0,iN 28 27,iB 29 .lss 26 28]
def ZO:Rg:=[iM 30 8,iM 31 0,iM 32 7,iX 33 1 31 32,iL 34 33,iA 35 (.conv .u64 (Tm 34)),iB 36 .add 30 35,iM 8 36]
def JK:Rg:=[iM 37 7,iM 38 1,iN 39 38,iB 40 .lss 37 39]
def JL:Rg:=[iM 41 8,iM 42 1,iM 43 7,iX 44 1 42 43,iL 45 44,iA 46 (.conv .u64 (Tm 45)),iB 47 .add 41 46,iM 8 47]
def AK:Rg:=[iM 48 5,iM 49 8,iA 50 (.conv .u32 (Tm 49)),iA 51 (.bHU true 1 1 [(.int .u32 0)] [(0,(Tm 50))]),iA 52 (.append 1 4 (Tm 48) (Tm 51)),iM 5 52]
def AL:Rg:=[iM 53 8,iA 54 (.bin .shr (Tm 53) (.const (.int .u64 32))),iM 6 54]
def AM:Rg:=[iM 23 7,iC 24 .add 23 1,iM 7 24]
def avT:aB:=(.seq (sq aOM (.cond (Tm 22) .skip (.exit 0))) (.seq (.block 1 (sq ZM (.seq (sq ZN (.cond (Tm 29) (.region ZO) .skip)) (.seq (sq JK (.cond (Tm 40) (.region JL) .skip)) (sq AK (.region AL)))))) (.region AM)))
def QK:Rg:=[iM 55 5,iK 56 38 55,iM 4 56]
def JJ:aB:=(sq aOI (sq aOJ (sq aOK (.seq (sq aOL (.block 0 (.loop avT))) (sq QK .ret)))))
def bpK:List Nat:=[51]
def azJ:aS:=⟨2,57,JJ,[.tmp 4]⟩
def avU:Rg:=[iZ 4]
def avV:Rg:=[iM 10 0,iN 11 10,iM 12 1,iN 13 12,iB 14 .add 11 13,iA 15 (.bHZ 1 4 [(.int .u32 0)] (Tm 14) (Tm 14)),iM 5 15]
def avW:Rg:=[iI 6 0]
def avX:Rg:=[iM 16 6,iM 17 0,iN 18 17,iB 19 .lss 16 18]
def QN:Rg:=[iA 7 (.mv (.const (.int .u64 0)))]
def QO:Rg:=[iI 8 0]
def avY:Rg:=[iM 22 8,iM 23 1,iN 24 23,iB 25 .lss 22 24]
def avZ:Rd:=[(iM 28 0,false),(iM 29 6,false),(iX 30 1 28 29,false),(iL 31 30,false),(iA 32 (.conv .u64 (Tm 31)),false),(iM 33 1,false),(iM 34 8,false),(iX 35 1 33 34,false),(iL 36 35,false),(iA 37 (.conv .u64 (Tm 36)),false),(iB 38 .mul 32 37,false),(iM 39 5,false),(iM 40 6,false),(iM 41 8,false),(iB 42 .add 40 41,false),(iX 43 1 39 42,false),(iL 44 43,false),(iA 45 (.conv .u64 (Tm 44)),false),(iB 46 .add 38 45,false),(iM 47 7,false),(iB 48 .add 46 47,false),(iM 9 48,false)]
def awA:Rg:=[iM 49 5,iM 50 6,iM 51 8,iB 52 .add 50 51,iM 53 9,iA 54 (.conv .u32 (Tm 53)),iX 55 1 49 52,iS 1 55 54]
def awB:Rg:=[iM 56 9,iA 57 (.bin .shr (Tm 56) (.const (.int .u64 32))),iM 7 57]
def ahG:Rg:=[iM 26 8,iC 27 .add 26 1,iM 8 27]
def JM:aB:=(.seq (sq avY (.cond (Tm 25) .skip (.exit 2))) (.seq (.block 3 (dq avZ (sq awA (.region awB)))) (.region ahG)))
def JN:Rg:=[iM 58 5,iM 59 6,iM 60 1,iN 61 60,iB 62 .add 59 61,iM 63 7,iA 64 (.conv .u32 (Tm 63)),iX 65 1 58 62,iS 1 65 64]
def ahH:Rg:=[iM 20 6,iC 21 .add 20 1,iM 6 21]
def ahF:aB:=(.seq (sq avX (.cond (Tm 19) .skip (.exit 0))) (.seq (.block 1 (sq QN (.seq (sq QO (.block 2 (.loop JM))) (.region JN)))) (.region ahH)))
def ahI:Rg:=[iM 66 5,iK 67 38 66,iM 4 67]
def DD:aB:=(sq avU (sq avV (.seq (sq avW (.block 0 (.loop ahF))) (sq ahI .ret))))
def bhX:List Nat:=[]
def ahE:aS:=⟨2,68,DD,[.tmp 4]⟩
def a0E:Rg:=[iZ 4,iI 5 0]
def a0F:Rg:=[iM 7 0,iK 8 41 7,iM 9 8,gM 10 1 9 false,gK 11 41 10 9 false,iQ 12 9 11]
def amR:Rg:=[iZ 4,iI 5 2]
def a0G:Rg:=[iM 13 0,iK 14 38 13,iM 15 1,iK 16 38 15,iK2 17 43 14 16,iM 6 17]
def a0H:Rg:=[iM 18 6,iK 19 41 18]
def a0I:Rg:=[iZ 4,iI 5 2]
def a0J:Rg:=[iM 20 6,iM 4 20,iI 5 0]
def PZ:aB:=(sq a0E (.seq (sq a0F (.cond (Tm 12) (sq amR .ret) .skip)) (sq a0G (.seq (sq a0H (.cond (Tm 19) (sq a0I .ret) .skip)) (sq a0J .ret)))))
def buW:List Nat:=[]
def a9S:aS:=⟨2,21,PZ,[.tmp 4,.tmp 5]⟩
def a1O:Rg:=[iZ 4,iI 5 0]
def a1P:Rg:=[iM 6 0,iK 7 41 6,iM 8 7,gM 9 1 8 false,gK 10 41 9 8 false,iQ 11 8 10]
def amV:Rg:=[iZ 4,iI 5 2]
def a1Q:Rg:=[iM 12 0,iM 13 1,iK2 14 32 12 13,iC 15 .lss 14 0]
def a1R:Rg:=[iZ 4,iI 5 4]
def a1S:Rg:=[iM 16 0,iK 17 38 16,iM 18 1,iK 19 38 18,iK2 20 42 17 19,iM 4 20,iI 5 0]
def QM:aB:=(sq a1O (.seq (sq a1P (.cond (Tm 11) (sq amV .ret) .skip)) (.seq (sq a1Q (.cond (Tm 15) (sq a1R .ret) .skip)) (sq a1S .ret))))
def bvI:List Nat:=[]
def baC:aS:=⟨2,21,QM,[.tmp 4,.tmp 5]⟩
def a1I:Rg:=[iZ 4,iI 5 0]
def a1J:Rg:=[iM 7 0,iK 8 41 7,iM 9 8,gM 10 1 9 false,gK 11 41 10 9 false,iQ 12 9 11]
def amU:Rg:=[iZ 4,iI 5 2]
def a1K:Rg:=[iM 13 0,iK 14 38 13,iM 15 1,iK 16 38 15,iK2 17 44 14 16,iM 6 17]
def a1L:Rg:=[iM 18 6,iK 19 41 18]
def a1M:Rg:=[iZ 4,iI 5 2]
def a1N:Rg:=[iM 20 6,iM 4 20,iI 5 0]
def QH:aB:=(sq a1I (.seq (sq a1J (.cond (Tm 12) (sq amU .ret) .skip)) (sq a1K (.seq (sq a1L (.cond (Tm 19) (sq a1M .ret) .skip)) (sq a1N .ret)))))
def bvE:List Nat:=[]
def baA:aS:=⟨2,21,QH,[.tmp 4,.tmp 5]⟩
def aNI:Rg:=[iI 2 0]
def aNJ:Rg:=[iM 5 0,iK 6 38 5,iM 0 6]
def aNK:Rg:=[iM 7 0,iN 8 7,iC 9 .eql 8 0]
def aNL:Rg:=[iI 2 0]
def aNM:Rg:=[iM 10 0,iN 11 10,iC 12 .sub 11 1,iA 13 (.bin .mul (Ci 32) (Tm 12)),iM 3 13]
def aNN:Rg:=[iM 14 0,iM 15 0,iN 16 15,iC 17 .sub 16 1,iX 18 1 14 17,iL 19 18,iM 4 19]
def aNO:Rg:=[iM 20 4,iA 21 (.bin .gtr (Tm 20) (.const (.int .u32 0)))]
def aNP:Rg:=[iM 24 3,iC 25 .add 24 1,iM 3 25]
def aNQ:Rg:=[iM 22 4,iA 23 (.bin .quo (Tm 22) (.const (.int .u32 2))),iM 4 23]
def aNH:aB:=(.seq (sq aNO (.cond (Tm 21) .skip (.exit 0))) (.seq (.block 1 (.region aNP)) (.region aNQ)))
def avG:Rg:=[iM 26 3,iM 2 26]
def JA:aB:=(sq aNI (sq aNJ (.seq (sq aNK (.cond (Tm 9) (sq aNL .ret) .skip)) (sq aNM (.seq (sq aNN (.block 0 (.loop aNH))) (sq avG .ret))))))
def boY:List Nat:=[]
def azG:aS:=⟨1,27,JA,[.tmp 2]⟩
def bhY:Rg:=[iZ 4]
def bhZ:Rg:=[iM 9 0,iN 10 9,iC 11 .eql 10 0]
def biA:Rg:=[iZ 4]
def biB:Rg:=[iM 12 1,iC 13 .quo 12 32,iA 14 (.bHZ 1 4 [(.int .u32 0)] (Tm 13) (Tm 13)),iM 5 14]
def biC:Rg:=[iA 6 (.mv (.const (.int .u64 0)))]
def biD:Rg:=[iI 7 0]
def biE:Rg:=[iM 15 7,iM 16 0,iN 17 16,iB 18 .lss 15 17]
def biF:Rg:=[iM 21 0,iM 22 7,iX 23 1 21 22,iL 24 23,iA 25 (.conv .u64 (Tm 24)),iM 26 1,iC 27 .rem 26 32,iA 28 (.conv .u64 (Tm 27)),iB 29 .shl 25 28,iM 30 6,iB 31 .or 29 30,iM 8 31]
def biG:Rg:=[iM 32 5,iM 33 8,iA 34 (.conv .u32 (Tm 33)),iA 35 (.bHU true 1 1 [(.int .u32 0)] [(0,(Tm 34))]),iA 36 (.append 1 4 (Tm 32) (Tm 35)),iM 5 36]
def biH:Rg:=[iM 37 8,iA 38 (.bin .shr (Tm 37) (.const (.int .u64 32))),iM 6 38]
def a1U:Rg:=[iM 19 7,iC 20 .add 19 1,iM 7 20]
def a1T:aB:=(.seq (sq biE (.cond (Tm 18) .skip (.exit 0))) (.seq (.block 1 (sq biF (sq biG (.region biH)))) (.region a1U)))
def a1V:Rg:=[iM 39 5,iM 40 6,iA 41 (.conv .u32 (Tm 40)),iA 42 (.bHU true 1 1 [(.int .u32 0)] [(0,(Tm 41))]),iA 43 (.append 1 4 (Tm 39) (Tm 42)),iK 44 38 43,iM 4 44]
def ZQ:aB:=(sq bhY (.seq (sq bhZ (.cond (Tm 11) (sq biA .ret) .skip)) (sq biB (sq biC (.seq (sq biD (.block 0 (.loop a1T))) (sq a1V .ret))))))
def byD:List Nat:=[35,42]
def uup:aS:=⟨2,45,ZQ,[.tmp 4]⟩
def aNW:Rg:=[iZ 4]
def aNX:Rg:=[iM 8 1,iC 9 .quo 8 32,iM 10 0,iN 11 10,iB 12 .geq 9 11]
def aNY:Rg:=[iZ 4]
def aNZ:Rg:=[iZ 5]
def aOA:Rg:=[iM 13 1,iC 14 .quo 13 32,iM 6 14]
def aOB:Rg:=[iM 15 6,iM 16 0,iN 17 16,iB 18 .lss 15 17]
def aOC:Rg:=[iM 21 0,iM 22 6,iX 23 1 21 22,iL 24 23,iA 25 (.conv .u64 (Tm 24)),iM 7 25]
def aOD:Rg:=[iM 26 6,iC 27 .add 26 1,iM 28 0,iN 29 28,iB 30 .lss 27 29]
def aOE:Rg:=[iM 31 7,iM 32 0,iM 33 6,iC 34 .add 33 1,iX 35 1 32 34,iL 36 35,iA 37 (.conv .u64 (Tm 36)),iA 38 (.bin .shl (Tm 37) (.const (.int .u64 32))),iB 39 .or 31 38,iM 7 39]
def ZL:Rg:=[iM 40 5,iM 41 7,iM 42 1,iC 43 .rem 42 32,iA 44 (.conv .u64 (Tm 43)),iB 45 .shr 41 44,iA 46 (.conv .u32 (Tm 45)),iA 47 (.bHU true 1 1 [(.int .u32 0)] [(0,(Tm 46))]),iA 48 (.append 1 4 (Tm 40) (Tm 47)),iM 5 48]
def QD:Rg:=[iM 19 6,iC 20 .add 19 1,iM 6 20]
def avH:aB:=(.seq (sq aOB (.cond (Tm 18) .skip (.exit 0))) (.seq (.block 1 (sq aOC (.seq (sq aOD (.cond (Tm 30) (.region aOE) .skip)) (.region ZL)))) (.region QD)))
def avI:Rg:=[iM 49 5,iK 50 38 49,iM 4 50]
def JE:aB:=(sq aNW (.seq (sq aNX (.cond (Tm 12) (sq aNY .ret) .skip)) (sq aNZ (.seq (sq aOA (.block 0 (.loop avH))) (sq avI .ret)))))
def bpC:List Nat:=[47]
def azH:aS:=⟨2,51,JE,[.tmp 4]⟩
def awT:Rg:=[iA 1 (.box true (Tm 0)),iT 2 false]
def awU:Rg:=[iF 3 2 1,iL 4 3,iK 5 38 4,iN 6 5,iC 7 .gtr 6 0,iM 8 7,gF 9 2 1 8 true,gL 10 9 8 true,gK 11 38 10 8 true,gN 12 11 8 true,gC 13 .leq 12 128 8 true,iP 14 8 13,iM 15 14,gF 16 1 1 15 true,gL 17 16 15 true,gK 18 38 17 15 true,gN 19 18 15 true,gC 20 .leq 19 128 15 true,iP 21 15 20,iM 2 21]
def DH:aB:=(sq awT (sq awU .ret))
def biS:List Nat:=[1]
def ahY:aS:=⟨1,22,DH,[.tmp 2]⟩
def awE:Rg:=[iA 1 (.box true (Tm 0)),iT 2 false]
def awF:Rg:=[iF 3 1 1,iL 4 3,iN 5 4,iC 6 .gtr 5 128,iM 7 6,gF 8 2 1 7 false,gL 9 8 7 false,gN 10 9 7 false,gC 11 .gtr 10 128 7 false,iQ 12 7 11,iM 2 12]
def DE:aB:=(sq awE (sq awF .ret))
def biM:List Nat:=[1]
def ahK:aS:=⟨1,13,DE,[.tmp 2]⟩
def aOW:Rg:=[iA 1 (.box true (Tm 0)),iA 2 (.alloc [(.bool false),.bHP,.bHP]),iI 3 0]
def aOX:Rg:=[iO 4 3 1,iK 5 48 4]
def aOY:Rg:=[iA 6 (.build [(.bool false),.bHP,.bHP] []),iS 3 2 6,iI 3 2]
def aOZ:Rg:=[iO 7 3 1,iS 3 2 7,iI 3 0]
def JQ:aB:=(sq aOW (.seq (sq aOX (.cond (Tm 5) (sq aOY .ret) .skip)) (sq aOZ .ret)))
def bpQ:List Nat:=[1]
def azQ:aS:=⟨1,8,JQ,[.cell 2 (some 3),.tmp 3]⟩
def ahT:Rg:=[iA 1 (.box true (Tm 0)),iA 2 (.alloc [(.bool false),.bHP,.bHP]),iI 3 0]
def ahU:Rg:=[iO 4 3 1,iK 5 56 4,iA 6 (.un .not (Tm 5))]
def ahV:Rg:=[iA 7 (.build [(.bool false),.bHP,.bHP] []),iS 3 2 7,iI 3 1]
def ahW:Rg:=[iF 8 0 1,iL 9 8,iF 10 1 1,iL 11 10,iF 12 2 1,iL 13 12,iA 14 (.call 58 [(Tm 9),(Tm 11),(Tm 13)]),iS 3 2 14,iI 3 0]
def yV:aB:=(sq ahT (.seq (sq ahU (.cond (Tm 6) (sq ahV .ret) .skip)) (sq ahW .ret)))
def baM:List Nat:=[1]
def SK:aS:=⟨1,15,yV,[.cell 2 (some 3),.tmp 3]⟩
def awQ:Rg:=[iZ 4]
def awR:Rg:=[iM 8 0,iM 9 1,iK2 10 36 8 9,iM 7 10,iE 11 7 0,iE 12 7 1,iM 5 11,iM 6 12]
def awS:Rg:=[iM 13 5,iM 4 13]
def DG:aB:=(sq awQ (sq awR (sq awS .ret)))
def biQ:List Nat:=[]
def ahX:aS:=⟨2,14,DG,[.tmp 4]⟩
def awG:Rg:=[iA 2 (.box true (Tm 0)),iA 3 (.box true (Tm 1)),iI 4 0]
def awH:Rd:=[(iF 9 1 2,false),(iL 10 9,false),(iF 11 2 3,false),(iL 12 11,false),(iK2 13 60 10 12,true),(iF 14 1 3,true),(iL 15 14,true),(iF 16 2 2,true),(iL 17 16,true),(iK2 18 60 15 17,true),(iM 5 13,false),(iM 6 18,false)]
def awI:Rg:=[iF 19 0 2,iL 20 19,iM 21 20,gM 22 5 21 true,gN 23 22 21 true,gC 24 .gtr 23 0 21 true,iP 25 21 24,iF 26 0 3,iL 27 26,iM 28 27,gM 29 6 28 true,gN 30 29 28 true,gC 31 .gtr 30 0 28 true,iP 32 28 31,iM 7 25,iM 8 32]
def awJ:Rg:=[iM 34 7,iM 35 34,gM 36 8 35 true,iG 37 (.un .not (Tm 36)) 35 true,iP 38 35 37,iM 33 38]
def awK:Rg:=[iI 4 (-1)]
def awL:Rg:=[iM 40 8,iM 41 40,gM 42 7 41 true,iG 43 (.un .not (Tm 42)) 41 true,iP 44 41 43,iM 39 44]
def awM:Rg:=[iI 4 1]
def awN:Rg:=[iM 46 7,iM 45 46]
def awO:Rg:=[iM 47 6,iM 48 5,iK2 49 32 47 48,iM 4 49]
def awP:Rg:=[iM 50 5,iM 51 6,iK2 52 32 50 51,iM 4 52]
def DF:aB:=(sq awG (dq awH (sq awI (.seq (.block 0 (sq awJ (.cond (Tm 33) (sq awK .ret) (sq awL (.cond (Tm 39) (sq awM .ret) (sq awN (.cond (Tm 45) (sq awO .ret) .skip))))))) (sq awP .ret)))))
def biO:List Nat:=[2,3]
def ahS:aS:=⟨2,53,DF,[.tmp 4]⟩
def aPA:Rg:=[iA 2 (.box true (Tm 0)),iA 3 (.box true (Tm 1)),iT 4 false]
def aPB:Rg:=[iO 5 3 2,iO 6 3 3,iK2 7 51 5 6,iC 8 .lss 7 0,iM 4 8]
def JR:aB:=(sq aPA (sq aPB .ret))
def bpT:List Nat:=[2,3]
def azR:aS:=⟨2,9,JR,[.tmp 4]⟩
def aPH:Rg:=[iA 2 (.box true (Tm 0)),iA 3 (.box true (Tm 1)),iT 4 false]
def aPI:Rg:=[iO 5 3 2,iO 6 3 3,iK2 7 51 5 6,iC 8 .eql 7 0,iM 4 8]
def JV:aB:=(sq aPH (sq aPI .ret))
def bpX:List Nat:=[2,3]
def azT:aS:=⟨2,9,JV,[.tmp 4]⟩
def aPJ:Rg:=[iA 1 (.box true (Tm 0)),iI 2 0]
def aPK:Rd:=[(iO 3 3 1,true),(iA 4 (.call 47 [(Ci 0)]),true),(iK2 5 51 3 4,true),(iM 2 5,false)]
def JW:aB:=(sq aPJ (dq aPK .ret))
def bpZ:List Nat:=[1]
def azU:aS:=⟨1,6,JW,[.tmp 2]⟩
def a1W:Rg:=[iA 2 (.box true (Tm 0)),iA 3 (.box true (Tm 1)),iA 4 (.alloc [(.bool false),.bHP,.bHP]),iI 5 0]
def a1X:Rg:=[iO 15 3 2,iK 16 56 15,iA 17 (.un .not (Tm 16)),iM 18 17,gO 19 3 3 18 false,gK 20 56 19 18 false,iG 21 (.un .not (Tm 20)) 18 false,iQ 22 18 21]
def amW:Rg:=[iA 23 (.build [(.bool false),.bHP,.bHP] []),iS 3 4 23,iI 5 1]
def a1Y:Rd:=[(iF 24 1 2,false),(iL 25 24,false),(iF 26 2 3,false),(iL 27 26,false),(iK2 28 60 25 27,true),(iF 29 1 3,true),(iL 30 29,true),(iF 31 2 2,true),(iL 32 31,true),(iK2 33 60 30 32,true),(iF 34 2 2,true),(iL 35 34,true),(iF 36 2 3,true),(iL 37 36,true),(iK2 38 60 35 37,true),(iM 6 28,false),(iM 7 33,false),(iM 8 38,false)]
def a1Z:Rg:=[iF 39 0 2,iL 40 39,iF 41 0 3,iL 42 41,iA 43 (.eqb false (Tm 40) (Tm 42))]
def a2A:Rg:=[iM 45 6,iM 46 7,iK2 47 30 45 46,iM 44 47,iE 48 44 0,iE 49 44 1,iM 9 48,iM 10 49]
def a2B:Rg:=[iF 50 0 2,iL 51 50,iM 52 9,iM 53 8,iA 54 (.call 58 [(Tm 51),(Tm 52),(Tm 53)]),iK 55 57 54,iE 56 55 0,iE 57 55 1,iS 3 4 56,iM 5 57]
def a2C:Rg:=[iM 58 6,iM 59 7,iK2 60 32 58 59,iC 61 .geq 60 0]
def a2D:Rg:=[iM 63 6,iM 64 7,iK2 65 37 63 64,iM 62 65,iE 66 62 0,iE 67 62 1,iM 11 66,iM 12 67]
def a2E:Rg:=[iF 68 0 2,iL 69 68,iM 70 11,iM 71 8,iA 72 (.call 58 [(Tm 69),(Tm 70),(Tm 71)]),iK 73 57 72,iE 74 73 0,iE 75 73 1,iS 3 4 74,iM 5 75]
def aOT:Rg:=[iM 77 7,iM 78 6,iK2 79 37 77 78,iM 76 79,iE 80 76 0,iE 81 76 1,iM 13 80,iM 14 81]
def aOU:Rg:=[iF 82 0 3,iL 83 82,iM 84 13,iM 85 8,iA 86 (.call 58 [(Tm 83),(Tm 84),(Tm 85)]),iK 87 57 86,iE 88 87 0,iE 89 87 1,iS 3 4 88,iM 5 89]
def AN:aB:=(sq a1W (.seq (sq a1X (.cond (Tm 22) (sq amW .ret) .skip)) (dq a1Y (.seq (sq a1Z (.cond (Tm 43) (sq a2A (sq a2B .ret)) .skip)) (.seq (sq a2C (.cond (Tm 61) (sq a2D (sq a2E .ret)) .skip)) (sq aOT (sq aOU .ret)))))))
def bvK:List Nat:=[2,3]
def aOS:aS:=⟨2,90,AN,[.cell 4 (some 3),.tmp 5]⟩
def a2K:Rg:=[iA 2 (.alloc [(.bool false),.bHP,.bHP]),iI 3 0]
def a2L:Rg:=[iA 8 (.call 47 [(Ci 0)]),iA 4 (.alloc [(.bool false),.bHP,.bHP]),iS 3 4 8]
def a2M:Rg:=[iI 5 0]
def a2N:Rg:=[iM 9 5,iM 10 0,iN 11 10,iB 12 .lss 9 11]
def a2O:Rd:=[(iO 16 3 4,false),(iM 17 0,false),(iM 18 5,false),(iX 19 3 17 18,false),(iO 20 3 19,false),(iK2 21 46 16 20,true),(iM 15 21,false),(iE 22 15 0,false),(iE 23 15 1,true),(iA 6 (.alloc [(.bool false),.bHP,.bHP]),true),(iS 3 6 22,true),(iM 7 23,false)]
def amY:Rg:=[iM 24 7,iC 25 .neq 24 0]
def a2P:Rg:=[iA 26 (.build [(.bool false),.bHP,.bHP] []),iM 27 7,iS 3 2 26,iM 3 27]
def a2Q:Rg:=[iO 28 3 6,iS 3 4 28]
def a2R:Rg:=[iM 13 5,iC 14 .add 13 1,iM 5 14]
def a2J:aB:=(.seq (sq a2N (.cond (Tm 12) .skip (.exit 0))) (.seq (.block 1 (dq a2O (.seq (sq amY (.cond (Tm 25) (sq a2P .ret) .skip)) (.region a2Q)))) (.region a2R)))
def aPP:Rg:=[iO 29 3 4,iS 3 2 29,iI 3 0]
def QR:aB:=(sq a2K (sq a2L (.seq (sq a2M (.block 0 (.loop a2J))) (sq aPP .ret))))
def bvO:List Nat:=[]
def baN:aS:=⟨1,30,QR,[.cell 2 (some 3),.tmp 3]⟩
def tM:Rg:=[iT 4 false]
def tN:Rg:=[iM 5 0,iC 6 .geq 5 1,iM 7 6,gM 8 0 7 true,gC 9 .leq 8 6 7 true,iP 10 7 9,iM 11 10,gM 12 1 11 true,gC 13 .geq 12 0 11 true,iP 14 11 13,iM 15 14,gM 16 1 15 true,gC 17 .leq 16 4 15 true,iP 18 15 17,iM 19 18,gM 20 0 19 true,gM 21 1 19 true,gB 22 .add 20 21 19 true,gC 23 .leq 22 8 19 true,iP 24 19 23,iM 4 24]
def nE:aB:=(sq tM (sq tN .ret))
def boA:List Nat:=[]
def zT:aS:=⟨2,25,nE,[.tmp 4]⟩
def aiL:Rg:=[iT 2 false]
def aiM:Rg:=[iM 3 0,iA 4 (.bin .geq (Tm 3) (.const (.int .u8 97))),iM 5 4,gM 6 0 5 true,iG 7 (.bin .leq (Tm 6) (.const (.int .u8 122))) 5 true,iP 8 5 7,iM 9 8,gM 10 0 9 false,iG 11 (.bin .geq (Tm 10) (.const (.int .u8 65))) 9 false,gM 12 11 9 false,gM 13 0 12 true,iG 14 (.bin .leq (Tm 13) (.const (.int .u8 90))) 12 true,iG 15 (.pick (Tm 12) (Tm 14) (.const (.bool false))) 9 false,iQ 16 9 15,iM 2 16]
def yY:aB:=(sq aiL (sq aiM .ret))
def baT:List Nat:=[]
def SN:aS:=⟨1,17,yY,[.tmp 2]⟩
def awV:Rg:=[iT 2 false]
def awW:Rg:=[iM 3 0,iA 4 (.bin .geq (Tm 3) (.const (.int .u8 48))),iM 5 4,gM 6 0 5 true,iG 7 (.bin .leq (Tm 6) (.const (.int .u8 57))) 5 true,iP 8 5 7,iM 2 8]
def DJ:aB:=(sq awV (sq awW .ret))
def biU:List Nat:=[]
def ahZ:aS:=⟨1,9,DJ,[.tmp 2]⟩
def aiA:Rg:=[iT 2 false]
def aiB:Rg:=[iM 3 0,iK 4 65 3,iM 5 4,gM 6 0 5 false,gK 7 63 6 5 false,iQ 8 5 7,iM 9 8,gM 10 0 9 false,iG 11 (.bin .eql (Tm 10) (.const (.int .u8 45))) 9 false,iQ 12 9 11,iM 13 12,gM 14 0 13 false,iG 15 (.bin .eql (Tm 14) (.const (.int .u8 46))) 13 false,iQ 16 13 15,iM 2 16]
def yW:aB:=(sq aiA (sq aiB .ret))
def baP:List Nat:=[]
def SL:aS:=⟨1,17,yW,[.tmp 2]⟩
def aiD:Rg:=[iT 2 false]
def aiE:Rg:=[iM 4 0,iA 5 (.bIX (Tm 4)),iC 6 .lss 5 1,iM 7 6,gM 8 0 7 false,iG 9 (.bIX (Tm 8)) 7 false,gC 10 .gtr 9 16 7 false,iQ 11 7 10,iM 12 11,gM 13 0 12 false,iG 14 (.bIY (Tm 13) (Ci 0)) 12 false,gK 15 65 14 12 false,iG 16 (.un .not (Tm 15)) 12 false,iQ 17 12 16]
def wR:Rg:=[iT 2 false]
def aiF:Rg:=[iI 3 0]
def aiG:Rg:=[iM 18 3,iM 19 0,iA 20 (.bIX (Tm 19)),iB 21 .lss 18 20]
def aiH:Rg:=[iM 24 0,iM 25 3,iA 26 (.bIY (Tm 24) (Tm 25)),iK 27 64 26,iA 28 (.un .not (Tm 27))]
def aiI:Rg:=[iT 2 false]
def aiJ:Rg:=[iM 22 3,iC 23 .add 22 1,iM 3 23]
def aiC:aB:=(.seq (sq aiG (.cond (Tm 21) .skip (.exit 0))) (.seq (.block 1 (sq aiH (.cond (Tm 28) (sq aiI .ret) .skip))) (.region aiJ)))
def aiK:Rg:=[iT 2 true]
def yX:aB:=(sq aiD (.seq (sq aiE (.cond (Tm 17) (sq wR .ret) .skip)) (.seq (sq aiF (.block 0 (.loop aiC))) (sq aiK .ret))))
def baR:List Nat:=[]
def SM:aS:=⟨1,29,yX,[.tmp 2]⟩
theorem pG (P:List Nat) (v:Nat):aK P++[[.int .u32 (v:Int)]]=aK (P++[v]):=by simp[aK]
theorem pF {P:List Nat} (h:P.length≤35184372087808):roomFor (aK P).length 1 4:=by
 unfold roomFor
 rw[bV]
 simp only[maxLen]; omega
def SH (a b:List Nat) (v:PV) (c i:Nat):PF:=(((((PF.nil.set 0 (aJ a)).set 1 (aJ b)).set 5 (v)).set 6 (.int .u64 c)).set 7 (.int .i64 i))
theorem bhU {C:Ctx} (L:oX C) (a b:List Nat) (ha:Lim a) (hb:Lim b) (hle:val b≤val a) (hl:b.length≤a.length) (h1:a.length≤35184372087808) :
  DC.wp C (aR ahA.res (bQ (aJ (aH (val a-val b))))) (PF.args [aJ a,aJ b]) .nil:=by
 simp only[go_sem,DC,avL,avM,avN,avO,ahA]
 refine wp_loop (α:=List Nat × Nat × PV × PH) (fun s=>SH a b s.2.2.1 s.2.1 s.1.length) (fun s=>s.2.2.2)
  (fun s=>s.1.length≤a.length∧Lim s.1∧s.2.1≤1∧val (a.take s.1.length)+4294967296 ^ s.1.length*s.2.1=val s.1+val (b.take s.1.length)∧aX s.2.2.2 1 s.2.2.1 (aK s.1)) (fun s=>a.length-s.1.length) ([],0,.bHP,.nil) ⟨by simp,by simp[Lim],by simp,by simp[val],.nil⟩ ?_ PH.nil_le ?_
 ·unfold SH
  exact Lq
 rintro⟨P,c,v,H0⟩ ⟨hP,bIM,hc,bII,hO⟩
 simp only at hP bIM hc bII hO ⊢
 simp only[go_sem,γ,reduceCtorEq,ahB,avP,SH]
 by_cases c1:P.length<a.length
 ·have c1':(P.length:Int)<(a.length:Nat):=by omega
  have hai:=ha _ (bJZ c1)
  have hta:=bZ a c1
  have hac:(aK a)[P.length]?=some [.int .u32 ((a[P.length]:Nat):Int)]:=bO a c1
  generalize hx:a[P.length]=x at *
  have ex:IntKind.u64.wrap ((x:Nat):Int)=((x:Nat):Int):=bE Om
  have fin:∀ (t:Nat) (F':PF),t<4294967296→val (b.take (P.length+1))=val (b.take P.length)+4294967296 ^ P.length*t →
    F' 0=some (aJ a)→F' 1=some (aJ b)→F' 5=some v→F' 8=some (.int .u64 (c+t:Nat))→F' 7=some (.int .i64 P.length) →
    ∀ K:cA,(∀ P' c' v' F2 H2,P'.length=P.length+1→Lim P'→c'≤1→val (a.take (P.length+1))+4294967296 ^ P'.length*c'=val P'+val (b.take (P.length+1))→(SH a b v' c' P'.length).le F2→aX H2 1 v' (aK P')→K .normal F2 H2) →
    aB.wp C (.seq (.region QF) (.seq (.region QG) (.seq (.seq (.region JG) (.cond (.tmp 35) (.seq (.region JH) (.region JI)) .skip)) (.region wN)))) (dN 1 (iV C (aB.wp C (.region wO)) K)) F' H0:=by
   intro t F' ht htb g0 g1 g5 g8 g7 K hK
   have step:∀ (d c':Nat),d<4294967296→c'≤1→x+4294967296*c'=d+(c+t)→val (a.take (P.length+1))+4294967296 ^ (P.length+1)*c'=val (P++[d])+val (b.take (P.length+1)):=by
    intro d c' hd hc' he
    have h2:4294967296 ^ P.length*(x+4294967296*c')=4294967296 ^ P.length*(d+(c+t)):=by rw[he]
    rw[bKH,bKH,bKH] at h2
    rw[jF,bLL,bKQ,hta,htb]
    omega
   simp only[go_sem,γ,QF,g0,g7,hac,ex,QG,JG,g8]
   by_cases c2:x<c+t
   ·have c2':((x:Nat):Int)<((c+t:Nat):Int):=by omega
    have e1:IntKind.u64.wrap ((x:Int)+4294967296)=((x+4294967296:Nat):Int):=by
     rw[show (x:Int)+4294967296=((x+4294967296:Nat):Int) by omega]
     exact bE Om
    have e2:IntKind.u64.wrap (((x+4294967296:Nat):Int)-((c+t:Nat):Int))=((x+4294967296-(c+t):Nat):Int):=by
     rw[show ((x+4294967296:Nat):Int)-((c+t:Nat):Int)=((x+4294967296-(c+t):Nat):Int) by omega]
     exact bE Om
    have e3:IntKind.u32.wrap ((x+4294967296-(c+t):Nat):Int)=((x+4294967296-(c+t):Nat):Int):=by
     rw[cE,bLB Om]
    have hb1:(1:Nat)*1≤16777216:=by decide
    simp only[go_sem,υ,γ,η,ζ,c2',JH,e1,JI,wN,g5,g8,e2,e3,hb1]
    refine dB (src:=[[.int .u32 ((x+4294967296-(c+t):Nat):Int)]]) hO rfl (pF Om) fun v' H' hO' _=>?_
    rw[pG] at hO'
    simp only[go_sem,γ,wO,g7,cW (Om:P.length<9223372036854775807)]
    refine hK _ 1 v' _ H' (by simp) (bIM.app fun y hy=>by simp at hy; subst hy; omega) (bKB _) ?_ ?_ hO'
    ·rw[bJX,bKD]
     exact step _ 1 Om (bKB _) Om
    ·unfold SH
     rw[bJX,bKD]
     exact Lq
   ·have c2':¬ ((x:Nat):Int)<((c+t:Nat):Int):=by omega
    have e2:IntKind.u64.wrap (((x:Nat):Int)-((c+t:Nat):Int))=((x-(c+t):Nat):Int):=by
     rw[show ((x:Nat):Int)-((c+t:Nat):Int)=((x-(c+t):Nat):Int) by omega]
     exact bE Om
    have e3:IntKind.u32.wrap ((x-(c+t):Nat):Int)=((x-(c+t):Nat):Int):=by
     rw[cE,bLB Om]
    have hb1:(1:Nat)*1≤16777216:=by decide
    simp only[go_sem,υ,γ,η,ζ,c2',wN,g5,g8,e2,e3,hb1]
    refine dB (src:=[[.int .u32 ((x-(c+t):Nat):Int)]]) hO rfl (pF Om) fun v' H' hO' _=>?_
    rw[pG] at hO'
    simp only[go_sem,γ,wO,g7,cW (Om:P.length<9223372036854775807)]
    refine hK _ 0 v' _ H' (by simp) (bIM.app fun y hy=>by simp at hy; subst hy; omega) (by decide) ?_ ?_ hO'
    ·rw[bJX,bKD]
     exact step _ 0 Om (by decide) Om
    ·unfold SH
     rw[bJX,bKD]
     exact Lq
  simp only[aB.wp,go_sem] at fin
  simp only[go_sem,γ,reduceCtorEq,c1',avQ,avR]
  by_cases c3:P.length<b.length
  ·have c3':(P.length:Int)<(b.length:Nat):=by omega
   have hbi:=hb _ (bJZ c3)
   have htb:=bZ b c3
   have eb:IntKind.u64.wrap ((b[P.length]:Nat):Int)=((b[P.length]:Nat):Int):=bE Om
   have es:IntKind.u64.wrap ((c:Int)+(b[P.length]:Int))=((c+b[P.length]:Nat):Int):=eW Om
   simp only[go_sem,γ,reduceCtorEq,c3',avS,bO b c3,eb,es]
   refine fin b[P.length] _ hbi htb rfl rfl rfl rfl rfl _ ?_
   intro P' c' v' F2 H2 e1 e2 e3 e4 e5 e6
   rw[← e1] at e4
   exact aC (α:=List Nat × Nat × PV × PH) (P',c',v',H2) ⟨by simp only; omega,e2,e3,e4,e6⟩ (by simp only; omega) e5 PH.le_refl
  ·have c3':¬ (P.length:Int)<(b.length:Nat):=by omega
   have htb:val (b.take (P.length+1))=val (b.take P.length)+4294967296 ^ P.length*0:=by rw[bKL Om,bKL Om]; simp
   simp only[go_sem,c3']
   refine fin 0 _ (by decide) htb rfl rfl rfl rfl rfl _ ?_
   intro P' c' v' F2 H2 e1 e2 e3 e4 e5 e6
   rw[← e1] at e4
   exact aC (α:=List Nat × Nat × PV × PH) (P',c',v',H2) ⟨by simp only; omega,e2,e3,e4,e6⟩ (by simp only; omega) e5 PH.le_refl
 ·have e:P.length=a.length:=by omega
  have c1':¬ (P.length:Int)<(a.length:Nat):=by omega
  have hV:val P=val a-val b:=by
   rw[e,bKU,bKL hl] at bII
   have hlt:=eU bIM
   rw[e] at hlt
   rcases bLU c with h | h
   ·subst h; omega
   ·have:c=1:=by omega
    subst this; omega
  simp only[go_sem,γ,reduceCtorEq,c1',ahC]
  have hs:=L.trim _ bIM Om
  rw[hV] at hs
  refine sQ hs hO rfl fun F1 H1 _=>?_
  simp only[go_sem]
  exact aV (.inr rfl) .nil rfl PH.nil_le ⟨.refl _,rfl⟩
def qR (a b:List Nat) (o i:Nat):PF:=((((PF.nil.set 0 (aJ a)).set 1 (aJ b)).set 5 (.osl o 1 0 (a.length+b.length))).set 6 (.int .i64 i))
def utG (a b:List Nat) (o i c j:Nat):PF:=((((((PF.nil.set 0 (aJ a)).set 1 (aJ b)).set 5 (.osl o 1 0 (a.length+b.length))).set 6 (.int .i64 i)).set 7 (.int .u64 c)).set 8 (.int .i64 j))
theorem baD {C:Ctx} (a b:List Nat) (ha:Lim a) (hb:Lim b) (h1:a.length≤35184372087808) (h2:b.length≤35184372087808) (L:List Nat) (i:Nat) (hi:i<a.length) (hI:DR a b L i) (q:Nat) (K:cA) (F:PF) (H:PH) (hF:(qR a b q i).le F) (hH:H q=some (.rows 1 (aK L)))
  (hK:∀ L' F' H',DR a b L' (i+1)→(qR a b q i).le F'→H' q=some (.rows 1 (aK L'))→K .normal F' H') :
  aB.wp C (.block 1 (.seq (.region QN) (.seq (.seq (.region QO) (.block 2 (.loop JM))) (.region JN)))) K F H:=by
 have f0:=hF 0 _ (by unfold qR; simp only[go_sem,reduceCtorEq]; rfl)
 have f1:=hF 1 _ (by unfold qR; simp only[go_sem,γ,reduceCtorEq]; rfl)
 have f5:=hF 5 _ (by unfold qR; simp only[go_sem,γ,reduceCtorEq]; rfl)
 have f6:=hF 6 _ (by unfold qR; simp only[go_sem,γ,reduceCtorEq]; rfl)
 have hx:=ha _ (bJZ hi)
 have hta:=bZ a hi
 generalize hxe:a[i]=x at *
 have hax:(aK a)[i]?=some [.int .u32 ((x:Nat):Int)]:=by rw[bO a hi,hxe]
 simp only[go_sem,QN,QO]
 refine wp_loop (α:=List Nat × Nat × Nat) (fun t=>utG a b q i t.2.1 t.2.2) (fun t=>PH.nil.set q (.rows 1 (aK t.1)))
  (fun t=>t.2.2≤b.length∧t.1.length=a.length+b.length∧Lim t.1∧t.2.1<4294967296∧val t.1+4294967296 ^ (i+t.2.2)*t.2.1=val (a.take i)*val b+4294967296 ^ i*(x*val (b.take t.2.2))∧∀ j y,i+b.length≤j→t.1[j]?=some y→y=0) (fun t=>b.length-t.2.2) (L,0,0)
  ⟨by simp,hI.len,hI.lim,by simp,by simp[val,hI.v],hI.z⟩ ?_ (PH.aG PH.nil_le hH) ?_
 ·unfold utG
  exact Lq
 rintro⟨M,c,j⟩ ⟨hj,hM,bIM,hc,bII,hz⟩
 simp only at hj hM bIM hc bII hz
 simp only[go_sem,γ,reduceCtorEq,JM,avY,utG]
 by_cases c1:j<b.length
 ·have c1':(j:Int)<(b.length:Nat):=by omega
  have hy:=hb _ (bJZ c1)
  have htb:=bZ b c1
  generalize hye:b[j]=y at *
  have hby:(aK b)[j]?=some [.int .u32 ((y:Nat):Int)]:=by rw[bO b c1,hye]
  have hij:i+j<M.length:=by omega
  have hz0:=bIM _ (bJZ hij)
  have bJM:=EP hij
  generalize hze:M[i+j]=z at *
  have hMz:(aK M)[i+j]?=some [.int .u32 ((z:Nat):Int)]:=by rw[bO M hij,hze]
  have ex:IntKind.u64.wrap ((x:Nat):Int)=((x:Nat):Int):=bE Om
  have ey:IntKind.u64.wrap ((y:Nat):Int)=((y:Nat):Int):=bE Om
  have ez:IntKind.u64.wrap ((z:Nat):Int)=((z:Nat):Int):=bE Om
  have em:=aXK hx hy
  have hxy:x*y≤4294967295*4294967295:=Nat.mul_le_mul Om Om
  have e1:IntKind.u64.wrap (((x*y:Nat):Int)+(z:Int))=((x*y+z:Nat):Int):=eW Om
  have e2:IntKind.u64.wrap (((x*y+z:Nat):Int)+(c:Int))=((x*y+z+c:Nat):Int):=eW Om
  have eij:IntKind.i64.wrap ((i:Int)+(j:Int))=((i+j:Nat):Int):=gD Om
  have hlt:((i+j:Nat):Int)<((a.length+b.length:Nat):Int):=by omega
  generalize ht:x*y+z+c=t at *
  have htt:t<4294967296*4294967296:=by omega
  have bIC:(aK M).set (i+j) [.int .u32 ((t%4294967296:Nat):Int)]=aK (M.set (i+j) (t%4294967296)):=fH M (i+j) _
  simp only[go_sem,c1']
  refine bL .nil dJ PH.nil_le ?_
  simp only[go_sem,γ,reduceCtorEq,avZ,hax,hby,ex,ey,em,eij,hlt,hMz,ez,e1,e2,awA,cE,bIC,awB,wI,ahG,ws j]
  refine aC (M.set (i+j) (t%4294967296),t/4294967296,j+1) ⟨by simp only; omega,by simp only[bMG]; exact hM,bIM.set _ (bLG _ (by decide)),by simp only; omega,?_,aiP hz _ _ Om⟩ (by simp only; omega) ?_ (PH.aG PH.nil_le Sq)
  ·simp only
   have h3:=bJM (t%4294967296)
   have h4:4294967296 ^ (i+(j+1))*(t/4294967296)+4294967296 ^ (i+j)*(t%4294967296)=4294967296 ^ (i+j)*t:=by
    rw[← bLZ,bLL,bKQ,← bKH,bMW]
   have h5:4294967296 ^ (i+j)*t=4294967296 ^ (i+j)*(x*y)+4294967296 ^ (i+j)*z+4294967296 ^ (i+j)*c:=by rw[← ht,bKH,bKH]
   have h6:4294967296 ^ i*(x*val (b.take (j+1)))=4294967296 ^ i*(x*val (b.take j))+4294967296 ^ (i+j)*(x*y):=by
    rw[htb,bKH,bKH,Nat.pow_add]
    congr 1
    rw[Nat.mul_left_comm x,bKQ]
   omega
  ·exact Lq
 ·have he:j=b.length:=by omega
  have c1':¬ (j:Int)<(b.length:Nat):=by omega
  subst he
  have hij:i+b.length<M.length:=by omega
  have hz0:M[i+b.length]=0:=hz _ _ (bKB _) (bKG hij)
  have bJM:=EP hij
  have hMz:(aK M)[i+b.length]?=some [.int .u32 ((0:Nat):Int)]:=by rw[bO M hij,hz0]
  have eij:IntKind.i64.wrap ((i:Int)+((b.length:Nat):Int))=((i+b.length:Nat):Int):=gD Om
  have hlt:((i+b.length:Nat):Int)<((a.length+b.length:Nat):Int):=by omega
  have bIC:(aK M).set (i+b.length) [.int .u32 ((c%4294967296:Nat):Int)]=aK (M.set (i+b.length) c):=by
   rw[bLB hc]; exact fH M _ _
  simp only[go_sem,γ,reduceCtorEq,c1',JN,eij,cE,hlt,hMz,bIC]
  refine hK (M.set (i+b.length) c) _ _ ⟨by rw[bMG]; exact hM,bIM.set _ hc,?_,fun j y hj hy=>?_⟩ (by unfold qR; exact Lq) Sq
  ·have h3:=bJM c
   rw[hz0,Nat.mul_zero,bLP] at h3
   rw[h3,bII,bKU,hta,bKW,bKQ]
  ·rw[List.getElem?_set_ne Om] at hy
   exact hz j y Om hy
theorem bhW {C:Ctx} (L:oX C) (a b:List Nat) (ha:Lim a) (hb:Lim b) (h1:a.length≤8388608) (h2:b.length≤8388608) :
  DD.wp C (aR ahE.res (bQ (aJ (aH (val a*val b))))) (PF.args [aJ a,aJ b]) .nil:=by
 have hlen:IntKind.i64.wrap (((a.length:Nat):Int)+((b.length:Nat):Int))=((a.length+b.length:Nat):Int):=gD Om
 have hm1:((a.length+b.length:Nat):Int)*((4:Nat):Int)≤140737488355328:=by omega
 have hm2:((a.length+b.length:Nat):Int)≤9223372036854775807:=by omega
 have hz:bJY (a.length+b.length) [PV.int .u32 0]=aK (bJY (a.length+b.length) 0):=by
  simp[aK]
 simp only[go_sem,γ,reduceCtorEq,DD,avU,avV,ahE,bJT,hlen,hm1,hm2,hz]
 refine aO fun o ho=>?_
 simp only[go_sem,γ,avW]
 refine wp_loop (α:=List Nat × Nat) (fun t=>qR a b o t.2) (fun t=>PH.nil.set o (.rows 1 (aK t.1))) (fun t=>t.2≤a.length∧DR a b t.1 t.2) (fun t=>a.length-t.2) (bJY (a.length+b.length) 0,0)
  ⟨by simp,by simp,uO _,by simp[val,rH],fun j x _ hx=>by rw[List.getElem?_replicate] at hx; split at hx<;>simp_all⟩ ?_ (PH.aG PH.nil_le Sq) ?_
 ·unfold qR
  exact Lq
 rintro⟨M,i⟩ ⟨hi,hI⟩
 simp only at hi hI
 simp only[go_sem,γ,reduceCtorEq,ahF,avX,qR]
 by_cases c1:i<a.length
 ·have c1':(i:Int)<(a.length:Nat):=by omega
  have key:=baD (C:=C) a b ha hb Om Om M i c1 hI o
  simp only[go_sem] at key
  simp only[go_sem,c1']
  refine key _ _ _ (by unfold qR; exact Lq) Sq ?_
  intro L' F' H' hI' hF' hH'
  have g6:=hF' 6 _ (by unfold qR; simp only[go_sem,γ,reduceCtorEq]; rfl)
  have g0:=hF' 0 _ (by unfold qR; simp only[go_sem,reduceCtorEq]; rfl)
  have g1:=hF' 1 _ (by unfold qR; simp only[go_sem,γ,reduceCtorEq]; rfl)
  have g5:=hF' 5 _ (by unfold qR; simp only[go_sem,γ,reduceCtorEq]; rfl)
  simp only[go_sem,γ,ahH,g6,ws i]
  refine aC (L',i+1) ⟨by simp only; omega,hI'⟩ (by simp only; omega) ?_ (PH.aG PH.nil_le hH')
  exact Lq
 ·have he:i=a.length:=by omega
  subst he
  have c1':¬ ((a.length:Nat):Int)<(a.length:Nat):=by omega
  have hV:val M=val a*val b:=by rw[hI.v,bKU]
  simp only[go_sem,γ,reduceCtorEq,ahI]
  have hs:=L.trim _ hI.lim (by rw[hI.len]; omega)
  rw[hV] at hs
  refine pN (o:=o) (s:=1) (k:=a.length+b.length) (rs:=aK M) (v:=aJ (aH (val a*val b))) ?_ rfl Sq (by rw[bV,hI.len]; exact bKB _) ?_
  ·rw[bKL (by rw[bV,hI.len]; exact bKB _)]; exact hs
  ·simp only[go_sem,γ,reduceCtorEq]
   exact aV (.inr rfl) .nil rfl PH.nil_le ⟨.refl _,rfl⟩
structure aAF (C:Ctx):Prop extends aAD C where
 minus:∀ a b,Lim a→Lim b→val b≤val a→b.length≤a.length→a.length≤35184372087808→aI C 42 [aJ a,aJ b] .nil (aD (aJ (aH (val a-val b))))
 times:∀ a b,Lim a→Lim b→a.length≤8388608→b.length≤8388608→aI C 44 [aJ a,aJ b] .nil (aD (aJ (aH (val a*val b))))
theorem bvD {C:Ctx} (L:aAF C) (a b:List Nat) (ha:Lim a) (hb:Lim b) (la:a.length≤35184372087808) (lb:b.length≤35184372087808) :
  QH.wp C (aR baA.res (bQ (opV (dO (val a) (val b)) (val a*val b)))) (PF.args [aJ a,aJ b]) .nil:=by
 unfold opV
 simp only[go_sem,reduceCtorEq,QH,a1I,a1J,baA]
 refine aA (L.large a ha la) rfl ?_
 by_cases c1:nl (val a)>512
 ·simp only[go_sem,γ,c1,amU]
  rw[if_pos (by simp[dO,c1])]
  exact eJ rfl
 simp only[go_sem,γ,c1]
 refine aA (L.large b hb lb) rfl ?_
 by_cases c2:nl (val b)>512
 ·simp only[go_sem,γ,reduceCtorEq,c2,amU]
  rw[if_pos (by simp[dO,c2])]
  exact eJ rfl
 rw[if_neg (by simp[dO,c1,c2])]
 simp only[go_sem,γ,reduceCtorEq,c2,a1K]
 refine aA (L.trim a ha la) rfl ?_
 simp only[go_sem,γ]
 refine aA (L.trim b hb lb) rfl ?_
 simp only[go_sem]
 have ht:=L.times (aH (val a)) (aH (val b)) (aU _) (aU _) (by rw[aZ]; omega) (by rw[aZ]; omega)
 rw[aQ,aQ] at ht
 refine aA ht rfl ?_
 have n1:=lC (a:=val a) (b:=val b) (m:=512) (n:=512) Om Om
 have hl:=L.large (aH (val a*val b)) (aU _) (by rw[aZ]; omega)
 rw[aQ] at hl
 simp only[go_sem,γ,a1L]
 refine aA hl rfl ?_
 unfold szV szL szE
 by_cases c3:nl (val a*val b)>512
 ·rw[if_pos c3,if_pos c3]
  simp only[go_sem,γ,c3,a1M]
  exact eJ rfl
 ·rw[if_neg c3,if_neg c3]
  simp only[go_sem,γ,c3,a1N]
  exact aV (.inr rfl) .nil rfl PH.nil_le ⟨.refl _,rfl⟩
def vO (a:List Nat) (i:Nat):Nat:=a.getD i 0
theorem aAW {a:List Nat} (h:Lim a) (i:Nat):vO a i<4294967296:=by
 unfold vO
 rw[bKK]
 rcases bKO i a.length with h1 | h1
 ·rw[bKG h1]; exact h _ (bJZ h1)
 ·rw[bLH h1]; decide
theorem VT {a:List Nat} {i:Nat} (h:i<a.length):vO a i=a[i]:=by simp[vO,bKK,h]
theorem MC {a:List Nat} {i:Nat} (h:¬ i<a.length):vO a i=0:=by simp[vO,bKK,h]
theorem QP (a:List Nat) (i:Nat):val (a.take (i+1))=val (a.take i)+4294967296 ^ i*vO a i:=by
 rcases bKO i a.length with h | h
 ·rw[VT h]; exact bZ a h
 ·rw[MC Om,bKL Om,bKL Om]; simp
def sN (a b:List Nat) (v:PV) (c i:Nat):PF:=(((((PF.nil.set 0 (aJ a)).set 1 (aJ b)).set 5 (v)).set 6 (.int .u64 c)).set 7 (.int .i64 i))
theorem bpJ {C:Ctx} (L:oX C) (a b:List Nat) (ha:Lim a) (hb:Lim b) (h1:a.length≤8388608) (h2:b.length≤8388608) :
  JJ.wp C (aR azJ.res (bQ (aJ (aH (val a+val b))))) (PF.args [aJ a,aJ b]) .nil:=by
 simp only[go_sem,JJ,aOI,aOJ,aOK,aOL,azJ]
 refine wp_loop (α:=List Nat × Nat × PV × PH) (fun s=>sN a b s.2.2.1 s.2.1 s.1.length) (fun s=>s.2.2.2)
  (fun s=>s.1.length≤max a.length b.length+1∧(s.1.length≤max a.length b.length∨s.2.1=0)∧Lim s.1∧s.2.1≤1∧val s.1+4294967296 ^ s.1.length*s.2.1=val (a.take s.1.length)+val (b.take s.1.length)∧aX s.2.2.2 1 s.2.2.1 (aK s.1)) (fun s=>max a.length b.length+1-s.1.length) ([],0,.bHP,.nil)
  ⟨by simp,by simp,by simp[Lim],by simp,by simp[val],.nil⟩ ?_ PH.nil_le ?_
 ·unfold sN
  exact Lq
 rintro⟨P,c,v,H0⟩ ⟨hP,hPc,bIM,hc,bII,hO⟩
 simp only at hP hPc bIM hc bII hO ⊢
 have hda:=aAW ha P.length
 have hdb:=aAW hb P.length
 have hta:=QP a P.length
 have htb:=QP b P.length
 generalize hx:vO a P.length=x at *
 generalize hy:vO b P.length=y at *
 have ex:IntKind.u64.wrap ((x:Nat):Int)=((x:Nat):Int):=bE Om
 have ey:IntKind.u64.wrap ((y:Nat):Int)=((y:Nat):Int):=bE Om
 have e1:IntKind.u64.wrap ((c:Int)+(x:Int))=((c+x:Nat):Int):=eW Om
 have e2:IntKind.u64.wrap (((c+x:Nat):Int)+(y:Int))=((c+x+y:Nat):Int):=eW Om
 have hra:P.length<a.length→(aK a)[P.length]?=some [.int .u32 ((x:Nat):Int)]:=fun h=>by rw[bO a h,← hx,VT h]
 have hrb:P.length<b.length→(aK b)[P.length]?=some [.int .u32 ((y:Nat):Int)]:=fun h=>by rw[bO b h,← hy,VT h]
 have hxa:¬ P.length<a.length→x=0:=fun h=>by rw[← hx,MC h]
 have hyb:¬ P.length<b.length→y=0:=fun h=>by rw[← hy,MC h]
 have body:(P.length≤max a.length b.length)→∀ K:cA,(∀ P' c' v' F2 H2,P'.length=P.length+1→Lim P'→c'≤1→(P.length+1≤max a.length b.length∨c'=0)→val P'+4294967296 ^ P'.length*c'=val (a.take (P.length+1))+val (b.take (P.length+1))→(sN a b v' c' P'.length).le F2→aX H2 1 v' (aK P')→K .normal F2 H2) →
   ∀ F:PF,(sN a b v c P.length).le F→aB.wp C (.seq (.block 1 (.seq (.region ZM) (.seq (.seq (.region ZN) (.cond (.tmp 29) (.region ZO) .skip)) (.seq (.seq (.region JK) (.cond (.tmp 40) (.region JL) .skip)) (.seq (.region AK) (.region AL)))))) (.region AM)) K F H0:=by
  intro hle K hK F hF
  have g0:F 0=some (aJ a):=hF 0 _ (by unfold sN; simp only[go_sem,reduceCtorEq])
  have g1:F 1=some (aJ b):=hF 1 _ (by unfold sN; simp only[go_sem,γ,reduceCtorEq])
  have g5:F 5=some v:=hF 5 _ (by unfold sN; simp only[go_sem,γ,reduceCtorEq])
  have g6:F 6=some (.int .u64 c):=hF 6 _ (by unfold sN; simp only[go_sem,γ,reduceCtorEq])
  have g7:F 7=some (.int .i64 P.length):=hF 7 _ (by unfold sN; simp only[go_sem,γ,reduceCtorEq])
  have fin:∀ F':PF,F' 0=some (aJ a)→F' 1=some (aJ b)→F' 5=some v→F' 7=some (.int .i64 P.length)→F' 8=some (.int .u64 (c+x+y:Nat)) →
    aB.wp C (.seq (.region AK) (.region AL)) (dN 1 (iV C (aB.wp C (.region AM)) K)) F' H0:=by
   intro F' q0 q1 q5 q7 q8
   have hb1:(1:Nat)*1≤16777216:=by decide
   generalize ht:c+x+y=t at *
   have htt:t<2*4294967296:=by omega
   simp only[go_sem,υ,γ,η,ζ,AK,q5,q8,hb1,cE]
   refine dB (src:=[[.int .u32 ((t%4294967296:Nat):Int)]]) hO rfl (pF Om) fun v' H' hO' _=>?_
   rw[pG] at hO'
   simp only[go_sem,γ,AL,q8,wI,AM,q7,cW (Om:P.length<9223372036854775807)]
   refine hK (P++[t%4294967296]) (t/4294967296) v' _ H' (by simp) (bIM.app fun y hy=>by simp at hy; subst hy; omega) Om ?_ ?_ ?_ hO'
   ·rcases bKO P.length (max a.length b.length) with h | h
    ·exact .inl h
    ·right
     have h1:=hxa Om
     have h2:=hyb Om
     omega
   ·rw[jF,bJX,bKD,hta,htb,bLL,bKQ,bLZ,← bKH]
    rw[show t%4294967296+4294967296*(t/4294967296)=t from Nat.mod_add_div t 4294967296]
    have h3:4294967296 ^ P.length*t=4294967296 ^ P.length*c+4294967296 ^ P.length*x+4294967296 ^ P.length*y:=by rw[← ht,bKH,bKH]
    omega
   ·unfold sN
    rw[bJX,bKD]
    exact Lq
  simp only[aB.wp,go_sem] at fin
  simp only[go_sem,γ,reduceCtorEq,ZM,g6,ZN,g7,g0]
  by_cases c1:P.length<a.length
  ·have c1':(P.length:Int)<(a.length:Nat):=by omega
   simp only[go_sem,γ,reduceCtorEq,c1',ZO,g0,g7,hra c1,ex,e1,JK,g1]
   by_cases c2:P.length<b.length
   ·have c2':(P.length:Int)<(b.length:Nat):=by omega
    simp only[go_sem,γ,c2',JL,g1,g7,hrb c2,ey,e2]
    exact fin _ (by simp only[go_sem,reduceCtorEq,g0]) (by simp only[go_sem,γ,g1]) (by simp only[go_sem,γ,g5]) (by simp only[go_sem,γ,g7]) rfl
   ·have c2':¬ (P.length:Int)<(b.length:Nat):=by omega
    have h0:=hyb c2
    simp only[go_sem,c2']
    exact fin _ (by simp only[go_sem,reduceCtorEq,g0]) (by simp only[go_sem,γ,g1]) (by simp only[go_sem,γ,g5]) (by simp only[go_sem,γ,g7]) (by simp only[go_sem,γ,h0])
  ·have c1':¬ (P.length:Int)<(a.length:Nat):=by omega
   have h0:=hxa c1
   simp only[go_sem,γ,c1',JK,g1,g7]
   by_cases c2:P.length<b.length
   ·have c2':(P.length:Int)<(b.length:Nat):=by omega
    have e2':IntKind.u64.wrap ((c:Int)+(y:Int))=((c+x+y:Nat):Int):=by rw[h0]; exact eW Om
    simp only[go_sem,γ,c2',JL,g1,g7,hrb c2,ey,e2']
    exact fin _ (by simp only[go_sem,reduceCtorEq,g0]) (by simp only[go_sem,γ,g1]) (by simp only[go_sem,γ,g5]) (by simp only[go_sem,γ,g7]) rfl
   ·have c2':¬ (P.length:Int)<(b.length:Nat):=by omega
    have h0':=hyb c2
    simp only[go_sem,c2']
    exact fin _ (by simp only[go_sem,reduceCtorEq,g0]) (by simp only[go_sem,γ,g1]) (by simp only[go_sem,γ,g5]) (by simp only[go_sem,γ,g7]) (by simp only[go_sem,γ,h0,h0'])
 simp only[aB.wp,go_sem] at body
 have hexit:¬ P.length<a.length→¬ P.length<b.length→c=0→∀ F:PF,F 5=some v→aB.wp C (.seq (.region QK) .ret) (aR [.tmp 4] (bQ (aJ (aH (val a+val b))))) F H0:=by
  intro n1 n2 n3 F f5
  have hV:val P=val a+val b:=by
   rw[n3,bKL Om,bKL Om] at bII
   omega
  have hs:=L.trim _ bIM Om
  rw[hV] at hs
  simp only[go_sem,QK,f5]
  refine sQ hs hO rfl fun F1 H1 _=>?_
  simp only[go_sem]
  exact aV (.inr rfl) .nil rfl PH.nil_le ⟨.refl _,rfl⟩
 simp only[aB.wp,go_sem] at hexit
 simp only[go_sem,γ,reduceCtorEq,avT,aOM,sN]
 by_cases c1:P.length<a.length
 ·have c1':(P.length:Int)<(a.length:Nat):=by omega
  simp only[go_sem,γ,reduceCtorEq,c1']
  refine body Om _ ?_ _ (by unfold sN; exact Lq)
  intro P' c' v' F2 H2 e1 e2 e3 e4 e5 e6 e7
  rw[← e1] at e5 e4
  exact aC (α:=List Nat × Nat × PV × PH) (P',c',v',H2) ⟨by simp only; omega,e4,e2,e3,e5,e7⟩ (by simp only; omega) e6 PH.le_refl
 ·have c1':¬ (P.length:Int)<(a.length:Nat):=by omega
  simp only[go_sem,γ,reduceCtorEq,c1']
  by_cases c2:P.length<b.length
  ·have c2':(P.length:Int)<(b.length:Nat):=by omega
   simp only[go_sem,γ,reduceCtorEq,c2']
   refine body Om _ ?_ _ (by unfold sN; exact Lq)
   intro P' c' v' F2 H2 e1 e2 e3 e4 e5 e6 e7
   rw[← e1] at e5 e4
   exact aC (α:=List Nat × Nat × PV × PH) (P',c',v',H2) ⟨by simp only; omega,e4,e2,e3,e5,e7⟩ (by simp only; omega) e6 PH.le_refl
  ·have c2':¬ (P.length:Int)<(b.length:Nat):=by omega
   simp only[go_sem,γ,reduceCtorEq,c2']
   by_cases c3:c=0
   ·have c3':¬ (c:Int)>0:=by omega
    simp only[go_sem,c3']
    exact hexit c1 c2 c3 _ rfl
   ·have c3':(c:Int)>0:=by omega
    simp only[go_sem,c3']
    refine body Om _ ?_ _ (by unfold sN; exact Lq)
    intro P' c' v' F2 H2 e1 e2 e3 e4 e5 e6 e7
    rw[← e1] at e5 e4
    exact aC (α:=List Nat × Nat × PV × PH) (P',c',v',H2) ⟨by simp only; omega,e4,e2,e3,e5,e7⟩ (by simp only; omega) e6 PH.le_refl
structure aaK (C:Ctx):Prop extends aAF C where
 plus:∀ a b,Lim a→Lim b→a.length≤8388608→b.length≤8388608→aI C 43 [aJ a,aJ b] .nil (aD (aJ (aH (val a+val b))))
theorem buV {C:Ctx} (L:aaK C) (a b:List Nat) (ha:Lim a) (hb:Lim b) (la:a.length≤35184372087808) (lb:b.length≤35184372087808) :
  PZ.wp C (aR a9S.res (bQ (opV (dO (val a) (val b)) (val a+val b)))) (PF.args [aJ a,aJ b]) .nil:=by
 unfold opV
 simp only[go_sem,reduceCtorEq,PZ,a0E,a0F,a9S]
 refine aA (L.large a ha la) rfl ?_
 by_cases c1:nl (val a)>512
 ·simp only[go_sem,γ,c1,amR]
  rw[if_pos (by simp[dO,c1])]
  exact eJ rfl
 simp only[go_sem,γ,c1]
 refine aA (L.large b hb lb) rfl ?_
 by_cases c2:nl (val b)>512
 ·simp only[go_sem,γ,reduceCtorEq,c2,amR]
  rw[if_pos (by simp[dO,c2])]
  exact eJ rfl
 rw[if_neg (by simp[dO,c1,c2])]
 simp only[go_sem,γ,reduceCtorEq,c2,a0G]
 refine aA (L.trim a ha la) rfl ?_
 simp only[go_sem,γ]
 refine aA (L.trim b hb lb) rfl ?_
 simp only[go_sem]
 have ht:=L.plus (aH (val a)) (aH (val b)) (aU _) (aU _) (by rw[aZ]; omega) (by rw[aZ]; omega)
 rw[aQ,aQ] at ht
 refine aA ht rfl ?_
 have n1:=aIG (a:=val a) (b:=val b) (m:=512) Om Om
 have hl:=L.large (aH (val a+val b)) (aU _) (by rw[aZ]; omega)
 rw[aQ] at hl
 simp only[go_sem,γ,a0H]
 refine aA hl rfl ?_
 unfold szV szL szE
 by_cases c3:nl (val a+val b)>512
 ·rw[if_pos c3,if_pos c3]
  simp only[go_sem,γ,c3,a0I]
  exact eJ rfl
 ·rw[if_neg c3,if_neg c3]
  simp only[go_sem,γ,c3,a0J]
  exact aV (.inr rfl) .nil rfl PH.nil_le ⟨.refl _,rfl⟩
theorem bvH {C:Ctx} (L:aaK C) (a b:List Nat) (ha:Lim a) (hb:Lim b) (la:a.length≤35184372087808) (lb:b.length≤35184372087808) :
  QM.wp C (aR baC.res (bQ (qQ (val a) (val b)))) (PF.args [aJ a,aJ b]) .nil:=by
 unfold qQ
 simp only[go_sem,reduceCtorEq,QM,a1O,a1P,baC]
 refine aA (L.large a ha la) rfl ?_
 by_cases c1:nl (val a)>512
 ·simp only[go_sem,γ,c1,amV]
  rw[if_pos (by simp[dO,c1])]
  exact eJ rfl
 simp only[go_sem,γ,c1]
 refine aA (L.large b hb lb) rfl ?_
 by_cases c2:nl (val b)>512
 ·simp only[go_sem,γ,reduceCtorEq,c2,amV]
  rw[if_pos (by simp[dO,c2])]
  exact eJ rfl
 rw[if_neg (by simp[dO,c1,c2])]
 simp only[go_sem,γ,reduceCtorEq,c2,a1Q]
 refine aA (L.cmp a b ha hb la lb) rfl ?_
 by_cases c3:val a<val b
 ·have:dC (val a) (val b)=-1:=by simp[dC,c3]
  rw[if_pos c3]
  simp only[go_sem,ο,γ,this,show ((-1:Int)<0) by decide,a1R]
  exact eJ rfl
 ·have:¬ dC (val a) (val b)<0:=by
   unfold dC
   rw[if_neg c3]
   split<;>decide
  rw[if_neg c3]
  have n1:=fN (Nat.sub_le (val a) (val b))
  have n2:=fN (Om:val b≤val a)
  simp only[go_sem,γ,reduceCtorEq,this,a1S]
  refine aA (L.trim a ha la) rfl ?_
  simp only[go_sem,γ]
  refine aA (L.trim b hb lb) rfl ?_
  simp only[go_sem]
  have ht:=L.minus (aH (val a)) (aH (val b)) (aU _) (aU _) (by rw[aQ,aQ]; omega) (by rw[aZ,aZ]; exact n2) (by rw[aZ]; omega)
  rw[aQ,aQ] at ht
  refine aA ht rfl ?_
  rw[yP Om]
  simp only[go_sem,γ]
  exact aV (.inr rfl) .nil rfl PH.nil_le ⟨.refl _,rfl⟩
def aNG (k:Nat) (v:Nat):PF:=((PF.nil.set 3 (.int .i64 k)).set 4 (.int .u32 v))
theorem boX {C:Ctx} (L:oX C) (xs:List Nat) (hx:Lim xs) (lx:xs.length≤35184372087808) :
  JA.wp C (aR azG.res (aD (.int .i64 (cF (val xs):Nat)))) (PF.args [aJ xs]) .nil:=by
 simp only[go_sem,reduceCtorEq,JA,aNI,aNJ,azG]
 refine aA (L.trim xs hx lx) rfl ?_
 have bx:=fG hx
 simp only[go_sem,γ,reduceCtorEq,aNK,bJT,aZ,AJ]
 by_cases c1:nl (val xs)=0
 ·simp only[go_sem,decide_eq_true c1,aNL]
  refine aM (.inr rfl) rfl ?_
  have:val xs=0:=gZ.1 c1
  simp[bH,this,jI]
 obtain⟨n,hn⟩:∃ n,nl (val xs)=n+1:=⟨nl (val xs)-1,by omega⟩
 obtain⟨t,ht,ht0⟩:=aMB (xs:=aH (val xs)) (aU _) (by rw[aQ]; exact hn)
 have htl:t<4294967296:=aU _ t (bMI ht)
 have hv:val xs=val ((aH (val xs)).take n)+4294967296 ^ n*t:=by
  have:=aQ (val xs)
  have hnl:n<(aH (val xs)).length:=by rw[aZ]; omega
  have hg:(aH (val xs))[n]=t:=by rw[bKG hnl] at ht; exact bMC.inj ht
  conv=>lhs; rw[← this,← bKL (l:=aH (val xs)) (i:=n+1) (by rw[aZ]; omega)]
  rw[bZ _ hnl,hg]
 have hb:cF (val xs)=32*n+cF t:=by
  have h3:=eU ((aU (val xs)).take n)
  rw[bKN,aZ,bLW Om] at h3
  have hk:=aAS (lo:=val ((aH (val xs)).take n)) (k:=32*n) (hi:=t) (by rw[Nat.pow_mul]; exact h3) ht0
  rw[← hk,Nat.pow_mul]
  exact congrArg cF hv
 have bIC:(aK (aH (val xs)))[n]?=some [.int .u32 (t:Nat)]:=by
  simp[aK,ht]
 have e1:IntKind.i64.wrap (((nl (val xs):Nat):Int)-1)=(n:Int):=by rw[wrap_i64 Om Om]; omega
 have e2:IntKind.i64.wrap (32*(n:Int))=((32*n:Nat):Int):=by rw[wrap_i64 Om Om]; omega
 simp only[go_sem,γ,reduceCtorEq,decide_eq_false c1,aNM,aNN,bJT,aZ,e1,e2,bIC]
 refine wp_loop (α:=Nat × Nat) (fun a=>aNG a.1 a.2) (fun _=>.nil) (fun a=>a.1+cF a.2=32*n+cF t∧a.2<4294967296) (fun a=>a.2) (32*n,t) ⟨rfl,htl⟩ ?_ PH.nil_le ?_
 ·unfold aNG
  exact Lq
 rintro⟨k,v⟩ ⟨hk,hlt⟩
 simp only at hk hlt
 have hk32:cF t≤32:=(lJ t 32).2 htl
 simp only[go_sem,γ,aNH,aNO,aNG]
 by_cases c2:(v:Int)>0
 ·have hv0:v≠0:=by omega
  have hsh:IntKind.u32.wrap (Int.tdiv (v:Int) 2)=((v/2:Nat):Int):=by
   rw[show Int.tdiv (v:Int) 2=((v/2:Nat):Int) from Int.ofNat_tdiv v 2,cE,bLB Om]
  simp only[go_sem,μ,γ,c2,aNP,aNQ,hsh,ws k]
  refine aC (k+1,v/2) ⟨?_,?_⟩ (Nat.div_lt_self Om (by decide)) ?_ PH.nil_le
  ·have:=oJ hv0
   simp only; omega
  ·simp only; omega
  ·exact Lq
 ·have:v=0:=by omega
  subst this
  simp only[go_sem,γ,c2,avG]
  refine aM (.inr rfl) rfl ?_
  rw[jI] at hk
  simp only[bH,PV.int.injEq,true_and]
  omega
theorem aqV (n:Nat):4294967296 ^ (n/32)*2 ^ (n%32)=2 ^ n:=by
 rw[show (4294967296:Nat)=2 ^ 32 by decide,← Nat.pow_mul,← Nat.pow_add]
 congr 1
 omega
theorem bhA (n:Nat):IntKind.i64.wrap (Int.tdiv (n:Int) 32)=IntKind.i64.wrap ((n/32:Nat):Int):=by
 rw[show Int.tdiv (n:Int) 32=((n/32:Nat):Int) from Int.ofNat_tdiv n 32]
theorem bhF (n:Nat):Int.tmod (n:Int) 32=((n%32:Nat):Int):=Int.ofNat_tmod n 32
def bpO (a:List Nat) (n:Nat) (v:PV) (c i:Nat):PF:=(((((PF.nil.set 0 (aJ a)).set 1 (.int .i64 n)).set 5 (v)).set 6 (.int .u64 c)).set 7 (.int .i64 i))
theorem byC {C:Ctx} (L:oX C) (a:List Nat) (n:Nat) (ha:Lim a) (h1:a.length≤8388608) (hn:n≤8388608) (h0:a.length=0→val a=0) :
  ZQ.wp C (aR uup.res (mX 1 (aK (aH (val a*2 ^ n))))) (PF.args [aJ a,.int .i64 n]) .nil:=by
 simp only[go_sem,γ,reduceCtorEq,ZQ,bhY,bhZ,uup,bJT,AJ]
 by_cases c0:a.length=0
 ·simp only[go_sem,decide_eq_true c0,biA]
  rw[h0 c0,Nat.zero_mul,fJ]
  exact EI (.inr rfl) rfl
 have ez:IntKind.i64.wrap (Int.tdiv (n:Int) 32)=((n/32:Nat):Int):=by rw[bhA,ZR Om]
 have em:=bhF n
 have eu:IntKind.u64.wrap ((n%32:Nat):Int)=((n%32:Nat):Int):=bE Om
 have hsp:=aqV n
 have hs:n%32<32:=bLG _ (by decide)
 have hz:n/32≤8388608:=by omega
 generalize hzz:n/32=z at *
 generalize hss:n%32=s at *
 have hm1:((z:Nat):Int)*((4:Nat):Int)≤140737488355328:=by omega
 have hm2:((z:Nat):Int)≤9223372036854775807:=by omega
 have hzr:bJY z [PV.int .u32 0]=aK (bJY z 0):=by
  simp[aK]
 have h2s:2 ^ s≤2147483648:=Nat.pow_le_pow_right (show 0<2 by decide) (Om:s≤31)
 have h2s0:0<2 ^ s:=bMJ (by decide)
 simp only[go_sem,μ,γ,decide_eq_false c0,biB,ez,hm1,hm2,hzr]
 refine aO fun o ho=>?_
 simp only[go_sem,γ,biC,biD]
 refine wp_loop (α:=List Nat × Nat × Nat × PV × PH) (fun t=>bpO a n t.2.2.2.1 t.2.1 t.2.2.1) (fun t=>t.2.2.2.2)
  (fun t=>t.2.2.1≤a.length∧t.1.length=z+t.2.2.1∧Lim t.1∧t.2.1<2 ^ s∧val t.1+4294967296 ^ t.1.length*t.2.1=val (a.take t.2.2.1)*2 ^ n∧aX t.2.2.2.2 1 t.2.2.2.1 (aK t.1)) (fun t=>a.length-t.2.2.1) (bJY z 0,0,0,.osl o 1 0 z,PH.nil.set o (.rows 1 (aK (bJY z 0))))
  ⟨by simp,by simp,uO _,h2s0,by simp[val,rH],.inr ⟨o,aK (bJY z 0),by rw[bV,List.length_replicate],by simp only[go_sem],by rw[bV]; exact bKB _,bKU⟩⟩ ?_ PH.le_refl ?_
 ·unfold bpO
  exact Lq
 rintro⟨P,c,i,v,H0⟩ ⟨hi,hP,bIM,hc,bII,hO⟩
 simp only at hi hP bIM hc bII hO ⊢
 simp only[go_sem,γ,reduceCtorEq,a1T,biE,bpO]
 by_cases c1:i<a.length
 ·have c1':(i:Int)<(a.length:Nat):=by omega
  have hai:=ha _ (bJZ c1)
  have hta:=bZ a c1
  have hax:=bO a c1
  generalize hx:a[i]=x at *
  have hxs:x*2 ^ s≤4294967295*2147483648:=Nat.mul_le_mul Om h2s
  have ex:IntKind.u64.wrap ((x:Nat):Int)=((x:Nat):Int):=bE Om
  have hxs':2 ^ s*x=x*2 ^ s:=bKT _ _
  have esh:shift .shl .u64 (x:Int) (s:Int)=some (.int .u64 ((2 ^ s*x:Nat):Int)):=IF Om Om
  have eor:=orI (a:=2 ^ s*x) (b:=c) (n:=c+2 ^ s*x) Om Om (by rw[Nat.or_comm]; exact aJG hc Om) Om
  have hdig:(c+2 ^ s*x)/4294967296<2 ^ s:=by
   rw[bMN (by decide)]
   have:2 ^ s*(x+1)≤2 ^ s*4294967296:=bMA _ Om
   rw[bKH,Nat.mul_one] at this
   omega
  have hb1:(1:Nat)*1≤16777216:=by decide
  simp only[go_sem,μ,υ,γ,η,ζ,reduceCtorEq,c1',biF,hax,ex,em,eu,esh,eor,biG,cE,hb1]
  refine dB (src:=[[.int .u32 (((c+2 ^ s*x)%4294967296:Nat):Int)]]) hO rfl (pF Om) fun v' H' hO' _=>?_
  rw[pG] at hO'
  simp only[go_sem,γ,reduceCtorEq,biH,wI,a1U,ws i]
  refine aC (P++[(c+2 ^ s*x)%4294967296],(c+2 ^ s*x)/4294967296,i+1,v',H') ⟨by simp only; omega,by simp; omega,bIM.app fun y hy=>by simp at hy; subst hy; exact bLG _ (by decide),hdig,?_,hO'⟩ (by simp only; omega) ?_ PH.le_refl
  ·simp only
   have hp:4294967296 ^ P.length*(2 ^ s*x)=4294967296 ^ i*x*2 ^ n:=by
    rw[hP,Nat.pow_add,← hsp]
    rw[bKQ,Nat.mul_left_comm (4294967296 ^ i),← bKQ (4294967296 ^ z),bKT (4294967296 ^ z*2 ^ s),bKQ,bKT x]
   rw[jF,bJX,bKD,bLL,bKQ,bLZ,← bKH,Nat.mod_add_div,hta,bKH,bKW,← bLZ,bII,hp]
  ·exact Lq
 ·have e:i=a.length:=by omega
  subst e
  have c1':¬ ((a.length:Nat):Int)<(a.length:Nat):=by omega
  have hb1:(1:Nat)*1≤16777216:=by decide
  have hV:val (P++[c])=val a*2 ^ n:=by
   rw[jF,bII,bKU]
  have hLc:Lim (P++[c]):=bIM.app fun x hx=>by simp at hx; omega
  have ec:IntKind.u32.wrap ((c:Nat):Int)=((c:Nat):Int):=by rw[cE,bLB Om]
  simp only[go_sem,υ,γ,η,ζ,reduceCtorEq,c1',a1V,ec,hb1]
  refine dB (src:=[[.int .u32 ((c:Nat):Int)]]) hO rfl (pF Om) fun v' H' hO' _=>?_
  rw[pG] at hO'
  have hs:=L.trimM _ hLc (by simp; omega)
  rw[hV] at hs
  refine ayG hs hO' rfl fun F1 H1 _ r H2 hr _=>?_
  simp only[go_sem]
  exact bfR (.inr rfl) hr rfl
def QC (a:List Nat) (n:Nat) (v:PV) (i:Nat):PF:=((((PF.nil.set 0 (aJ a)).set 1 (.int .i64 n)).set 5 (v)).set 6 (.int .i64 i))
theorem bpB {C:Ctx} (L:oX C) (a:List Nat) (n:Nat) (ha:Lim a) (h1:a.length≤8388608) (hn:n≤1000000000) :
  JE.wp C (aR azH.res (bQ (aJ (aH (val a/2 ^ n))))) (PF.args [aJ a,.int .i64 n]) .nil:=by
 have ez:IntKind.i64.wrap (Int.tdiv (n:Int) 32)=((n/32:Nat):Int):=by rw[bhA,ZR Om]
 have em:=bhF n
 have eu:IntKind.u64.wrap ((n%32:Nat):Int)=((n%32:Nat):Int):=bE Om
 have hsp:=aqV n
 have hs:n%32<32:=bLG _ (by decide)
 have hz:n/32≤1000000000:=by omega
 generalize hzz:n/32=z at *
 generalize hss:n%32=s at *
 simp only[go_sem,μ,γ,reduceCtorEq,JE,aNW,aNX,azH,bJT,ez]
 by_cases c0:a.length≤z
 ·have c0':((z:Nat):Int)≥(a.length:Nat):=by omega
  have hq:val a/2 ^ n=0:=by
   refine bMX (Nat.lt_of_lt_of_le (eU ha) ?_)
   rw[← hsp]
   exact bLV (Nat.pow_le_pow_right (by decide) c0) (Nat.le_mul_of_pos_right _ (bMJ (by decide)))
  simp only[go_sem,c0',aNY]
  rw[hq,fJ]
  exact aV (vs:=[.bHP]) (.inr rfl) .nil rfl PH.nil_le ⟨.nil 1,rfl⟩
 have c0':¬ ((z:Nat):Int)≥(a.length:Nat):=by omega
 have hR:val a/2 ^ n=val (a.drop z)/2 ^ s:=by
  rw[tP ha Om,← hsp,Nat.div_div_eq_div_mul]
 have hLd:Lim (a.drop z):=ha.drop z
 simp only[go_sem,μ,γ,c0',aNZ,aOA,ez]
 refine wp_loop (α:=List Nat × PV × PH) (fun t=>QC a n t.2.1 (z+t.1.length)) (fun t=>t.2.2)
  (fun t=>z+t.1.length≤a.length∧t.1=dL t.1.length (val (a.drop z)/2 ^ s)∧aX t.2.2 1 t.2.1 (aK t.1)) (fun t=>a.length-t.1.length) ([],.bHP,.nil)
  ⟨by simp; omega,rfl,.nil⟩ ?_ PH.nil_le ?_
 ·unfold QC
  (repeat' (first|exact PF.nil_le|refine PF.aG ?_ ?_))<;>first|(simp only[go_sem,γ,reduceCtorEq,bMD]<;>rfl)|rfl
 rintro⟨P,v,H0⟩ ⟨hP,hD,hO⟩
 simp only at hP hD hO ⊢
 simp only[go_sem,γ,reduceCtorEq,avH,aOB,QC]
 have hlimP:Lim P:=by rw[hD]; exact lZ _ _
 by_cases c1:z+P.length<a.length
 ·have c1':((z+P.length:Nat):Int)<(a.length:Nat):=by omega
  have hai:=ha _ (bJZ c1)
  have hax:=bO a c1
  have hkl:P.length≤(a.drop z).length:=by rw[bLS]; omega
  have hvd:=tP hLd hkl
  have hdrop:(a.drop z).drop P.length=a[z+P.length]::a.drop (z+P.length+1):=by
   rw[List.drop_drop,bLO c1]
  generalize hx:a[z+P.length]=x at *
  have ex:IntKind.u64.wrap ((x:Nat):Int)=((x:Nat):Int):=bE Om
  have hb1:(1:Nat)*1≤16777216:=by decide
  have ew:IntKind.i64.wrap (((z+P.length:Nat):Int)+1)=((z+P.length+1:Nat):Int):=cW Om
  have fin:∀ (t:Nat) (F:PF),t<18446744073709551616→val (a.drop z)/4294967296 ^ P.length%(4294967296*4294967296)=t→F 0=some (aJ a)→F 1=some (.int .i64 n)→F 5=some v→F 6=some (.int .i64 (z+P.length:Nat))→F 7=some (.int .u64 t) →
    ∀ K:cA,(∀ v' F2 H2,(QC a n v' (z+(P.length+1))).le F2→aX H2 1 v' (aK (P++[t/2 ^ s%4294967296]))→(P++[t/2 ^ s%4294967296])=dL (P.length+1) (val (a.drop z)/2 ^ s)→K .normal F2 H2) →
    aB.wp C (.region ZL) (dN 1 (iV C (aB.wp C (.region QD)) K)) F H0:=by
   intro t F ht hte f0 f1 f5 f6 f7 K hK
   have esh:shift .shr .u64 (t:Int) (s:Int)=some (.int .u64 ((t/2 ^ s:Nat):Int)):=bxX Om
   simp only[go_sem,μ,υ,γ,η,ζ,ZL,f5,f7,f1,em,eu,esh,cE,hb1]
   refine dB (src:=[[.int .u32 ((t/2 ^ s%4294967296:Nat):Int)]]) hO rfl (pF Om) fun v' H' hO' _=>?_
   rw[pG] at hO'
   simp only[go_sem,γ,QD,f6,ew]
   refine hK v' _ H' ?_ hO' ?_
   ·unfold QC
    exact Lq
   ·rw[uK,← hD]
    congr 2
    have e:val (a.drop z)/4294967296 ^ P.length=t%4294967296+4294967296*(t/4294967296+4294967296*(val (a.drop z)/4294967296 ^ P.length/(4294967296*4294967296))):=by
     have:=Nat.mod_add_div (val (a.drop z)/4294967296 ^ P.length) (4294967296*4294967296)
     rw[hte] at this
     have h2:=Nat.mod_add_div t 4294967296
     rw[bKH,← bLZ,h2,← bKQ]
     exact this.symm
    have:=UM hs e
    rw[this]
    congr 2
    have h2:=Nat.mod_add_div t 4294967296
    omega
  simp only[aB.wp,go_sem] at fin
  simp only[go_sem,γ,reduceCtorEq,c1',aOC,hax,ex,aOD,ew]
  by_cases c2:z+P.length+1<a.length
  ·have c2':((z+P.length+1:Nat):Int)<(a.length:Nat):=by omega
   have hai2:=ha _ (bJZ c2)
   have hax2:=bO a c2
   rw[bLO c2] at hdrop
   generalize hy:a[z+P.length+1]=y at *
   have ey:IntKind.u64.wrap ((y:Nat):Int)=((y:Nat):Int):=bE Om
   have esh:shift .shl .u64 (y:Int) ((32:Nat):Int)=some (.int .u64 ((2 ^ 32*y:Nat):Int)):=IF (by decide) Om
   have eor:=orI (a:=x) (b:=2 ^ 32*y) (n:=x+2 ^ 32*y) Om Om (aJG Om Om) Om
   simp only[go_sem,γ,reduceCtorEq,c2',aOE,ew,hax2,ey,show shift .shl .u64 (y:Int) 32=_ from esh,eor]
   refine fin (x+2 ^ 32*y) _ Om ?_ rfl rfl rfl rfl rfl _ ?_
   ·rw[← hvd,hdrop]
    simp only[val]
    omega
   ·intro v' F2 H2 e1 e2 e3
    refine aC (α:=List Nat × PV × PH) (P++[(x+2 ^ 32*y)/2 ^ s%4294967296],v',H2) ⟨by simp; omega,by simpa using e3,e2⟩ (by simp; omega) ?_ PH.le_refl
    simp only[bJX,bKD]
    exact e1
  ·have c2':¬ ((z+P.length+1:Nat):Int)<(a.length:Nat):=by omega
   rw[bNB (l:=a) (i:=z+P.length+1) Om] at hdrop
   simp only[go_sem,c2']
   refine fin x _ Om ?_ rfl rfl rfl rfl rfl _ ?_
   ·rw[← hvd,hdrop]
    simp only[val]
    omega
   ·intro v' F2 H2 e1 e2 e3
    refine aC (α:=List Nat × PV × PH) (P++[x/2 ^ s%4294967296],v',H2) ⟨by simp; omega,by simpa using e3,e2⟩ (by simp; omega) ?_ PH.le_refl
    simp only[bJX,bKD]
    exact e1
 ·have e:z+P.length=a.length:=by omega
  have c1':¬ ((z+P.length:Nat):Int)<(a.length:Nat):=by omega
  have hV:val P=val (a.drop z)/2 ^ s:=by
   rw[hD]
   refine nS (Nat.lt_of_le_of_lt (bMT _ _) ?_)
   have:=eU hLd
   rw[bLS] at this
   rw[show P.length=a.length-z by omega]
   exact this
  have hs:=L.trim _ hlimP Om
  rw[hV,← hR] at hs
  simp only[go_sem,γ,reduceCtorEq,c1',avI]
  refine sQ hs hO rfl fun F1 H1 _=>?_
  simp only[go_sem]
  exact aV (.inr rfl) .nil rfl PH.nil_le ⟨.refl _,rfl⟩
structure LN (C:Ctx):Prop extends aaK C where
 bits:∀ xs,Lim xs→xs.length≤35184372087808→aI C 31 [aJ xs] .nil (aD (.int .i64 (cF (val xs):Nat)))
 upM:∀ (a:List Nat) (n:Nat),Lim a→a.length≤8388608→n≤8388608→(a.length=0→val a=0)→aI C 45 [aJ a,.int .i64 n] .nil (mX 1 (aK (aH (val a*2 ^ n))))
 down:∀ (a:List Nat) (n:Nat),Lim a→a.length≤8388608→n≤1000000000→aI C 40 [aJ a,.int .i64 n] .nil (aD (aJ (aH (val a/2 ^ n))))
def udS:Spec:=fun name vs=>match name,vs with
 | 35,[.int _ v]=>some ([],fun _=>aD (aJ (aH v.toNat)))
 | 44,[x,y]=>some ([],fun _=>aD (aJ (aH (val (iY x)*val (iY y)))))
 | 32,[x,.osl q _ _ _]=>some ([q],fun H0 r H'=>H'=H0∧∀ xs,Lim xs→H0 q=some (.rows 1 (aK xs))→r=.int .i64 (dC (val (iY x)) (val xs)))
 | _,_=>none
theorem bpA (v:Nat):udS 35 [.int .u64 v]=some ([],fun _=>aD (aJ (aH v))):=rfl
theorem bhQ (x y:List Nat):udS 44 [aJ x,aJ y]=some ([],fun _=>aD (aJ (aH (val x*val y)))):=by
 show some ([],fun _=>aD (aJ (aH (val (iY (aJ x))*val (iY (aJ y))))))=_; rw[dY,dY]
theorem bjR (q:Nat) (x L:List Nat):(PH.nil.set q (.rows 1 (aK L)))=(PH.nil.set q (.rows 1 (aK L)))∧∀ xs,Lim xs→(PH.nil.set q (.rows 1 (aK L))) q=some (.rows 1 (aK xs))→(PV.int .i64 (dC (val x) (val L)))=.int .i64 (dC (val (iY (aJ x))) (val xs)):=by
 refine⟨rfl,fun xs hx e=>?_⟩
 rw[jJ] at e
 have:aK L=aK xs:=(cI.rows.inj (bMC.inj e)).2
 rw[NQ this,dY]
def duF (n o lx:Nat) (y:List Nat) (top oq lq:Nat) (k:Int):PF :=
 ((((((PF.nil.set 10 (.int .i64 n)).set 11 (.osl o 1 0 lx)).set 12 (aJ y)).set 13 (.int .u64 top)).set 14 (.osl oq 1 0 lq)).set 15 (.int .i64 k))
abbrev dP (X:List Nat) (Z:List (List PV)):List (List PV):=aK X++Z
theorem JY {X:List Nat} {Z:List (List PV)} {i:Nat} (h:i<X.length):(dP X Z)[i]?=some [.int .u32 ((X[i]:Nat):Int)]:=by
 rw[dP,bMK (by rw[bV]; exact h),bO X h]
theorem awY {X:List Nat} {Z:List (List PV)} {i:Nat} (h:i<X.length) (v:Nat):(dP X Z).set i [.int .u32 (v:Int)]=dP (X.set i v) Z:=by
 rw[dP,List.set_append_left _ _ (by rw[bV]; exact h),fH]
theorem awX {X:List Nat} {Z:List (List PV)} {j m:Nat} (h:j+m≤X.length):((dP X Z).drop j).take m=aK ((X.drop j).take m):=by
 rw[dP,List.drop_append_of_le_length (by rw[bV]; omega),List.take_append_of_le_length (by rw[bLS,bV]; omega)]
 unfold aK
 rw[← List.map_drop,← List.map_take]
theorem byB {C:Ctx} (L:LN C) (n o lx:Nat) (y:List Nat) (top oq lq j:Nat) (X:List Nat) (Z:List (List PV)) (hne:oq≠o) (hy:Lim y) (hX:Lim X) (hlx:X.length=lx) (hl:lx≤5000) (hj:j+(y.length+1)≤lx) (hy0:0<val y)
  (qv:cI) (g0:Nat) (hg:val ((X.drop j).take (y.length+1))/val y≤g0) (hg0:g0<4294967296) (K:cA) (F:PF) (H:PH) (hF:((duF n o lx y top oq lq j).set 17 (.int .u64 g0)).le F) (hH:((PH.nil.set o (.rows 1 (dP X Z))).set oq qv).le H)
  (hK:∀ F' H',((duF n o lx y top oq lq j).set 17 (.int .u64 (val ((X.drop j).take (y.length+1))/val y:Nat))).le F'→((PH.nil.set o (.rows 1 (dP X Z))).set oq qv).le H'→K .normal F' H') :
  aB.wp C (.block 4 (.loop uB)) K F H:=by
 have bIU:¬ o=oq:=fun h=>hne h.symm
 have hWl:((X.drop j).take (y.length+1)).length=y.length+1:=by rw[bKN,bLS]; omega
 have hWL:Lim ((X.drop j).take (y.length+1)):=(hX.drop _).take _
 have hcut:=awX (X:=X) (Z:=Z) (j:=j) (m:=y.length+1) Om
 have bJP:j+(y.length+1)≤(dP X Z).length:=by rw[dP,bJX,bV]; omega
 have hWn:aK ((X.drop j).take (y.length+1))≠[]:=fun h=>by
  have:=congrArg List.length h
  rw[bV,hWl] at this
  simp at this
 generalize hW:(X.drop j).take (y.length+1)=W at *
 generalize hqq:val W/val y=qq at *
 simp only[go_sem]
 refine wp_loop (α:=Nat) (fun g=>(duF n o lx y top oq lq j).set 17 (.int .u64 g)) (fun _=>(PH.nil.set o (.rows 1 (dP X Z))).set oq qv) (fun g=>qq≤g∧g<4294967296) (fun g=>g) g0 ⟨hg,hg0⟩ hF hH ?_
 rintro g ⟨hge,hlt⟩
 have e1:IntKind.i64.wrap ((j:Int)+((y.length:Nat):Int))=((j+y.length:Nat):Int):=gD Om
 have e2:IntKind.i64.wrap (((j+y.length:Nat):Int)+1)=((j+y.length+1:Nat):Int):=cW Om
 have b1:(j:Int)≤((j+y.length+1:Nat):Int):=by omega
 have b2:((j+y.length+1:Nat):Int)≤(lx:Nat):=by omega
 have b3:j+y.length+1-j=y.length+1:=by omega
 have mk:=L.make g Om
 have tm:=L.times y (aH g) hy (aU _) Om (by
  have h1:nl g≤1:=nD (by rw[Nat.pow_one]; exact hlt)
  rw[aZ]; omega)
 rw[aQ] at tm
 have hnt:(aH (val y*g)).length≤35184372087808:=by
  have h1:nl g≤1:=nD (by rw[Nat.pow_one]; exact hlt)
  have h2:=lC (a:=val y) (b:=g) (fG hy) h1
  rw[aZ]; omega
 have cm:=L.cmp (aH (val y*g)) W (aU _) hWL hnt Om
 rw[aQ] at cm
 simp only[go_sem,uB]
 refine bL .nil udS PH.nil_le ?_
 simp only[go_sem,γ,VA,duF]
 refine bC (bpA g) mk Sq PH.nil_le ?_
 simp only[go_sem]
 have tS:=bhQ y (aH g)
 rw[aQ] at tS
 refine bC tS tm Sq PH.nil_le ?_
 simp only[go_sem,γ,reduceCtorEq,bJT,e1,e2,b1,b2,b3]
 refine yZ (src:=aK W) ?_ ?_ (fun h=>absurd h hWn) fun _ o' ho'=>?_
 ·simp only[go_sem,bIU,bJP,hcut]
 ·unfold roomFor
  rw[bV,hWl]
  simp only[maxLen]; omega
 refine⟨PH.nil_le,?_⟩
 rw[bV,hWl]
 have n1:¬ o'=oq:=(iD.1 ho').1
 refine bjU (o:=o') (s:=1) (rs:=aK W) (vs:=[aJ (aH (val y*g)),.osl o' 1 0 (y.length+1)]) (v:=.int .i64 (dC (val y*g) (val W))) rfl (.int _ _) Sq ?_ ?_ ?_ Sq PH.nil_le ?_
 ·rw[bLF,bLF,bME,xC (by rw[bV,hWl]; exact bKB _),bKL (by rw[bV,hWl]; exact bKB _)]
  exact cm
 ·have:=bjR o' (aH (val y*g)) W
  rw[aQ] at this
  exact this
 ·rintro r H' ⟨h1,h2⟩
  have:=h2 W hWL (by rw[jJ])
  rw[dY,aQ] at this
  exact⟨this,h1⟩
 simp only[go_sem,γ]
 by_cases c:val W<val y*g
 ·have hc:dC (val y*g) (val W)=1:=by
   unfold dC
   rw[if_neg Om,if_pos c]
  have hq:qq<g:=by rw[← hqq]; exact (bMN hy0).2 (by rw[bKT]; exact c)
  have ew:IntKind.u64.wrap ((g:Int)-1)=((g-1:Nat):Int):=by rw[wrap_u64 Om Om]; omega
  simp only[go_sem,γ,hc,show (1:Int)>0 by decide,VB,ew]
  refine aC (g-1) ⟨by omega,by omega⟩ Om ?_ ?_
  ·exact Lq
  ·refine PH.aG (PH.aG PH.nil_le ?_) ?_
   ·have n2:¬ o=o':=fun h=>by
     subst h
     rw[bA,if_neg bIU,jJ] at ho'
     cases ho'
    simp only[go_sem,n2,bIU]
   ·have n3:¬ oq=o':=fun h=>n1 h.symm
    simp only[go_sem,n3]
 ·have hc:¬ dC (val y*g) (val W)>0:=by
   unfold dC
   rw[if_neg c]
   split<;>decide
  have hq:g=qq:=by
   have:g≤qq:=by rw[← hqq]; exact (Nat.le_div_iff_mul_le hy0).2 (by rw[bKT]; omega)
   omega
  simp only[go_sem,hc]
  refine hK _ _ ?_ ?_
  ·unfold duF
   (repeat' (first|exact PF.nil_le|refine PF.aG ?_ ?_))<;>first|(simp only[go_sem,γ,← hq]<;>rfl)|rfl
  ·refine PH.aG (PH.aG PH.nil_le ?_) ?_
   ·have n2:¬ o=o':=fun h=>by
     subst h
     rw[bA,if_neg bIU,jJ] at ho'
     cases ho'
    simp only[go_sem,n2,bIU]
   ·have n3:¬ oq=o':=fun h=>n1 h.symm
    simp only[go_sem,n3]
theorem bsY (R k:Nat) (h:k<nl R):∃ h':k<(aH R).length,(aH R)[k]=R/4294967296 ^ k%4294967296:=by
 have hl:k<(aH R).length:=by rw[aZ]; exact h
 refine⟨hl,?_⟩
 have h1:=tP (aU R) (Nat.le_of_lt hl)
 rw[aQ,bLO hl] at h1
 have h2:=aU R _ (bJZ hl)
 simp only[val] at h1
 rw[← h1,Nat.add_mul_mod_self_left,bLB h2]
theorem blM (R k:Nat) (h:nl R≤k):R/4294967296 ^ k%4294967296=0:=by
 rw[bMX ((jL R k).1 h)]
theorem buN {A P W Z:List Nat} {i:Nat} (hP:P.length=i) (hi:i<W.length) (v:Nat):(A++(P++W.drop i)++Z).set (A.length+i) v=A++((P++[v])++W.drop (i+1))++Z :=
 NQ (by rw[← fH]; exact EL hP hi v)
theorem bAO {C:Ctx} (n o lx:Nat) (y:List Nat) (top oq lq j:Nat) (X:List Nat) (Z:List (List PV)) (hne:oq≠o) (hlx:X.length=lx) (hl:lx≤5000) (hj:j+(y.length+1)≤lx)
  (qv:cI) (g R:Nat) (K:cA) (F:PF) (H:PH) (hF:((((duF n o lx y top oq lq j).set 17 (.int .u64 g)).set 18 (aJ (aH R))).set 19 (.int .i64 0)).le F) (hH:((PH.nil.set o (.rows 1 (dP X Z))).set oq qv).le H)
  (hK:∀ F' H',((duF n o lx y top oq lq j).set 17 (.int .u64 g)).le F'→((PH.nil.set o (.rows 1 (dP (X.take j++dL (y.length+1) R++X.drop (j+(y.length+1))) Z))).set oq qv).le H'→K .normal F' H') :
  aB.wp C (.block 6 (.loop uC)) K F H:=by
 have bIU:¬ o=oq:=fun h=>hne h.symm
 have hA:(X.take j).length=j:=by rw[bKN]; omega
 have hWl:((X.drop j).take (y.length+1)).length=y.length+1:=by rw[bKN,bLS]; omega
 have hZl:(X.drop (j+(y.length+1))).length=lx-(j+(y.length+1)):=by rw[bLS,hlx]
 have hsplit:X.take j++(X.drop j).take (y.length+1)++X.drop (j+(y.length+1))=X:=by
  rw[bKV,← List.drop_drop,bML,bML]
 rw[← hsplit] at hH
 generalize hAA:X.take j=A at *
 generalize hWW:(X.drop j).take (y.length+1)=W at *
 generalize hZZ:X.drop (j+(y.length+1))=Zx at *
 simp only[go_sem]
 refine wp_loop (α:=List Nat) (fun P=>(((duF n o lx y top oq lq j).set 17 (.int .u64 g)).set 18 (aJ (aH R))).set 19 (.int .i64 P.length)) (fun P=>(PH.nil.set o (.rows 1 (dP (A++(P++W.drop P.length)++Zx) Z))).set oq qv)
  (fun P=>P.length≤y.length+1∧P=dL P.length R) (fun P=>y.length+1-P.length) [] ⟨bKA _,rfl⟩ hF (by simpa using hH) ?_
 rintro P ⟨hP,hD⟩
 simp only[go_sem,γ,uC,VC,duF]
 by_cases c:P.length<y.length+1
 ·have c':(P.length:Int)≤(y.length:Nat):=by omega
  have ei:IntKind.i64.wrap ((j:Int)+(P.length:Int))=((j+P.length:Nat):Int):=gD Om
  have hlen:(A++(P++W.drop P.length)++Zx).length=lx:=by
   simp only[bJX,bLS]; omega
  have hi:j+P.length<(A++(P++W.drop P.length)++Zx).length:=by omega
  have b1:((j+P.length:Nat):Int)<(lx:Nat):=by omega
  have r1:=JY (Z:=Z) hi
  have s1:=awY (Z:=Z) hi 0
  have hi2:j+P.length<((A++(P++W.drop P.length)++Zx).set (j+P.length) 0).length:=by rw[bMG]; exact hi
  have hput:=fun v=>buN (A:=A) (P:=P) (W:=W) (Z:=Zx) (i:=P.length) rfl Om v
  rw[hA] at hput
  generalize hXX:A++(P++W.drop P.length)++Zx=XX at *
  have r2:(dP (A++((P++[0])++W.drop (P.length+1))++Zx) Z)[j+P.length]?=some [.int .u32 ((0:Nat):Int)]:=by
   rw[← hput 0,JY hi2,List.getElem_set_self]
  have s2:∀ v,(dP (A++((P++[0])++W.drop (P.length+1))++Zx) Z).set (j+P.length) [.int .u32 ((v:Nat):Int)]=dP (A++((P++[v])++W.drop (P.length+1))++Zx) Z:=by
   intro v
   rw[← hput 0,awY hi2,List.set_set,hput]
  have bIR:=uK P.length R
  rw[← hD] at bIR
  have ew:IntKind.i64.wrap ((P.length:Int)+1)=((P.length+1:Nat):Int):=cW Om
  simp only[go_sem,γ,c',VD,ei,b1,bIU,r1,show ([PV.int .u32 (0:Int)])=[PV.int .u32 ((0:Nat):Int)] from rfl,s1,VE,aZ]
  by_cases c2:P.length<nl R
  ·have c2':(P.length:Int)<(nl R:Nat):=by omega
   obtain⟨hl',hv⟩:=bsY R P.length c2
   have hr:=bO (aH R) hl'
   rw[hv] at hr
   simp only[go_sem,γ,c2',VG,hr,ei,b1,bIU,r2,s2,List.set_set,hput,CX,ew]
   refine aC (P++[R/4294967296 ^ P.length%4294967296]) ⟨by simp; omega,by rw[bJX,bKD]; exact bIR.symm⟩ (by simp; omega) ?_ ?_
   ·rw[bJX,bKD]
    exact Lq
   ·rw[bJX,bKD]
    refine PH.aG (PH.aG PH.nil_le ?_) ?_<;>simp only[go_sem,bIU,show ¬ oq=o from hne]
  ·have c2':¬ (P.length:Int)<(nl R:Nat):=by omega
   have hv:=blM R P.length Om
   rw[hv] at bIR
   simp only[go_sem,γ,c2',hput,CX,ew]
   refine aC (P++[0]) ⟨by simp; omega,by rw[bJX,bKD]; exact bIR.symm⟩ (by simp; omega) ?_ ?_
   ·rw[bJX,bKD]
    exact Lq
   ·rw[bJX,bKD]
    refine PH.aG (PH.aG PH.nil_le ?_) ?_<;>simp only[go_sem,bIU,show ¬ oq=o from hne]
 ·have c':¬ (P.length:Int)≤(y.length:Nat):=by omega
  have e:P.length=y.length+1:=by omega
  simp only[go_sem,c']
  refine hK _ _ (by unfold duF; exact Lq) ?_
  have h2:A++dL (y.length+1) R++Zx=A++(P++W.drop P.length)++Zx:=by
   rw[bNB Om,bLK,← e,← hD]
  rw[h2]
  exact PH.le_refl
theorem blA {y W:List Nat} {m:Nat} (hy:Lim y) (hW:Lim W) (hly:y.length=m+1) (hlW:W.length=m+2) (ht:0<y[m]):val W/val y≤(4294967296*W[m+1]+W[m])/y[m]:=by
 have h1:=bZ y (Om:m<y.length)
 rw[bKL Om] at h1
 have h2:=bZ W (Om:m+1<W.length)
 rw[bKL Om,bZ W (Om:m<W.length)] at h2
 have h3:=eU (hW.take m)
 rw[bKN,bLW Om] at h3
 have hp:0<4294967296 ^ m:=bMJ (by decide)
 have hb:4294967296 ^ m*y[m]≤val y:=by omega
 have hpos:0<4294967296 ^ m*y[m]:=Nat.mul_pos hp ht
 have e:val W=val (W.take m)+4294967296 ^ m*(4294967296*W[m+1]+W[m]):=by
  rw[h2,bLL,bKH,bKQ]; omega
 refine bLV (Nat.div_le_div_left hb hpos) ?_
 rw[← Nat.div_div_eq_div_mul,e,Nat.add_mul_div_left _ _ hp,bMX h3,bKS]
 exact bKB _
theorem bhR {C:Ctx} (L:LN C) (U0 n o lx lq oq m:Nat) (y z:List Nat) (hne:oq≠o) (hy:Lim y) (hly:y.length=m+1) (ht:0<y[m]) (hlu:lx=lq+(m+1)) (bJK:lx≤5000) (X:List Nat) (hI:oF U0 (val y) (m+1) lx lq lq X (bJY lq 0)) (K:cA) (F:PF) (H:PH)
  (hF:(duF n o lx y (y[m]) oq lq ((lq:Int)-1)).le F) (hH:((PH.nil.set o (.rows 1 (dP X (aK z)))).set oq (.rows 1 (aK (bJY lq 0)))).le H)
  (hK:∀ X' Q' F' H',oF U0 (val y) (m+1) lx lq 0 X' Q'→(duF n o lx y (y[m]) oq lq (-1)).le F'→((PH.nil.set o (.rows 1 (dP X' (aK z)))).set oq (.rows 1 (aK Q'))).le H'→K .normal F' H') :
  aB.wp C (.block 2 (.loop uD)) K F H:=by
 have bIU:¬ o=oq:=fun h=>hne h.symm
 have hne2:¬ oq=o:=hne
 have hV:val y<4294967296 ^ (m+1):=by have:=eU hy; rw[hly] at this; exact this
 have hV0:0<val y:=by
  have h1:=bZ y (Om:m<y.length)
  rw[bKL Om] at h1
  have:0<4294967296 ^ m*y[m]:=Nat.mul_pos (bMJ (by decide)) ht
  omega
 have htl:=hy _ (bJZ (Om:m<y.length))
 generalize htop:y[m]=top at *
 simp only[go_sem]
 refine wp_loop (α:=Nat × List Nat × List Nat) (fun t=>duF n o lx y top oq lq ((t.1:Int)-1)) (fun t=>(PH.nil.set o (.rows 1 (dP t.2.1 (aK z)))).set oq (.rows 1 (aK t.2.2)))
  (fun t=>t.1≤lq∧oF U0 (val y) (m+1) lx lq t.1 t.2.1 t.2.2) (fun t=>t.1) (lq,X,bJY lq 0) ⟨bKB _,hI⟩ hF hH ?_
 rintro⟨k,X,Q⟩ ⟨hk,hI⟩
 simp only at hk hI
 simp only[go_sem,γ,uD,UV,duF]
 by_cases h0:0<k
 ·obtain⟨j,rfl⟩:∃ j,k=j+1:=⟨k-1,by omega⟩
  have hz:((j+1:Nat):Int)-1=(j:Int):=by omega
  have hge:(j:Int)≥0:=by omega
  have dst:=aAZ hI hV Om hlu
  rw[show m+1+1=m+2 from rfl] at dst
  obtain⟨hlt,hI'⟩:=dst
  have hXl:=hI.lu'
  have hQl:=hI.lq'
  have hWl:((X.drop j).take (m+2)).length=m+2:=by rw[bKN,bLS]; omega
  have hWL:Lim ((X.drop j).take (m+2)):=(hI.limU.drop _).take _
  have hg1:m+1<((X.drop j).take (m+2)).length:=by omega
  have hg0:m<((X.drop j).take (m+2)).length:=by omega
  have a1:j+(m+1)<X.length:=by omega
  have a0:j+m<X.length:=by omega
  have w1:((X.drop j).take (m+2))[m+1]=X[j+(m+1)]:=by simp
  have w0:((X.drop j).take (m+2))[m]=X[j+m]:=by simp
  have hgu:=blA hy hWL hly hWl (by rw[htop]; exact ht)
  rw[w1,w0,htop] at hgu
  have r1:=JY (Z:=aK z) a1
  have r0:=JY (Z:=aK z) a0
  have l1:=hI.limU _ (bJZ a1)
  have l0:=hI.limU _ (bJZ a0)
  generalize hx1:X[j+(m+1)]=x1 at *
  generalize hx0:X[j+m]=x0 at *
  have e1:IntKind.i64.wrap ((j:Int)+((y.length:Nat):Int))=((j+(m+1):Nat):Int):=by rw[hly]; exact gD Om
  have e0:IntKind.i64.wrap (((j+(m+1):Nat):Int)-1)=((j+m:Nat):Int):=by rw[wrap_i64 Om Om]; omega
  have b1:((j+(m+1):Nat):Int)<(lx:Nat):=by omega
  have b0:((j+m:Nat):Int)<(lx:Nat):=by omega
  have ex1:IntKind.u64.wrap ((x1:Nat):Int)=((x1:Nat):Int):=bE Om
  have ex0:IntKind.u64.wrap ((x0:Nat):Int)=((x0:Nat):Int):=bE Om
  have esh:shift .shl .u64 (x1:Int) 32=some (.int .u64 ((2 ^ 32*x1:Nat):Int)):=IF (s:=32) Om Om
  have e32:(2:Nat) ^ 32=4294967296:=by decide
  have eor:=orI (a:=2 ^ 32*x1) (b:=x0) (n:=2 ^ 32*x1+x0) Om Om (Nat.two_pow_add_eq_or_of_lt Om x1).symm Om
  rw[e32] at esh eor
  have hdd:¬ ((top:Nat):Int)=0:=by omega
  have hq64:(4294967296*x1+x0)/top<18446744073709551616:=Nat.lt_of_le_of_lt (bMT _ _) Om
  have equo:IntKind.u64.wrap (Int.tdiv ((4294967296*x1+x0:Nat):Int) ((top:Nat):Int))=(((4294967296*x1+x0)/top:Nat):Int):=by
   rw[show Int.tdiv ((4294967296*x1+x0:Nat):Int) ((top:Nat):Int)=(((4294967296*x1+x0)/top:Nat):Int) from rfl]
   exact bE hq64
  have hqB:val ((X.drop j).take (m+2))/val y<4294967296:=(bMN hV0).2 (by rw[bKT]; exact hlt)
  have hcut:=awX (X:=X) (Z:=aK z) (j:=j) (m:=m+2) Om
  have bJP:j+(m+2)≤(dP X (aK z)).length:=by rw[dP,bJX,bV]; omega
  have hrest:val ((X.drop j).take (m+2))-val y*(val ((X.drop j).take (m+2))/val y)=val ((X.drop j).take (m+2))%val y:=by
   have:=bMW (val ((X.drop j).take (m+2))) (val y)
   omega
  have hmulle:val y*(val ((X.drop j).take (m+2))/val y)≤val ((X.drop j).take (m+2)):=Nat.mul_div_le _ _
  clear w1 w0
  have gu:=fun g0=>byB (C:=C) L n o lx y top oq lq j X (aK z) hne hy hI.limU hXl bJK Om hV0 (.rows 1 (aK Q)) g0
  rw[hly,show m+1+1=m+2 from rfl] at gu
  generalize hW:(X.drop j).take (m+2)=W at *
  generalize hqq:val W/val y=qq at *
  have hWn:aK W≠[]:=fun h=>by
   have:=congrArg List.length h
   rw[bV,hWl] at this
   simp at this
  have tail:∀ (g0:Nat) (F:PF) (H:PH),qq≤g0→g0<4294967296→((duF n o lx y top oq lq j).set 17 (.int .u64 g0)).le F→((PH.nil.set o (.rows 1 (dP X (aK z)))).set oq (.rows 1 (aK Q))).le H →
    aB.wp C (.seq (.block 4 (.loop uB)) (.seq (.region CV) (.seq (.seq (.region CW) (.block 6 (.loop uC))) (.region CY)))) (dN 3 (iV C (aB.wp C (.region CZ)) (dU (fun (t:Nat × List Nat × List Nat)=>duF n o lx y top oq lq ((t.1:Int)-1)) (fun t=>(PH.nil.set o (.rows 1 (dP t.2.1 (aK z)))).set oq (.rows 1 (aK t.2.2))) (fun t=>t.1≤lq∧oF U0 (val y) (m+1) lx lq t.1 t.2.1 t.2.2) (fun t=>t.1) (j+1) (dN 2 K)))) F H:=by
   intro g0 F H hg hgB hF hH
   have gu:=gu g0 hg hgB
   simp only[go_sem] at gu
   simp only[go_sem]
   refine gu _ F H hF hH ?_
   intro F1 H1 hF1 hH1
   have f11:F1 11=some (.osl o 1 0 lx):=hF1 11 _ (by unfold duF; simp only[go_sem,γ])
   have f12:F1 12=some (aJ y):=hF1 12 _ (by unfold duF; simp only[go_sem,γ])
   have f15:F1 15=some (.int .i64 j):=hF1 15 _ (by unfold duF; simp only[go_sem,γ])
   have f17:F1 17=some (.int .u64 (qq:Nat)):=hF1 17 _ (by unfold duF; simp only[go_sem,γ])
   have f10:F1 10=some (.int .i64 n):=hF1 10 _ (by unfold duF; simp only[go_sem,γ])
   have f13:F1 13=some (.int .u64 top):=hF1 13 _ (by unfold duF; simp only[go_sem,γ])
   have f14:F1 14=some (.osl oq 1 0 lq):=hF1 14 _ (by unfold duF; simp only[go_sem,γ])
   have ho:H1 o=some (.rows 1 (dP X (aK z))):=hH1 o _ (by simp only[go_sem,bIU])
   have hoq:H1 oq=some (.rows 1 (aK Q)):=hH1 oq _ Sq
   have b3:(j:Int)≤((j+(m+1)+1:Nat):Int):=by omega
   have b4:((j+(m+1)+1:Nat):Int)≤(lx:Nat):=by omega
   have b5:j+(m+1)+1-j=m+2:=by omega
   have e2:IntKind.i64.wrap (((j+(m+1):Nat):Int)+1)=((j+(m+1)+1:Nat):Int):=cW Om
   simp only[go_sem,γ,reduceCtorEq,CV,f11,f15,f12,bJT,e1,e2,b3,b4,b5]
   refine yZ (src:=aK W) ?_ ?_ (fun h=>absurd h hWn) fun _ o' ho'=>?_
   ·simp only[go_sem,ho,bJP,hcut]
   ·unfold roomFor
    rw[bV,hWl]
    simp only[maxLen]; omega
   rw[bV,hWl]
   have n1:¬ oq=o':=fun h=>by subst h; rw[hoq] at ho'; cases ho'
   have n2:¬ o=o':=fun h=>by subst h; rw[ho] at ho'; cases ho'
   have nq:nl qq≤1:=nD (by rw[Nat.pow_one]; exact hqB)
   have tm:=L.times y (aH qq) hy (aU _) Om (by rw[aZ]; omega)
   rw[aQ] at tm
   have nW:=fG hWL
   have mn:=L.minus W (aH (val y*qq)) hWL (aU _) (by rw[aQ]; exact hmulle) (by rw[aZ]; exact bLV (fN hmulle) nW) Om
   rw[aQ,hrest] at mn
   have hWt:(aK W).take (m+2)=aK W:=bKL (by rw[bV]; omega)
   simp only[go_sem,f17]
   refine aA (L.make qq Om) Sq ?_
   simp only[go_sem,f12]
   refine aA tm Sq ?_
   simp only[go_sem]
   refine pY (o:=o') (s:=1) (rs:=aK W) mn Sq (by simp only[go_sem,γ,show m+2≤W.length by omega,hWt]) ?_
   simp only[go_sem,γ,CW]
   have hfx:(dP X (aK z)).map (fun r=>r.map (PV.dT o' 1 (aK W)))=dP X (aK z):=by
    have:dP X (aK z)=aK (X++z):=by simp[dP,aK]
    rw[this]; exact qX _ _ _ _
   have hfq:(aK Q).map (fun r=>r.map (PV.dT o' 1 (aK W)))=aK Q:=qX _ _ _ _
   have ur:=bAO (C:=C) n o lx y top oq lq j X (aK z) hne hXl bJK Om (.rows 1 (aK Q)) qq (val W%val y)
   rw[hly,show m+1+1=m+2 from rfl] at ur
   simp only[go_sem] at ur
   refine ur _ _ _ ?_ ?_ ?_
   ·unfold duF
    (repeat' (first|exact PF.nil_le|refine PF.aG ?_ ?_))<;>first|(simp only[go_sem,γ,f10,f11,f12,f13,f14,f15,f17,n1,n2]<;>rfl)|rfl
   ·refine PH.aG (PH.aG PH.nil_le ?_) ?_
    ·simp only[go_sem,bIU,n2,ho,cI.frz,hfx]
    ·simp only[go_sem,n1,hoq,cI.frz,hfq]
   intro F3 H3 hF3 hH3
   have k10:F3 10=some (.int .i64 n):=hF3 10 _ (by unfold duF; simp only[go_sem,γ])
   have k11:F3 11=some (.osl o 1 0 lx):=hF3 11 _ (by unfold duF; simp only[go_sem,γ])
   have k12:F3 12=some (aJ y):=hF3 12 _ (by unfold duF; simp only[go_sem,γ])
   have k13:F3 13=some (.int .u64 top):=hF3 13 _ (by unfold duF; simp only[go_sem,γ])
   have k14:F3 14=some (.osl oq 1 0 lq):=hF3 14 _ (by unfold duF; simp only[go_sem,γ])
   have k15:F3 15=some (.int .i64 j):=hF3 15 _ (by unfold duF; simp only[go_sem,γ])
   have k17:F3 17=some (.int .u64 qq):=hF3 17 _ (by unfold duF; simp only[go_sem,γ])
   have ho3:H3 o=some (.rows 1 (dP (X.take j++dL (m+2) (val W%val y)++X.drop (j+(m+2))) (aK z))):=hH3 o _ (by simp only[go_sem,bIU])
   have hq3:H3 oq=some (.rows 1 (aK Q)):=hH3 oq _ Sq
   have hjq:j<Q.length:=by omega
   have rq:=bO Q hjq
   have hjl:(j:Int)<(lq:Nat):=by omega
   have sq:=fH Q j qq
   have ec:IntKind.u32.wrap ((qq:Nat):Int)=((qq:Nat):Int):=by rw[cE,bLB hqB]
   have ej:IntKind.i64.wrap ((j:Int)-1)=(j:Int)-1:=wrap_i64 Om Om
   simp only[go_sem,γ,CY,k14,k15,k17,hjl,hq3,rq,ec,sq,CZ,ej]
   refine aC (α:=Nat × List Nat × List Nat) (j,_,_) ⟨by simp only; omega,hI'⟩ (by simp only; omega) ?_ ?_
   ·unfold duF
    (repeat' (first|exact PF.nil_le|refine PF.aG ?_ ?_))<;>first|(simp only[go_sem,γ,k10,k11,k12,k13,k14]<;>rfl)|rfl
   ·refine PH.aG (PH.aG PH.nil_le ?_) ?_
    ·simp only[go_sem,bIU,ho3]
    ·simp only[go_sem]
  simp only[aB.wp,go_sem] at tail
  simp only[go_sem,hz,hge]
  refine bL .nil dJ PH.nil_le ?_
  simp only[go_sem,γ,reduceCtorEq,UW,e1,e0,b1,b0,bIU,r1,r0,ex1,ex0,esh,eor,UX,hdd,equo,UY]
  by_cases c:(4294967296*x1+x0)/top>4294967295
  ·have c':(((4294967296*x1+x0)/top:Nat):Int)>4294967295:=by omega
   simp only[go_sem,c',UZ]
   exact tail 4294967295 _ _ Om (by decide) (by unfold duF; exact Lq) PH.le_refl
  ·have c':¬ (((4294967296*x1+x0)/top:Nat):Int)>4294967295:=by omega
   simp only[go_sem,c']
   exact tail _ _ _ hgu Om (by unfold duF; exact Lq) PH.le_refl
 ·have:k=0:=by omega
  subst this
  have hz:¬ ((0:Nat):Int)-1≥0:=by decide
  simp only[go_sem,hz]
  refine hK X Q _ _ hI ?_ PH.le_refl
  unfold duF
  (repeat' (first|exact PF.nil_le|refine PF.aG ?_ ?_))<;>first|(simp only[go_sem,ο,γ,show ((0:Nat):Int)-1=-1 from rfl]<;>rfl)|rfl
def boZ (a:List Nat) (d q k r:Nat):PF:=(((((PF.nil.set 0 (aJ a)).set 1 (aJ [d])).set 6 (.osl q 1 0 a.length)).set 7 (.int .u64 r)).set 8 (.int .i64 ((k:Int)-1)))
theorem a9V {C:Ctx} (L:LN C) (a:List Nat) (d:Nat) (ha:Lim a) (hd0:0<d) (hd:d<4294967296) (h1:a.length≤1000) (F:PF) (f0:F 0=some (aJ a)) (f1:F 1=some (aJ [d])) :
  aB.wp C (.seq (.region JB) (.seq (.region JC) (.seq (.seq (.region JD) (.block 0 (.loop CO))) (.seq (.region CP) .ret)))) (aR [.tmp 4,.tmp 5] (bQ (pP (val a) d))) F .nil:=by
 have hm1:((a.length:Nat):Int)*((4:Nat):Int)≤140737488355328:=by omega
 have hm2:((a.length:Nat):Int)≤9223372036854775807:=by omega
 have hz:bJY a.length [PV.int .u32 0]=aK (bJY a.length 0++[]):=by
  simp[aK]
 simp only[go_sem,γ,JB,f0,bJT,hm1,hm2,hz]
 refine aO fun o ho=>?_
 simp only[go_sem,γ,reduceCtorEq,JC,JD,f0,bJT]
 refine wp_loop (α:=Nat × List Nat × Nat) (fun t=>boZ a d o t.1 t.2.2) (fun t=>PH.nil.set o (.rows 1 (aK (bJY t.1 0++t.2.1))))
  (fun t=>t.1+t.2.1.length=a.length∧Lim t.2.1∧t.2.2<d∧val t.2.1*d+t.2.2=val (a.drop t.1)) (fun t=>t.1) (a.length,[],0) ⟨by simp,by simp[Lim],hd0,by simp[val]⟩ ?_ ?_ ?_
 ·unfold boZ
  (repeat' (first|exact PF.nil_le|refine PF.aG ?_ ?_))<;>first|(simp only[go_sem,γ,reduceCtorEq,f0,f1,wrap_i64 (Om:-9223372036854775808≤((a.length:Nat):Int)-1) (Om:((a.length:Nat):Int)-1≤9223372036854775807)]<;>rfl)|rfl
 ·exact PH.aG PH.nil_le Sq
 rintro⟨k,S,r⟩ ⟨hk,bIM,hr,bII⟩
 simp only at hk bIM hr bII
 simp only[go_sem,γ,reduceCtorEq,CO,agW,boZ]
 by_cases h0:0<k
 ·obtain⟨m,rfl⟩:∃ m,k=m+1:=⟨k-1,by omega⟩
  have hzz:((m+1:Nat):Int)-1=(m:Int):=by omega
  have hge:(m:Int)≥0:=by omega
  have hml:m<a.length:=by omega
  have hlt:(m:Int)<(a.length:Nat):=by omega
  have hai:=ha _ (bJZ hml)
  have hdrop:val (a.drop m)=a[m]+4294967296*val (a.drop (m+1)):=by rw[bLO hml]; rfl
  have hax:=bO a hml
  generalize hx:a[m]=x at *
  have ex:IntKind.u64.wrap ((x:Nat):Int)=((x:Nat):Int):=bE Om
  have ed:IntKind.u64.wrap ((d:Nat):Int)=((d:Nat):Int):=bE Om
  have esh:shift .shl .u64 (r:Int) 32=some (.int .u64 ((2 ^ 32*r:Nat):Int)):=IF (s:=32) Om Om
  have e32:(2:Nat) ^ 32=4294967296:=by decide
  have eor:=orI (a:=2 ^ 32*r) (b:=x) (n:=2 ^ 32*r+x) Om Om (Nat.two_pow_add_eq_or_of_lt Om r).symm Om
  rw[e32] at esh eor
  have hq:(4294967296*r+x)/d<4294967296:=by
   rw[bMN hd0]
   have:4294967296*(r+1)≤4294967296*d:=bMA _ hr
   omega
  have hdd:¬ ((d:Nat):Int)=0:=by omega
  have equo:IntKind.u64.wrap (Int.tdiv ((4294967296*r+x:Nat):Int) ((d:Nat):Int))=(((4294967296*r+x)/d:Nat):Int):=by
   rw[show Int.tdiv ((4294967296*r+x:Nat):Int) ((d:Nat):Int)=(((4294967296*r+x)/d:Nat):Int) from rfl]
   exact bE Om
  have erem:Int.tmod ((4294967296*r+x:Nat):Int) ((d:Nat):Int)=(((4294967296*r+x)%d:Nat):Int):=rfl
  have ec:IntKind.u32.wrap (((4294967296*r+x)/d:Nat):Int)=(((4294967296*r+x)/d:Nat):Int):=by rw[cE,bLB hq]
  have bJO:bJY (m+1) 0++S=bJY m 0++(0::S):=by
   rw[List.replicate_succ',bKV]; rfl
  have hin:(aK (bJY m 0++(0::S)))[m]?=some [.int .u32 ((0:Nat):Int)]:=by
   rw[bO _ (by simp)]; simp
  have bIC:(aK (bJY m 0++(0::S))).set m [.int .u32 (((4294967296*r+x)/d:Nat):Int)]=aK (bJY m 0++(((4294967296*r+x)/d)::S)):=by
   rw[fH,bMV _ _ (by simp)]; simp
  simp only[go_sem,ν,γ,reduceCtorEq,hzz,hge,agX,esh,hax,ex,eor,agY,ed,hdd,equo,ec,hlt,bJO,hin,bIC,UR,erem,US]
  refine aC (m,((4294967296*r+x)/d)::S,(4294967296*r+x)%d) ⟨by simp only[bMH]; omega,fun y hy=>?_,bLG _ hd0,?_⟩ (by simp only; omega) ?_ (PH.aG PH.nil_le Sq)
  ·rw[bKI] at hy
   rcases hy with rfl | hy
   ·exact hq
   ·exact bIM y hy
  ·simp only[val]
   rw[hdrop,← bII,bKW,bKH,bKQ]
   have:=bMW (4294967296*r+x) d
   rw[bKT d] at this
   omega
  ·(repeat' (first|exact PF.nil_le|refine PF.aG ?_ ?_))<;>first|(simp only[go_sem,γ,reduceCtorEq,wrap_i64 (Om:-9223372036854775808≤(m:Int)-1) (Om:(m:Int)-1≤9223372036854775807)]<;>rfl)|rfl
 ·have:k=0:=by omega
  subst this
  have hzz:¬ ((0:Nat):Int)-1≥0:=by decide
  rw[bKY] at bII
  have hS:S.length=a.length:=by omega
  have hq:val S=val a/d:=by
   rw[← bII,bKT,Nat.mul_add_div hd0,bMX hr,bLP]
  have hrm:r=val a%d:=by rw[← bII,bKT,Nat.mul_add_mod,bLB hr]
  have hn0:bJY 0 0++S=S:=by simp
  have hl:=L.trim S bIM Om
  have hSt:(aK S).take a.length=aK S:=bKL (by rw[bV]; omega)
  simp only[go_sem,υ,γ,reduceCtorEq,hzz,CP,List.nil_append]
  refine pY (o:=o) (s:=1) (rs:=aK S) hl Sq (by simp only[go_sem,γ,reduceCtorEq,hSt,show a.length≤S.length by omega]) ?_
  simp only[go_sem,γ,reduceCtorEq]
  refine aA (L.make r Om) Sq ?_
  simp only[go_sem,γ,reduceCtorEq]
  refine aV (vs:=[aJ (aH (val S)),aJ (aH r)]) (.inr rfl) .nil Ev PH.nil_le ⟨?_,rfl⟩
  rw[hq,hrm]
  exact .refl _
theorem bqX {B m:Nat} (h:nl B=m+1):32*m<cF B∧cF B≤32*(m+1):=by
 refine⟨?_,(lK B (m+1)).2 Om⟩
 rcases bKO (32*m) (cF B) with h1 | h1
 ·exact h1
 ·have:=(lK B m).1 h1
  omega
theorem bqY {B:Nat} (h:B≠0):2 ^ (cF B-1)≤B:=by
 rcases bKO B (2 ^ (cF B-1)) with h1 | h1
 ·have h2:=(lJ B _).2 h1
  have h3:cF B≠0:=fun e=>h (jS.1 e)
  omega
 ·exact h1
theorem a9W {C:Ctx} (L:LN C) (A B:Nat) (hB:B≠0) (hA:nl A≤512) (hBl:nl B≤512) :
  yS.wp C (aR SG.res (bQ (pP A B))) (PF.args [aJ (aH A),aJ (aH B)]) .nil:=by
 have LA:=aU A
 have LB:=aU B
 have vA:=aQ A
 have vB:=aQ B
 have lA:(aH A).length=nl A:=rfl
 have lB:(aH B).length=nl B:=rfl
 simp only[go_sem,γ,reduceCtorEq,yS,agR,agT,SG]
 refine aA (L.cmp _ _ LA LB Om Om) rfl ?_
 rw[vA,vB]
 by_cases c1:A<B
 ·have hc:dC A B<0:=by simp[dC,c1]
  simp only[go_sem,γ,reduceCtorEq,hc,agU]
  refine aA (L.trim _ LA Om) rfl ?_
  rw[vA]
  simp only[go_sem,γ]
  refine aV (vs:=[.bHP,aJ (aH A)]) (.inr rfl) .nil rfl PH.nil_le ⟨?_,rfl⟩
  rw[pP,bMX c1,bLB c1,fJ]
  exact CoL.tup (CoL.cons (.nil 1) (CoL.cons (.refl _) .nil))
 have hc:¬ dC A B<0:=by
  unfold dC
  rw[if_neg c1]
  split<;>decide
 have hB0:0<B:=bMB hB
 have hnB:nl B≠0:=fun h=>hB (gZ.1 h)
 simp only[go_sem,γ,hc,agV,bJT,lB]
 by_cases c2:nl B=1
 ·have hBB:B<4294967296:=by have:=(jL B 1).1 Om; simpa using this
  have hlb:aH B=[B]:=nM hB hBB
  have sh:=a9V (C:=C) L (aH A) B LA hB0 hBB Om
  rw[vA] at sh
  simp only[aB.wp,go_sem] at sh
  simp only[go_sem,bP (Om:((nl B:Nat):Int)=1)]
  exact sh _ rfl (by simp only[go_sem,γ,hlb])
 obtain⟨m,hm⟩:∃ m,nl B=m+1:=⟨nl B-1,by omega⟩
 have hm1:1≤m:=by omega
 obtain⟨hb1,hb2⟩:=bqX hm
 obtain⟨n,hn⟩:∃ n,n+cF B=32*(m+1):=⟨32*(m+1)-cF B,by omega⟩
 have hn32:n<32:=by omega
 have hp2:0<2 ^ n:=bMJ (by decide)
 have hBlt:B<2 ^ cF B:=(lJ B _).1 (bKB _)
 have hBge:=bqY hB
 have hVhi:B*2 ^ n<4294967296 ^ (m+1):=by
  have:B*2 ^ n<2 ^ cF B*2 ^ n:=Nat.mul_lt_mul_of_pos_right hBlt hp2
  rw[← Nat.pow_add,show cF B+n=32*(m+1) by omega,Nat.pow_mul] at this
  exact this
 have hVlo:4294967296 ^ m*2147483648≤B*2 ^ n:=by
  have:2 ^ (cF B-1)*2 ^ n≤B*2 ^ n:=bKX _ hBge
  rw[← Nat.pow_add,show cF B-1+n=32*m+31 by omega,Nat.pow_add,Nat.pow_mul] at this
  exact this
 have nV:nl (B*2 ^ n)=m+1:=by
  have h1:=(jL (B*2 ^ n) (m+1)).2 hVhi
  rcases bKO (nl (B*2 ^ n)) (m+1) with h | h
  ·have:=(jL (B*2 ^ n) m).1 Om
   have hpp:0<4294967296 ^ m:=bMJ (by decide)
   omega
  ·omega
 have hV0:B*2 ^ n≠0:=Nat.mul_ne_zero hB Om
 have nU1:nl (A*2 ^ n)≤nl A+1:=lC (bKB _) (nD (by rw[Nat.pow_one]; exact Nat.pow_lt_pow_right (a:=2) (m:=n) (n:=32) (by decide) hn32))
 have hUV:B*2 ^ n≤A*2 ^ n:=bKX _ Om
 have nUV:m+1≤nl (A*2 ^ n):=by rw[← nV]; exact fN hUV
 have hU0:A*2 ^ n≠0:=by omega
 have e32:IntKind.i64.wrap (32*((nl B:Nat):Int))=((32*(m+1):Nat):Int):=by rw[wrap_i64 Om Om]; omega
 have en:IntKind.i64.wrap (((32*(m+1):Nat):Int)-((cF B:Nat):Int))=(n:Int):=by rw[wrap_i64 Om Om]; omega
 have bt:=L.bits (aH B) LB Om
 rw[vB] at bt
 have ua:=L.upM (aH A) n LA Om Om (fun h=>by have:=eU LA; rw[h] at this; omega)
 have ub:=(L.upM (aH B) n LB Om Om (fun h=>by have:=eU LB; rw[h] at this; omega)).freeze
 rw[vA] at ua
 rw[vB] at ub
 have tail:∀ (o:Nat) (F:PF) (H:PH),F 0=some (aJ (aH A))→F 1=some (aJ (aH B))→F 10=some (.int .i64 n)→F 11=some (.osl o 1 0 (nl (A*2 ^ n)+2))→F 12=some (aJ (aH (B*2 ^ n)))→H o=some (.rows 1 (aK (aH (A*2 ^ n))++[[.int .u32 0],[.int .u32 0]])) →
   aB.wp C (.seq (.region CQ) (.seq (.region CR) (.seq (.region CS) (.seq (.seq (.region CU) (.block 2 (.loop uD))) (.seq (.region DA) .ret))))) (aR [.tmp 4,.tmp 5] (bQ (pP A B))) F H:=by
  intro o F H f0 f1 f10 f11 f12 hH
  have LU:=aU (A*2 ^ n)
  have LV:=aU (B*2 ^ n)
  have vU:=aQ (A*2 ^ n)
  have vV:=aQ (B*2 ^ n)
  have lU:(aH (A*2 ^ n)).length=nl (A*2 ^ n):=rfl
  have lV:(aH (B*2 ^ n)).length=m+1:=nV
  have eu:IntKind.i64.wrap (((nl (A*2 ^ n):Nat):Int)+1)=((nl (A*2 ^ n)+1:Nat):Int):=cW Om
  have b1:((nl (A*2 ^ n)+1:Nat):Int)≤((nl (A*2 ^ n)+2:Nat):Int):=by omega
  simp only[go_sem,γ,reduceCtorEq,CQ,f11,f0,f10]
  refine aA ua.freeze rfl ?_
  obtain⟨lq,hlq⟩:∃ lq,nl (A*2 ^ n)+1-(m+1)=lq:=⟨_,rfl⟩
  have hlx:nl (A*2 ^ n)+1=lq+(m+1):=by omega
  have em:IntKind.i64.wrap (((m+1:Nat):Int)-1)=((m:Nat):Int):=by rw[wrap_i64 Om Om]; omega
  have hmV:m<(aH (B*2 ^ n)).length:=by omega
  have rm:=bO (aH (B*2 ^ n)) hmV
  have tl:=LV _ (bJZ hmV)
  have htop:0<(aH (B*2 ^ n))[m]:=by
   have h1:=bZ (aH (B*2 ^ n)) hmV
   rw[bKL Om,vV] at h1
   have h2:=eU (LV.take m)
   rw[bKN,bLW Om] at h2
   have hpp:0<4294967296 ^ m:=bMJ (by decide)
   rcases bLU (aH (B*2 ^ n))[m] with h | h
   ·rw[h] at h1; omega
   ·exact h
  have htop31:2147483648≤(aH (B*2 ^ n))[m]:=by
   have h1:=bZ (aH (B*2 ^ n)) hmV
   rw[bKL Om,vV] at h1
   have h2:=eU (LV.take m)
   rw[bKN,bLW Om] at h2
   rcases bKO (aH (B*2 ^ n))[m] 2147483648 with h | h
   ·exfalso
    have h3:4294967296 ^ m*((aH (B*2 ^ n))[m]+1)≤4294967296 ^ m*2147483648:=bMA _ h
    rw[bKH,Nat.mul_one] at h3
    omega
   ·exact h
  have key0:=bhR (C:=C) L (A*2 ^ n) n o (nl (A*2 ^ n)+1) lq
  have hI:oF (A*2 ^ n) (val (aH (B*2 ^ n))) (m+1) (nl (A*2 ^ n)+1) lq lq (aH (A*2 ^ n)++[0]) (bJY lq 0):=by
   refine⟨by rw[bJX,lU]; rfl,List.length_replicate,LU.app fun x hx=>by simp at hx; omega,uO _,?_,?_,fun i x _ hx=>aPT hx⟩
   ·rw[fS,vU,rH]; simp[val]
   ·have hlen:(aH (A*2 ^ n)++[0]).length=nl (A*2 ^ n)+1:=by rw[bJX,lU]; rfl
    have hv0:val (aH (A*2 ^ n)++[0])=A*2 ^ n:=by rw[fS,vU]; simp[val]
    rw[tP (LU.app fun x hx=>by simp at hx; omega) Om,hv0,vV,bMN (bMJ (by decide))]
    have h1:A*2 ^ n<4294967296 ^ nl (A*2 ^ n):=(jL _ _).1 (bKB _)
    have hx:nl (A*2 ^ n)=m+lq:=by omega
    rw[hx,Nat.pow_add] at h1
    have h2:4294967296 ^ m*4294967296 ^ lq≤(B*2 ^ n)*4294967296 ^ lq:=bKX _ Om
    omega
  have hrows:aK (aH (A*2 ^ n))++[[PV.int .u32 0],[PV.int .u32 0]]=dP (aH (A*2 ^ n)++[0]) (aK [0]):=by
   simp[dP,aK]
  rw[hrows] at hH
  generalize htp:(aH (B*2 ^ n))[m]=top at *
  have et:IntKind.u64.wrap ((top:Nat):Int)=((top:Nat):Int):=bE Om
  have k2:IntKind.i64.wrap (((nl (A*2 ^ n)+1:Nat):Int)-((m+1:Nat):Int))=((lq:Nat):Int):=by rw[wrap_i64 Om Om]; omega
  have k3:((lq:Nat):Int)*((4:Nat):Int)≤140737488355328:=by omega
  have k4:((lq:Nat):Int)≤9223372036854775807:=by omega
  have hz:bJY lq [PV.int .u32 0]=aK (bJY lq 0):=by simp[aK]
  have jq:IntKind.i64.wrap ((lq:Int)-1)=(lq:Int)-1:=wrap_i64 Om Om
  simp only[go_sem,ν,γ,reduceCtorEq,bJT,lU,eu,b1,CR,f12,lV,em,rm,et,CS,k2,k3,k4,hz]
  refine aO fun oq hoq=>?_
  have hne:oq≠o:=by rintro rfl; rw[hH] at hoq; cases hoq
  have bIU:¬ o=oq:=fun h=>hne h.symm
  have key:=key0 oq m (aH (B*2 ^ n)) [0] hne LV lV (by rw[htp]; exact htop) hlx Om _ hI
  rw[htp] at key
  simp only[go_sem,ο] at key
  simp only[go_sem,γ,CU,jq]
  refine key _ _ _ ?_ ?_ ?_
  ·unfold duF
   exact Lq
  ·refine PH.aG (PH.aG PH.nil_le ?_) ?_
   ·simp only[go_sem,bIU,hH]
   ·simp only[go_sem]
  clear key key0
  intro X Q F1 H1 hI1 hF1 hH1
  have g10:F1 10=some (.int .i64 n):=hF1 10 _ (by unfold duF; simp only[go_sem,ο,γ])
  have g11:F1 11=some (.osl o 1 0 (nl (A*2 ^ n)+1)):=hF1 11 _ (by unfold duF; simp only[go_sem,ο,γ])
  have g14:F1 14=some (.osl oq 1 0 lq):=hF1 14 _ (by unfold duF; simp only[go_sem,ο,γ])
  have ho1:H1 o=some (.rows 1 (dP X (aK [0]))):=hH1 o _ (by simp only[go_sem,bIU])
  have hq1:H1 oq=some (.rows 1 (aK Q)):=hH1 oq _ Sq
  have hu:val X<val (aH (B*2 ^ n)):=by have:=hI1.r; rwa [bKY] at this
  have hv':=hI1.v
  rw[vV] at hu hv'
  have hQv:val Q=A/B:=by
   have:A*2 ^ n/(B*2 ^ n)=val Q:=by
    rw[← hv',Nat.add_mul_div_right _ _ Om,bMX hu,bKS]
   rw[← this,Nat.mul_div_mul_right _ _ hp2]
  have hUv:val X/2 ^ n=A%B:=by
   have:A*2 ^ n%(B*2 ^ n)=val X:=by rw[← hv',Nat.add_mul_mod_self_right,bLB hu]
   rw[← this,Nat.mul_mod_mul_right,Nat.mul_div_cancel _ hp2]
  have lX:=hI1.lu'
  have lQ:=hI1.lq'
  have hQt:(aK Q).take lq=aK Q:=bKL (by rw[bV]; omega)
  have hXt:(dP X (aK [0])).take (nl (A*2 ^ n)+1)=aK X:=by
   rw[dP,List.take_append_of_le_length (by rw[bV]; omega),bKL (by rw[bV]; omega)]
  have hXl:nl (A*2 ^ n)+1≤(dP X (aK [0])).length:=by rw[dP,bJX,bV]; omega
  have hfx:(dP X (aK [0])).map (fun r=>r.map (PV.dT oq 1 (aK Q)))=dP X (aK [0]):=by
   have:dP X (aK [0])=aK (X++[0]):=by simp[dP,aK]
   rw[this]; exact qX _ _ _ _
  have nX:=fG hI1.limU
  have t1:=L.trim Q hI1.limQ Om
  have t2:=L.trim X hI1.limU Om
  have dn:=L.down (aH (val X)) n (aU _) (by rw[aZ]; omega) Om
  rw[aQ,hUv] at dn
  rw[hQv] at t1
  generalize aK [0]=Z0 at ho1 hXt hXl hfx
  simp only[go_sem,DA,g14]
  refine pY (o:=oq) (s:=1) (rs:=aK Q) t1 hq1 (by simp only[go_sem,hQt,show lq≤Q.length by omega]) ?_
  simp only[go_sem,γ,g11,bIU]
  refine pY (o:=o) (s:=1) (rs:=dP X Z0) t2 (by simp only[go_sem,bIU,ho1,cI.frz,hfx]) (by simp only[go_sem,γ,hXt,hXl]) ?_
  simp only[go_sem,γ,g10]
  refine aA dn rfl ?_
  simp only[go_sem,γ]
  exact aV (vs:=[aJ (aH (A/B)),aJ (aH (A%B))]) (.inr rfl) .nil rfl PH.nil_le ⟨.refl _,rfl⟩
 simp only[aB.wp,go_sem] at tail
 simp only[go_sem,γ,bF (Om:¬ ((nl B:Nat):Int)=1),UT,bJT,lB]
 refine aA bt rfl ?_
 simp only[go_sem,γ,reduceCtorEq,e32,en,UU]
 refine nH ua rfl PH.nil_le fun r H1 hr _=>?_
 have hb2:(2:Nat)*1≤16777216:=by decide
 rcases hr with ⟨h0,_⟩ | ⟨o,rs,rfl,rfl,hrl,hrt⟩
 ·exfalso
  have:=congrArg List.length h0
  rw[bV,aZ] at this
  simp at this
  omega
 rw[PH.oS]
 rw[bV,aZ] at hrl hrt
 simp only[go_sem,υ,δ,γ,η,ζ,hb2,bV,aZ]
 refine aPQ (src:=[[.int .u32 0],[.int .u32 0]]) (rs:=rs) rfl ?_ Sq hrl ?_ fun o' ho'=>?_
 ·unfold roomFor
  simp only[maxLen,bMH,bMD]; omega
 ·rw[hrt]
  simp only[go_sem,δ]
  refine aA ub rfl ?_
  simp only[go_sem,γ]
  exact tail o _ _ rfl rfl rfl rfl rfl Sq
 ·rw[hrt]
  simp only[go_sem,δ]
  refine aA ub rfl ?_
  simp only[go_sem,γ]
  exact tail o' _ _ rfl rfl rfl rfl rfl Sq
def aL (C:Ctx) (k:Nat) (pf:aS):Prop:=∀ (args:List PV) (H:PH) (R:PV→PH→Prop),args.length≤pf.ntmps→pf.body.wp C (aR pf.res R) (PF.args args) H→aI C k args H R
theorem aL.go {C:Ctx} {k:Nat} {pf:aS} (r:aL C k pf) {args:List PV} {H:PH} {R:PV→PH→Prop} (h:pf.body.wp C (aR pf.res R) (PF.args args) H) (hl:Nat.ble args.length pf.ntmps=true):aI C k args H R:=r args H R (Nat.le_of_ble_eq_true hl) h
theorem bD {C:Ctx} (T:Tbl) (hP:C.P=T.P) (hN:C.num=T.num) {k:Nat} {fn:Func} {pf:aS} (hf:C.P.funcs[C.num k]?=some fn) (hm:(fn.name=="runtime.NumGoroutine")=false) (hc:T.func fn=some pf):aL C k pf:=fun _ _ _ hl h=>bbQ hP hN hf hm hc hl h
structure eG (C:Ctx):Prop where
 r0:aL C 0 acO
 r1:aL C 1 ayU
 r2:aL C 2 a7C
 r4:aL C 4 adM
 r5:aL C 5 a7R
 r7:aL C 7 adL
 r20:aL C 20 acF
 r23:aL C 23 acK
 r27:aL C 27 acL
 r28:aL C 28 a7Q
 r29:aL C 29 ayV
 r30:aL C 30 a9S
 r31:aL C 31 azG
 r32:aL C 32 a9T
 r33:aL C 33 udiv
 r34:aL C 34 a9Y
 r35:aL C 35 azI
 r36:aL C 36 baA
 r37:aL C 37 baC
 r38:aL C 38 azK
 r39:aL C 39 SG
 r40:aL C 40 azH
 r41:aL C 41 agZ
 r42:aL C 42 ahA
 r43:aL C 43 azJ
 r44:aL C 44 ahE
 r45:aL C 45 uup
 r47:aL C 47 baH
 r50:aL C 50 ahR
 r58:aL C 58 SJ
 r59:aL C 59 azV
 r95:aL C 95 a4Z
 r96:aL C 96 a5F
 r97:aL C 97 abS
 r98:aL C 98 ayM
 r99:aL C 99 ayN
 r100:aL C 100 ayO
 r101:aL C 101 gone
 r102:aL C 102 ayP
 r103:aL C 103 abT
 r104:aL C 104 gin
 r105:aL C 105 a5A
 r106:aL C 106 a5B
 r107:aL C 107 ayQ
 r108:aL C 108 ayR
 r109:aL C 109 abW
 r110:aL C 110 ayS
 r111:aL C 111 aDE
 r112:aL C 112 a5C
 r113:aL C 113 VU
 r114:aL C 114 a4K
 r115:aL C 115 abH
 r116:aL C 116 DY
 r117:aL C 117 akR
 r118:aL C 118 abR
 r119:aL C 119 a4J
 r120:aL C 120 qW
 r121:aL C 121 abQ
 r122:aL C 122 ayL
 r123:aL C 123 acI
 r124:aL C 124 MW
 r125:aL C 125 NA
 r126:aL C 126 EB
 r127:aL C 127 a7U
 r128:aL C 128 ayW
 r129:aL C 129 a7W
 r130:aL C 130 a7Y
 r131:aL C 131 a8D
 r132:aL C 132 ayX
 r133:aL C 133 a8J
 r134:aL C 134 a8N
 r135:aL C 135 ayY
 r136:aL C 136 RV
 r137:aL C 137 adZ
 r138:aL C 138 xJ
 r139:aL C 139 HN
 r140:aL C 140 aeA
 r141:aL C 141 aeC
 r142:aL C 142 zO
 r143:aL C 143 nup
 r147:aL C 147 tat
 r148:aL C 148 afX
 r149:aL C 149 SE
 r150:aL C 150 agI
 r151:aL C 151 afM
 r152:aL C 152 azE
 r153:aL C 153 SD
 r154:aL C 154 azF
 r155:aL C 155 afV
 r156:aL C 156 azD
 r157:aL C 157 agJ
 r158:aL C 158 a9R
 r159:aL C 159 agQ
 r160:aL C 160 EO
 r161:aL C 161 agP
theorem wF {C:Ctx} (c:eG C):pZ C :=
 have len:∀ xs,Lim xs→xs.length≤35184372087808→aI C 138 [aJ xs] .nil (aD (.int .i64 (nl (val xs):Nat))):=fun xs h l=>c.r138.go (a8H xs h l) rfl
 {length:=len
  large:=fun xs h l=>c.r137.go (beJ xs (len xs h l)) rfl
  sized:=fun xs h l=>(c.r141.go (beO xs h (len xs h l)) rfl).seen
  trim:=fun xs h l=>(c.r135.go (bnF xs h l (len xs h l)) rfl).seen
  make:=fun v h=>c.r132.go (bnC v h len) rfl
  cmp:=fun xs ys hx hy lx ly=>c.r129.go (btP xs ys hx hy lx ly (len xs hx lx) (len ys hy ly)) rfl }
theorem bAL {C:Ctx} (c:eG C):ayI C :=
 {subtract:=fun A W Z v f o hW hv hl h1 hf bJE=>c.r142.go (aIX A W Z v f hW hv hl h1 hf bJE o) rfl
  restore:=fun A W Z v o hW hv hl h1=>c.r139.go (aSZ A W Z v hW hv hl h1 o) rfl }
theorem bmZ {C:Ctx} (c:eG C):aAC C :=
 {L:=wF c
  D:=bAL c
  up:=fun a s ha hs h1=>c.r143.go (bxG a s ha hs h1) rfl
  short:=fun a d ha h0 hd h1=>c.r140.go (beM (wF c) a d ha h0 hd h1) rfl
  lengthO:=fun xs o hx hl=>c.r138.go (aSY xs hx hl o) rfl }
theorem aHI {C:Ctx} (c:eG C) (A B:Nat) (hB:B≠0) (hA:nl A≤900) (hBl:nl B≤900):aI C 136 [aJ (aH A),aJ (aH B)] .nil (aD (pP A B)) :=
 (c.r136.go (a8B (bmZ c) A B hB hA hBl) rfl).seen
theorem yE {C:Ctx} (c:eG C):rN C :=
 {wF c with
  bits:=fun xs h l=>c.r128.go (bnA xs h l ((wF c).length xs h l)) rfl
  add:=fun xs ys hx hy lx ly=>(c.r127.go (btM (wF c) xs ys hx hy lx ly) rfl).seen
  sub:=fun xs ys hx hy lx ly=>(c.r134.go (btX (wF c) xs ys hx hy lx ly) rfl).seen
  mul:=fun xs ys hx hy lx ly=>(c.r133.go (btV (wF c) xs ys hx hy lx ly) rfl).seen
  gcd:=fun xs ys hx hy lx ly=>(c.r131.go (btT (wF c) (aHI c) xs ys hx hy lx ly) rfl).seen
  div:=fun xs ys hx hy lx ly=>(c.r130.go (btR (wF c) (aHI c) xs ys hx hy lx ly) rfl).seen }
theorem RJ {C:Ctx} (c:eG C):ES C :=
 {yE c with
  times:=fun a b ha hb la lb na nb=>c.r121.go (bcB (yE c) a b ha hb la lb na nb) rfl
  zero:=fun neg a b ha la=>c.r122.go (bkL (yE c) neg a b ha la) rfl
  valid:=fun neg a b ha hb la lb=>c.r118.go (bcD (yE c) neg a b ha hb la lb) rfl
  abs:=fun v h1 h2=>c.r119.go (brJ (yE c) v h1 h2) rfl
  lowest:=fun neg a b ha hb la lb na nb h0=>(c.r120.go (a4Q (yE c) neg a b ha hb la lb na nb h0) rfl).seen }
theorem bcA {C:Ctx} (c:eG C) (x y:RF) (hx:x.Ok) (hy:y.Ok):aI C 113 [.agg x.cells,.agg y.cells] .nil (aD (frV (gJ x.v y.v))) :=
 (c.r113.go (brL (RJ c) x.neg y.neg x.num x.den y.num y.den hx.1 hx.2.1 hy.1 hy.2.1 hx.2.2.1 hx.2.2.2 hy.2.2.1 hy.2.2.2) rfl).seen
theorem a4S {C:Ctx} (c:eG C):ayH C :=
 {RJ c with
  frac:=fun n d hn hd=>(c.r115.go (bkJ (RJ c) n d hn.1 hn.2 hd.1 hd.2) rfl).seen
  red:=fun x hx=>by
   rw[← a8U]
   exact (c.r116.go (a4T (RJ c) x.neg x.num x.den hx.1 hx.2.1 hx.2.2.1 hx.2.2.2) rfl).seen
  ord:=fun x y hx hy=>(c.r114.go (brN (RJ c) x.neg y.neg x.num x.den y.num y.den hx.1 hx.2.1 hy.1 hy.2.1 hx.2.2.1 hx.2.2.2 hy.2.2.1 hy.2.2.2) rfl).seen
  plus:=bcA c
  tot:=fun l hl=>(c.r117.go (brU (RJ c) (bcA c) l hl.all hl.fits) rfl).seen }
theorem RI {C:Ctx} (c:eG C):rK C :=
 have inn:∀ n lo hi:Int,aI C 104 [.int .i64 n,.int .i64 lo,.int .i64 hi] .nil (aD (.bool (within n lo hi))):=fun n lo hi=>(c.r104.go (bwS n lo hi) rfl).seen
 have kG:∀ x:RF,x.Ok→aI C 97 [.agg x.cells] .nil (aD (.bool (bJ x))):=fun x hx=>(c.r97.go (bcF (yE c) x hx) rfl).seen
 have lim:∀ x:RF,x.Ok→aI C 105 [.agg x.cells] .nil (aD (.bool (cL x))):=fun x hx=>(c.r105.go (bsA (a4S c) x hx) rfl).seen
 have letter:∀ n:Nat,aI C 126 [.int .u8 n] .nil (aD (.bool (eN n))):=fun n=>c.r126.go (a6G n) rfl
 have digit:∀ n:Nat,aI C 124 [.int .u8 n] .nil (aD (.bool (lN n))):=fun n=>c.r124.go (bcX n) rfl
 {a4S c with
  inn:=inn
  kG:=kG
  lim:=lim
  one:=fun x hx=>(c.r101.go (bsE (a4S c) x hx) rfl).seen
  allf:=fun p fn l hl h=>(c.r99.go (bkP p fn l hl h) rfl).seen
  alli:=fun p fn l hl h=>(c.r100.go (bkR p fn l hl h) rfl).seen
  allb:=fun p fn l hl h=>(c.r98.go (bkN p fn l hl h) rfl).seen
  ends1:=fun b=>(c.r103.go (bcH b) rfl).seen
  num1:=fun n=>(c.r107.go (bkW inn n) rfl).seen
  rate1:=fun x hx=>(c.r109.go (bcK lim kG x hx) rfl).seen
  name:=fun s=>c.r123.go (blZ letter (fun n=>c.r125.go (bdF letter digit n) rfl) s) rfl }
theorem bbY {C:Ctx} (c:eG C):azY C :=
 {RI c with
  num:=fun p hp=>(c.r106.go (bsC (RI c) p hp) rfl).seen
  rate:=fun p hp=>(c.r108.go (bkY (RI c) p hp) rfl).seen
  uniq:=fun l hl=>(c.r110.go (blB (RI c) l hl) rfl).seen }
theorem bbZ {C:Ctx} (c:eG C):aaD C :=
 {bbY c with
  ends:=fun l hl he=>(c.r102.go (bkU (RI c) l hl he) rfl).seen }
theorem bwQ {C:Ctx} (c:eG C):kC C :=
 {bbZ c with
  law:=fun l hl=>(c.r95.go (brY (bbZ c) l hl) rfl).seen
  pol:=fun p n hp hn=>(c.r112.go (bsG (bbY c) p hp n hn) rfl).seen
  bIA:=fun f hf=>(c.r111.go (brW (RI c) f hf) rfl).seen }
theorem brR {C:Ctx} (c:eG C) (f:aE) (hf:f.Ok):aI C 96 [.agg f.cells] .nil (aD (.int .i64 (JP f))):=(c.r96.go (bsJ (bwQ c) f hf) rfl).seen
theorem agM {C:Ctx} (c:eG C):RA C :=
 {valid:=fun f hf=>(c.r161.go (bhM (brR c) f hf) rfl).seen
  kG:=fun f d level hv hd h0 h4=>(c.r155.go (bgT f hv d hd level h0 h4) rfl).seen
  frag:=fun f v hv h=>(c.r156.go (boM f hv v h) rfl).seen }
theorem agN {C:Ctx} (c:eG C):aaN C :=
 {agM c with
  room:=fun f room hf=>(c.r152.go (boP (agM c) f hf room) rfl).freeze
  loads:=fun f l hd hl=>(c.r157.go (bhD f hd l hl) rfl).seen }
theorem bhG {C:Ctx} (c:eG C):aAH C :=
 {agN c with
  shape:=fun f l v hV hl hv hvf=>(c.r160.go (bhK (agN c) f hV l hl v hv hvf) rfl).seen }
theorem bhH {C:Ctx} (c:eG C):DS C :=
 {bhG c with
  bad:=fun o5 v k w=>c.r159.go (bhO o5 v k w) rfl }
theorem bhI {C:Ctx} (c:eG C):aAI C :=
 {bhH c with
  row:=fun f l v hV bJE hv hvf hr=>(c.r158.go (boU (bhH c) f hV bJE l v hv hvf hr) rfl).seen }
theorem bqQ {C:Ctx} (c:eG C):bqJ C :=
 {bhI c with
  viol:=fun f l room hf hl=>(c.r154.go (boS (bhI c) f hf l hl room) rfl).seen }
theorem uA {C:Ctx} (c:eG C):oX C:={ trimM:=fun xs h l=>c.r38.go (bpM xs h l) rfl }
theorem bfL {C:Ctx} (c:eG C):aAD C :=
 {uA c with
  make:=fun v h=>(c.r35.go (bpD (uA c) v h) rfl).seen
  large:=fun xs h l=>(c.r41.go (bhS (uA c) xs h l) rfl).seen
  cmp:=fun xs ys hx hy lx ly=>c.r32.go (buX (uA c) xs ys hx hy lx ly) rfl }
theorem bfN {C:Ctx} (c:eG C):aAF C :=
 {bfL c with
  minus:=fun a b ha hb hle hl h1=>(c.r42.go (bhU (uA c) a b ha hb hle hl h1) rfl).seen
  times:=fun a b ha hb h1 h2=>(c.r44.go (bhW (uA c) a b ha hb h1 h2) rfl).seen }
theorem aJR {C:Ctx} (c:eG C):aaK C :=
 {bfN c with
  plus:=fun a b ha hb h1 h2=>(c.r43.go (bpJ (uA c) a b ha hb h1 h2) rfl).seen }
theorem bxM {C:Ctx} (c:eG C):LN C :=
 {aJR c with
  bits:=fun xs h l=>c.r31.go (boX (uA c) xs h l) rfl
  upM:=fun a n ha h1 hn h0=>c.r45.go (byC (uA c) a n ha h1 hn h0) rfl
  down:=fun a n ha h1 hn=>(c.r40.go (bpB (uA c) a n ha h1 hn) rfl).seen }
theorem aJQ {C:Ctx} (c:eG C):aaI C :=
 {bfL c with
  divide:=fun A B hB hA hBl=>(c.r39.go (a9W (bxM c) A B hB hA hBl) rfl).seen }
theorem bfM {C:Ctx} (c:eG C):aAE C :=
 {aJQ c with
  gcd:=fun a b ha hb la lb=>(c.r34.go (bvB (aJQ c) a b ha hb la lb) rfl).seen
  div:=fun a b ha hb la lb=>(c.r33.go (buZ (aJQ c) a b ha hb la lb) rfl).seen }
theorem bqO {C:Ctx} (c:eG C):a3O C :=
 {bfM c with
  lowest:=fun neg a b ha hb la lb na nb h0=>(c.r58.go (baJ (bfM c) neg a b ha hb la lb na nb h0) rfl).seen
  size:=fun v hv=>c.r59.go (bqA v hv.1 hv.2) rfl }
theorem aeH {C:Ctx} (c:eG C):aaJ C :=
 {bqO c with
  fmk:=fun n d hn hd=>(c.r50.go (bpU (bqO c) n d hn hd) rfl).seen }
abbrev vE (C:Ctx):Prop:=∀ n:Nat,n<100→aI C 195 [.int .i64 n] .nil (aD (.str (bU n)))
theorem a7B {C:Ctx} (c:eG C) (hi:vE C):EU C :=
 {aeH c with
  int:=fun n hn=>(c.r47.go (a2F (aeH c) n hn) rfl).seen
  itoa:=hi
  next:=fun l v T o n a hn ha=>c.r4.go (bmM T o n a hn ha) rfl }
theorem beB {C:Ctx} (c:eG C) (hi:vE C):aAA C :=
 {a7B c hi with
  frac:=fun l v T o a ha=>c.r1.go (bmG (a7B c hi) T o a ha) rfl }
theorem beC {C:Ctx} (c:eG C) (hi:vE C):rM C :=
 {beB c hi with
  rep:=fun l v T o a m hm ha=>c.r5.go (btK (beB c hi) T o a m hm ha) rfl
  name:=fun s n hs hn=>c.r29.go (bmK (a7B c hi) s n hs hn) rfl }
theorem beD {C:Ctx} (c:eG C) (hi:vE C):mK C :=
 {beC c hi with
  law:=fun l v T o dW a hm hm2 ha=>c.r2.go (btG (beC c hi) T o dW a hm hm2 ha) rfl }
theorem oO {f:aE} (h:VF f) {i:Nat} (hi:i<f.bHR.length):0≤lvl f i∧lvl f i≤4:=by
 rcases bLU i with e | e
 ·rw[e,h.root.2.1]; omega
 ·have:=h.dom i e hi; omega


theorem btF (a b:Nat):mkT (a:Int) (b:Int)=⟨false,aH (a/bJV a b),aH (b/bJV a b)⟩:=by
 have h1:decide ((a:Int)<0)=false:=decide_eq_false Om
 have h2:decide ((b:Int)<0)=false:=decide_eq_false Om
 unfold mkT mA FV.rf
 rw[h1,h2,Int.natAbs_natCast,Int.natAbs_natCast]
 rfl
structure SmF (x:RF) (p q:Nat):Prop where
 eq:x=⟨false,aH (p/bJV p q),aH (q/bJV p q)⟩
 a:p≤64
 b:q≤64
 pos:0<q
theorem SmF.mk' {a b:Nat} (ha:a≤64) (hb:b≤64) (h:0<b):SmF (mkT (a:Int) (b:Int)) a b:=⟨btF a b,ha,hb,h⟩
theorem SmF.num {x:RF} {a b:Nat} (h:SmF x a b):val x.num=a/bJV a b:=by rw[h.eq,aQ]
theorem SmF.den {x:RF} {a b:Nat} (h:SmF x a b):val x.den=b/bJV a b:=by rw[h.eq,aQ]
theorem SmF.v {x:RF} {a b:Nat} (h:SmF x a b):x.v=(false,a/bJV a b,b/bJV a b):=by
 unfold RF.v
 rw[h.num,h.den,h.eq]
theorem SmF.aJB {x:RF} {a b:Nat} (_:SmF x a b):a/bJV a b≤a:=bMT ..
theorem SmF.aAV {x:RF} {a b:Nat} (_:SmF x a b):b/bJV a b≤b:=bMT ..
theorem SmF.den_pos {x:RF} {a b:Nat} (h:SmF x a b):0<b/bJV a b:=Nat.div_pos (Nat.le_of_dvd h.pos (Nat.gcd_dvd_right a b)) (Nat.gcd_pos_of_pos_right a h.pos)
theorem wZ {n:Nat} (h:n≤4096):cF n≤32:=(lJ n 32).2 Om
theorem aQH {n:Nat} (h:0<n):0<cF n:=by
 rcases bLU (cF n) with e | e
 ·rw[jS] at e; omega
 ·exact e
theorem sO {a b:Nat} (ha:a≤4096) (hb:b≤4096) (h:0<b):cN a b=true:=by
 have h1:=wZ ha
 have h2:=wZ hb
 have h3:=aQH h
 unfold cN
 rw[decide_eq_true h3,decide_eq_true (Om:cF b≤4096),decide_eq_true (Om:cF a≤4096)]
 rfl
theorem aWO {n:Bool} {a b:Nat} (ha:a≤4096) (hb:b≤4096):hC n a b=.ok (n&&decide (a/bJV a b≠0),a/bJV a b,b/bJV a b):=by
 have h1:=wZ (bLV (bMT a (bJV a b)) ha)
 have h2:=wZ (bLV (bMT b (bJV a b)) hb)
 unfold hC
 rw[if_neg Om]
theorem SmF.lim {x:RF} {a b:Nat} (h:SmF x a b):cL x=true:=by
 have h1:=h.aJB
 have h2:=h.aAV
 have h3:=h.den_pos
 have:=h.a
 have:=h.b
 have hn:x.neg=false:=by rw[h.eq]
 unfold cL nT
 rw[h.num,h.den,hn,sO Om Om h3,if_pos rfl,aWO Om Om]
 have e1:=bMT (a/bJV a b) (bJV (a/bJV a b) (b/bJV a b))
 have e2:=bMT (b/bJV a b) (bJV (a/bJV a b) (b/bJV a b))
 simp only[bKC,bKF,bKJ,bKM,decide_eq_true_eq]
 exact⟨wZ Om,wZ Om⟩
theorem SmF.kG {x:RF} {a b:Nat} (h:SmF x a b) (ha:0<a):bJ x=true:=by
 unfold bJ
 rw[h.num]
 exact decide_eq_true (Nat.ne_of_gt (Nat.div_pos (Nat.le_of_dvd ha (Nat.gcd_dvd_left a b)) (Nat.gcd_pos_of_pos_right a h.pos)))
theorem SmF.zero {x:RF} {b:Nat} (h:SmF x 0 b):bJ x=false:=by
 unfold bJ
 rw[h.num,Nat.zero_div]
 rfl
theorem SmF.one {x:RF} {a b:Nat} (h:SmF x a b) (hab:a≤b):vJ x=true:=by
 have h1:=h.aJB
 have h2:=h.aAV
 have h3:=h.den_pos
 have:=h.a
 have:=h.b
 have hn:x.neg=false:=by rw[h.eq]
 unfold vJ
 rw[h.num,h.den,hn,sO Om Om h3]
 have:a/bJV a b≤b/bJV a b:=Nat.div_le_div_right hab
 show (true&&decide (dC (a/bJV a b*1) (1*(b/bJV a b))≤0))=true
 rw[Nat.mul_one,Nat.one_mul,bKJ]
 refine decide_eq_true ?_
 unfold dC
 split
 ·decide
 ·split
  ·omega
  ·decide
theorem SmF.ok {x:RF} {a b:Nat} (h:SmF x a b):x.Ok:=by
 have h1:=h.aJB
 have h2:=h.aAV
 have:=h.a
 have:=h.b
 have k1:nl (a/bJV a b)≤1:=(jL _ _).2 Om
 have k2:nl (b/bJV a b)≤1:=(jL _ _).2 Om
 rw[h.eq]
 refine⟨aU _,aU _,?_,?_⟩
 ·show (aH _).length≤_
  rw[aZ]; omega
 ·show (aH _).length≤_
  rw[aZ]; omega
theorem brH:∀ c:Fin 9,∀ k:Fin 9,c.val+k.val≤8 →
  (c.val/bJV c.val 8*(8/bJV k.val 8)+k.val/bJV k.val 8*(8/bJV c.val 8))/bJV (c.val/bJV c.val 8*(8/bJV k.val 8)+k.val/bJV k.val 8*(8/bJV c.val 8)) (8/bJV c.val 8*(8/bJV k.val 8))=(c.val+k.val)/bJV (c.val+k.val) 8 ∧
  8/bJV c.val 8*(8/bJV k.val 8)/bJV (c.val/bJV c.val 8*(8/bJV k.val 8)+k.val/bJV k.val 8*(8/bJV c.val 8)) (8/bJV c.val 8*(8/bJV k.val 8))=8/bJV (c.val+k.val) 8:=by decide +kernel
abbrev eV (c:Nat):FV:=(false,c/bJV c 8,8/bJV c 8)
theorem SU (c:Nat):0<8/bJV c 8:=Nat.div_pos (Nat.le_of_dvd (by decide) (Nat.gcd_dvd_right c 8)) (Nat.gcd_pos_of_pos_right c (by decide))
theorem aAL {c k:Nat} (h:c+k≤8):gJ (eV c) (eV k)=.ok (eV (c+k)):=by
 obtain⟨e1,e2⟩:=brH ⟨c,by omega⟩ ⟨k,by omega⟩ h
 simp only at e1 e2
 have a1:=bMT c (bJV c 8)
 have a2:=bMT k (bJV k 8)
 have a3:=bMT 8 (bJV c 8)
 have a4:=bMT 8 (bJV k 8)
 have p1:=SU c
 have p2:=SU k
 simp only[gJ]
 rw[sO Om Om p1,sO Om Om p2,Bool.and_self,if_pos rfl,if_pos trivial]
 have b1:c/bJV c 8*(8/bJV k 8)≤8*8:=Nat.mul_le_mul Om a4
 have b2:k/bJV k 8*(8/bJV c 8)≤8*8:=Nat.mul_le_mul Om a3
 have b3:8/bJV c 8*(8/bJV k 8)≤8*8:=Nat.mul_le_mul a3 a4
 rw[aWO Om Om,e1,e2]
 rfl
theorem PA:∀ (l:List Nat) (c:Nat),c+l.sum≤8→(l.map eV).foldlM gJ (eV c)=.ok (eV (c+l.sum))
 | [],c,_=>rfl
 | k::l,c,h=>by
  rw[List.sum_cons] at h
  rw[bLF,List.foldlM_cons,aAL Om,List.sum_cons,← bLZ]
  exact PA l (c+k) Om
theorem brG:eV 0=(false,0,1):=by decide +kernel
theorem bjZ:eV 8=(false,1,1):=by decide +kernel
theorem buT (l:List Nat) (h:l.sum=8):(match mU (l.map eV) with
  | .ok (n,a,b)=>decide (oQ n a b false 1 1=0)
  | .error _=>false)=true:=by
 unfold mU
 rw[← brG,PA l 0 Om,bKS,h,bjZ]
 rfl
def dig (k:Nat):List UInt8:=if k<10 then [UInt8.ofNat (48+k)] else [UInt8.ofNat (48+k/10),UInt8.ofNat (48+k%10)]
def SI:List UInt8→Nat
 | [a]=>a.toNat-48
 | [a,b]=>(a.toNat-48)*10+(b.toNat-48)
 | _=>0
theorem MV {k:Nat} (h:k<100):bU k=dig k:=by
 unfold bU dig
 by_cases h1:k<10
 ·rw[if_pos h1]; exact Lib.decDigits_one h1
 ·rw[if_neg h1]; exact Lib.decDigits_two h1 h
theorem aAX:∀ k:Fin 100,SI (dig k.val)=k.val∧(dig k.val).length≤2∧((dig k.val).all fun c=>fE c.toNat)=true:=by decide +kernel
theorem alP {p:List UInt8} {c:UInt8} {t:List UInt8} (e:p=c::t) (hc:eN c.toNat=true) (ht:(t.all fun c=>fE c.toNat)=true) (hl:p.length≤8) {k:Nat} (hk:k<100):isName (p++bU k)=true:=by
 obtain⟨-,h2,h3⟩:=aAX ⟨k,hk⟩
 simp only at h2 h3
 subst e
 rw[MV hk]
 show (decide ((c::t++dig k).length≤16)&&eN c.toNat&&(c::t++dig k).all fun c=>fE c.toNat)=true
 have hi:fE c.toNat=true:=by unfold fE; rw[hc]; rfl
 rw[decide_eq_true (by rw[bJX]; omega),hc,List.all_append,h3,List.all_cons,ht,hi]
 rfl
theorem ST {l:List (List UInt8)} (h1:∀ x∈l,isName x=true) (h2:l.Nodup):distinct l=true:=by
 unfold distinct
 rw[bKP]
 intro i hi
 rw[bLN] at hi
 have e:l.getD i []=l[i]:=by simp[bKK,hi]
 rw[e,h1 _ (bJZ hi),bKJ]
 have:¬ l[i]∈l.take i:=by
  intro hm
  obtain⟨j,hj,e⟩:=bLJ hm
  rw[bKN] at hj
  rw[List.getElem_take] at e
  have:=(List.nodup_iff_pairwise_ne.1 h2)
  rw[List.pairwise_iff_getElem] at this
  exact this j i Om hi Om e
 simp[this]
theorem NP {l:List (List UInt8)} {g:List UInt8→Nat} (h:∀ i (hi:i<l.length),g l[i]=i):l.Nodup:=by
 rw[List.nodup_iff_pairwise_ne,List.pairwise_iff_getElem]
 intro i j hi hj hlt e
 have h1:=h i hi
 have h2:=h j hj
 rw[e] at h1
 omega
theorem rT {l:List (List UInt8)} {p:List UInt8} {c:UInt8} {t:List UInt8} (e:p=c::t) (hc:eN c.toNat=true) (ht:(t.all fun c=>fE c.toNat)=true) (hl:p.length≤8) (hn:l.length≤100) (h:∀ i (hi:i<l.length),l[i]=p++bU i):distinct l=true:=by
 refine ST ?_ (NP (g:=fun s=>SI (s.drop p.length)) ?_)
 ·intro x hx
  obtain⟨i,hi,rfl⟩:=bLJ hx
  rw[h i hi]
  exact alP e hc ht hl Om
 ·intro i hi
  rw[h i hi]
  simp only[List.drop_left]
  rw[MV Om]
  exact (aAX ⟨i,by omega⟩).1
structure rL (x:RF):Prop where
 lim:cL x=true
 ok:x.Ok
theorem SmF.o {x:RF} {a b:Nat} (h:SmF x a b):rL x:=⟨h.lim,h.ok⟩
theorem oV:SmF jY 0 1:=SmF.mk' (a:=0) (b:=1) (by decide) (by decide) (by decide)
theorem qK (l:List Nat) (a:Nat):rL (eZ l a).1∧bJ (eZ l a).1=true:=by
 have h1:=cC l (show 0<6 by decide) a
 have h2:=cC l (show 0<8 by decide) (aF l 6 a).2
 have:=SmF.mk' (a:=1+(aF l 6 a).1) (b:=1+(aF l 8 (aF l 6 a).2).1) Om Om Om
 exact⟨this.o,this.kG Om⟩
theorem bjP (l:List Nat) (i j a:Nat):rL (iR l i j a).1∧(j=i→bJ (iR l i j a).1=false)∧(j=i+1→bJ (iR l i j a).1=true):=by
 unfold iR
 by_cases h1:j=i+1
 ·rw[if_pos h1]
  exact⟨(qK l a).1,fun h=>by omega,fun _=>(qK l a).2⟩
 ·rw[if_neg h1]
  by_cases h2:j=i
  ·rw[if_pos h2]
   exact⟨oV.o,fun _=>oV.zero,fun h=>absurd h h1⟩
  ·rw[if_neg h2]
   simp only
   split
   ·exact⟨(qK l _).1,fun h=>absurd h h2,fun h=>absurd h h1⟩
   ·exact⟨oV.o,fun h=>absurd h h2,fun h=>absurd h h1⟩
theorem aZL (l:List Nat) (i a:Nat):∀ n,(dH l i a n).1.length=n∧∀ j (hj:j<(dH l i a n).1.length),rL (dH l i a n).1[j]∧(j=i→bJ (dH l i a n).1[j]=false)∧(j=i+1→bJ (dH l i a n).1[j]=true)
 | 0=>⟨rfl,fun j hj=>absurd hj (by simp[dH])⟩
 | n+1=>by
  obtain⟨h1,h2⟩:=aZL l i a n
  have e:(dH l i a (n+1)).1=(dH l i a n).1++[(iR l i n (dH l i a n).2).1]:=rfl
  rw[e]
  refine⟨by simp[h1],fun j hj=>?_⟩
  by_cases hlt:j<(dH l i a n).1.length
  ·rw[List.getElem_append_left hlt]; exact h2 j hlt
  ·rw[bJX,bKD] at hj
   have:j=n:=by omega
   subst this
   rw[List.getElem_append_right Om]
   simp only[List.getElem_singleton]
   exact bjP l i j _
theorem aZK (l:List Nat) (a:Nat):∀ n,(jW l a n).1.length=n∧∀ x∈(jW l a n).1,rL x∧bJ x=true
 | 0=>⟨rfl,fun x hx=>by cases hx⟩
 | n+1=>by
  obtain⟨h1,h2⟩:=aZK l a n
  have e:(jW l a (n+1)).1=(jW l a n).1++[(eZ l (jW l a n).2).1]:=rfl
  rw[e]
  refine⟨by simp[h1],fun x hx=>?_⟩
  rw[bLQ,List.mem_singleton] at hx
  rcases hx with hx | rfl
  ·exact h2 x hx
  ·exact qK l _
theorem bkH (l:List Nat) (n i a:Nat):rL (eR l n i a).1∧(i+1=n→bJ (eR l n i a).1=true):=by
 unfold eR
 by_cases h:i+1<n
 ·simp only[if_pos h]
  refine⟨?_,fun h2=>by omega⟩
  split
  ·exact oV.o
  ·exact (qK l a).1
 ·simp only[if_neg h]
  exact⟨(qK l a).1,fun _=>(qK l a).2⟩
def bwI (n:Nat) (bHT:List (List RF)):Prop:=∀ i (hi:i<bHT.length),bHT[i].length=n∧∀ j (hj:j<bHT[i].length),rL bHT[i][j]∧(j=i→bJ bHT[i][j]=false)∧(j=i+1→bJ bHT[i][j]=true)
def bwG (n:Nat) (exit:List RF):Prop:=∀ i (hi:i<exit.length),rL exit[i]∧(i+1=n→bJ exit[i]=true)
structure bCH (n i:Nat) (s:AR) (cs:List Nat):Prop where
 start:s.start=cs.map fun c=>mkT ((c:Nat):Int) ((8:Nat):Int)
 lens:s.exit.length=i∧s.bHT.length=i∧cs.length=i
 left:cs.sum+s.left=8∧(i=n→0<n→s.left=0)
 exit:bwG n s.exit
 bHT:bwI n s.bHT
theorem qP {α:Type} {P:Nat→α→Prop} {xs:List α} {x:α} (h:∀ i (hi:i<xs.length),P i xs[i]) (hx:P xs.length x):∀ i (hi:i<(xs++[x]).length),P i (xs++[x])[i]:=by
 intro i hi
 by_cases hlt:i<xs.length
 ·rw[List.getElem_append_left hlt]; exact h i hlt
 ·rw[bJX,bKD] at hi
  have:i=xs.length:=by omega
  subst this
  rw[List.getElem_append_right Om]
  simpa using hx
theorem aoE (l:List Nat) (n a:Nat):∀ i,i≤n→∃ cs,bCH n i (fM l n a i) cs
 | 0,_=>⟨[],rfl,⟨rfl,rfl,rfl⟩,⟨rfl,fun h h2=>by omega⟩,fun i hi=>absurd hi (by simp[fM]),fun i hi=>absurd hi (by simp[fM])⟩
 | i+1,hi=>by
  obtain⟨cs,h1,⟨h2,h3,h4⟩,⟨h5,-⟩,h6,h7⟩:=aoE l n a i Om
  generalize hs:fM l n a i=s at *
  have e:fM l n a (i+1)=⟨s.start++[mkT ((dE l n i s).1:Nat) 8],s.exit++[(eR l n i (dE l n i s).2).1],s.bHT++[(dH l i (eR l n i (dE l n i s).2).2 n).1],s.left-(dE l n i s).1,(dH l i (eR l n i (dE l n i s).2).2 n).2⟩:=by
   simp only[fM,hs]
  rw[e]
  have hk:(dE l n i s).1≤s.left∧(i+1=n→(dE l n i s).1=s.left):=by
   unfold dE
   split
   ·exact⟨by have:=cC l (Om:0<s.left+1) s.a; omega,fun h=>by omega⟩
   ·exact⟨bKB _,fun _=>rfl⟩
  refine⟨cs++[(dE l n i s).1],?_,⟨by simp[h2],by simp[h3],by simp[h4]⟩,⟨?_,fun h _=>?_⟩,?_,?_⟩
  ·simp only[h1,bLT,bLF,bME]; rfl
  ·simp only[List.sum_append,List.sum_cons,List.sum_nil]; omega
  ·have:=hk.2 h
   simp only; omega
  ·refine qP (P:=fun i x=>rL x∧(i+1=n→bJ x=true)) h6 ?_
   rw[h2]; exact bkH l n i _
  ·refine qP (P:=fun i (r:List RF)=>r.length=n∧∀ j (hj:j<r.length),rL r[j]∧(j=i→bJ r[j]=false)∧(j=i+1→bJ r[j]=true)) h7 ?_
   rw[h3]; exact aZL l i _ n
theorem bkF {x:bX} {e r:RF} (h1:x.exit=[e]) (h2:x.bHT=[[r]]) (h3:bJ e=true):nY x=true:=by
 unfold nY
 rw[h1]
 show ((cQ x 2).all id)=true
 simp only[cQ,cP,kA,cD,h1,h2,bMH,bMD,List.getD_cons_zero,bLF,bME,h3]
 cases bJ r<;>rfl
theorem OI {x:bX} {e0 e1 r00 r01 r10 r11:RF} (h1:x.exit=[e0,e1]) (h2:x.bHT=[[r00,r01],[r10,r11]]) (h3:bJ e1=true) (h4:bJ r01=true) (a b:Bool) :
  ∃ c,cP x [a,b] 2=[c,true]∧(b=true→c=true)∧(a=true→c=true):=by
 have q1:kA x [a,b] 0=[((a||bJ e0)||bJ r00&&(a||bJ e0))||b,b]:=by
  unfold kA
  rw[h1,h2]
  simp only[List.getD_cons_zero,bLF,List.set_cons_zero]
  generalize (a||bJ e0)=c
  show cD [c,b] 0 [r00,r01] 2=_
  have:cD [c,b] 0 [r00,r01] 1=[c||bJ r00&&c,b]:=rfl
  show (let R':=cD [c,b] 0 [r00,r01] 1; R'.set 0 (R'.getD 0 false||([r00,r01].map bJ).getD 1 false&&R'.getD 1 false))=_
  rw[this]
  show [(c||bJ r00&&c)||(bJ r01&&b),b]=_
  rw[h4,bKJ]
 have q2:∀ c,kA x [c,b] 1=[c,true]:=by
  intro c
  unfold kA
  rw[h1,h2]
  have:cD [c,true] 1 [r10,r11] 1=[c,true||bJ r10&&c]:=rfl
  show cD [c,b||bJ e1] 1 [r10,r11] 2=_
  rw[h3,Bool.or_true]
  show (let R':=cD [c,true] 1 [r10,r11] 1; R'.set 1 (R'.getD 1 false||([r10,r11].map bJ).getD 1 false&&R'.getD 1 false))=_
  rw[this,Bool.true_or]
  show [c,true||bJ r11&&true]=_
  rw[Bool.true_or]
 refine⟨_,by rw[show cP x [a,b] 2=kA x (kA x [a,b] 0) 1 from rfl,q1,q2],?_,?_⟩
 ·rintro rfl; rw[Bool.or_true]
 ·rintro rfl; simp
theorem bkG {x:bX} {e0 e1 r00 r01 r10 r11:RF} (h1:x.exit=[e0,e1]) (h2:x.bHT=[[r00,r01],[r10,r11]]) (h3:bJ e1=true) (h4:bJ r01=true):nY x=true:=by
 unfold nY
 rw[h1]
 show ((cQ x 3).all id)=true
 have e:∀ r,cQ x (r+1)=cP x (cQ x r) 2:=fun r=>by rw[cQ,h1]; rfl
 have e0:cQ x 0=[false,false]:=by rw[cQ,h1]; rfl
 obtain⟨c1,k1,-,-⟩:=OI h1 h2 h3 h4 false false
 obtain⟨c2,k2,k3,-⟩:=OI h1 h2 h3 h4 c1 true
 obtain⟨c3,k4,k5,-⟩:=OI h1 h2 h3 h4 c2 true
 rw[e,e,e,e0,k1,k2,k4,k5 rfl]
 rfl
theorem aFI {c:Nat}:∀ {cs:List Nat},c∈cs→c≤cs.sum
 | k::t,h=>by
  rw[List.sum_cons]
  rcases bKI.1 h with rfl | h
  ·omega
  ·have:=aFI h; omega
theorem RQ {α:Type} {l:List α} (h:l.length=2):∃ a b,l=[a,b]:=by
 match l,h with
 | [a,b],_=>exact⟨a,b,rfl⟩
theorem bxY (cs:List Nat) (h:cs.sum=8):(match mU ((cs.map fun c=>mkT ((c:Nat):Int) ((8:Nat):Int)).map RF.v) with
  | .ok (n,a,b)=>decide (oQ n a b false 1 1=0)
  | .error _=>false)=true:=by
 have hle:∀ c∈cs,c≤8:=fun c hc=>by
  have:=aFI hc
  omega
 have e:((cs.map fun c=>mkT ((c:Nat):Int) ((8:Nat):Int)).map RF.v)=cs.map eV:=by
  rw[List.map_map]
  refine List.map_congr_left fun c hc=>?_
  have:=hle c hc
  exact (SmF.mk' (a:=c) (b:=8) Om (by decide) (by decide)).v
 rw[e]
 exact buT cs h
theorem wY {α:Type} {p:α→Bool} {l:List α} (h:∀ i (hi:i<l.length),p l[i]=true):l.all p=true:=by
 rw[bKP]
 intro x hx
 obtain⟨i,hi,rfl⟩:=bLJ hx
 exact h i hi
theorem a5T (l:List Nat) (a:Nat) (nm:List UInt8):jU { (pQ l 2 a).1 with name:=nm }=true∧({ (pQ l 2 a).1 with name:=nm }:bX).Ok:=by
 obtain⟨n,hn⟩:∃ n,n=1+(aF l 2 a).1:=⟨_,rfl⟩
 have hn2:n=1∨n=2:=by have:=cC l (show 0<2 by decide) a; omega
 obtain⟨cs,h1,⟨h2,h3,h4⟩,⟨h5,h5'⟩,h6,h7⟩:=aoE l n (aF l 2 a).2 n (bKB _)
 generalize hs:fM l n (aF l 2 a).2 n=s at *
 have e:({ (pQ l 2 a).1 with name:=nm }:bX)=⟨nm,s.start,s.bHT,s.exit⟩:=by
  simp only[pQ,← hn,hs]
 rw[e]
 have hsum:cs.sum=8:=by have:=h5' rfl Om; omega
 have hle:∀ c∈cs,c≤8:=fun c hc=>by
  have:=aFI hc
  omega
 have hstart:∀ x∈s.start,rL x:=by
  intro x hx
  rw[h1] at hx
  obtain⟨c,hc,rfl⟩:=bLA.1 hx
  have:=hle c hc
  exact (SmF.mk' (a:=c) (b:=8) Om (by decide) (by decide)).o
 have hsl:s.start.length=n:=by rw[h1,bJT,h4]
 have hends:nY ⟨nm,s.start,s.bHT,s.exit⟩=true:=by
  rcases hn2 with rfl | rfl
  ·obtain⟨e,he⟩:=List.length_eq_one_iff.1 h2
   obtain⟨rw_,hr⟩:=List.length_eq_one_iff.1 h3
   have hrl:=(h7 0 Om).1
   obtain⟨r,hr2⟩:=List.length_eq_one_iff.1 hrl
   have hx:=(h6 0 Om).2 rfl
   simp only[hr,List.getElem_cons_zero] at hr2
   simp only[he,List.getElem_cons_zero] at hx
   exact bkF he (by rw[hr,hr2]) hx
  ·obtain⟨e0,e1,he⟩:=RQ h2
   obtain⟨r0,r1,hr⟩:=RQ h3
   have hr0:=(h7 0 Om).1
   have hr1:=(h7 1 Om).1
   have hx:=(h6 1 Om).2 rfl
   have hy:=((h7 0 Om).2 1 Om).2.2 rfl
   simp only[he,List.getElem_cons_succ,List.getElem_cons_zero] at hx
   simp only[hr,List.getElem_cons_succ,List.getElem_cons_zero] at hr0 hr1 hy
   obtain⟨r00,r01,h00⟩:=RQ hr0
   obtain⟨r10,r11,h10⟩:=RQ hr1
   simp only[h00,List.getElem_cons_succ,List.getElem_cons_zero] at hy
   exact bkG he (by rw[hr,h00,h10]) hx hy
 constructor
 ·unfold jU
  simp only[bKM]
  refine⟨⟨⟨⟨⟨⟨⟨?_,?_⟩,?_⟩,?_⟩,?_⟩,?_⟩,?_⟩,hends⟩
  ·rw[within_iff]; omega
  ·exact decide_eq_true Om
  ·exact decide_eq_true Om
  ·exact bKP.2 fun x hx=>(hstart x hx).lim
  ·exact wY fun i hi=>(h6 i hi).1.lim
  ·rw[bKP]
   intro i hi
   rw[bLN] at hi
   obtain⟨k1,k2⟩:=h7 i hi
   have eg:s.bHT.getD i []=s.bHT[i]:=by simp[bKK,hi]
   rw[eg,bKM,bKM]
   refine⟨⟨decide_eq_true Om,wY fun j hj=>(k2 j hj).1.lim⟩,?_⟩
   have hij:i<s.bHT[i].length:=by omega
   rw[getD_at hij,(k2 i hij).2.1 rfl]
   rfl
  ·rw[h1]; exact bxY cs hsum
 ·have hf:∀ m:Nat,m≤2→m≤9223372036854775807:=fun m hm=>by omega
  have hnl:n≤2:=by omega
  refine⟨⟨?_,fun x hx=>(hstart x hx).ok⟩,⟨?_,fun x hx=>?_⟩,?_,fun r hr=>⟨?_,fun x hx=>?_⟩⟩
  ·exact hf s.start.length Om
  ·exact hf s.exit.length Om
  ·obtain⟨i,hi,rfl⟩:=bLJ hx
   exact (h6 i hi).1.ok
  ·exact hf s.bHT.length Om
  ·obtain⟨i,hi,rfl⟩:=bLJ hr
   have:=(h7 i hi).1
   exact hf (s.bHT[i]'hi).length Om
  ·obtain⟨i,hi,rfl⟩:=bLJ hr
   obtain⟨j,hj,rfl⟩:=bLJ hx
   exact ((h7 i hi).2 j hj).1.ok
theorem TC (l:List Nat) (a:Nat):∀ n,(gY l a n).1.length=n∧∀ i (hi:i<(gY l a n).1.length),(gY l a n).1[i].name=[108,97,119]++bU i∧jU (gY l a n).1[i]=true∧(gY l a n).1[i].Ok
 | 0=>⟨rfl,fun i hi=>absurd hi (by simp[gY])⟩
 | n+1=>by
  obtain⟨h1,h2⟩:=TC l a n
  have e:(gY l a (n+1)).1=(gY l a n).1++[{ (pQ l 2 (gY l a n).2).1 with name:=[108,97,119]++bU n }]:=rfl
  rw[e]
  refine⟨by simp[h1],qP (P:=fun i (x:bX)=>x.name=[108,97,119]++bU i∧jU x=true∧x.Ok) h2 ?_⟩
  rw[h1]
  exact⟨rfl,a5T l _ _⟩
theorem LE (l:List Nat) (bHY:Nat) (hl:0<bHY) (a:Nat):∀ n,(eD l bHY a n).1.length=n∧∀ i (hi:i<(eD l bHY a n).1.length),(eD l bHY a n).1[i].name=[109]++bU i∧∃ e p w:Nat,(eD l bHY a n).1[i].bIJ=e∧1≤e∧e≤4∧(eD l bHY a n).1[i].port=p∧1≤p∧p≤8∧(eD l bHY a n).1[i].law=w∧w<bHY
 | 0=>⟨rfl,fun i hi=>absurd hi (by simp[eD])⟩
 | n+1=>by
  obtain⟨h1,h2⟩:=LE l bHY hl a n
  obtain⟨s,hs⟩:∃ s,s=eD l bHY a n:=⟨_,rfl⟩
  have e:(eD l bHY a (n+1)).1=(eD l bHY a n).1++[⟨[109]++bU n,(1+(aF l 4 s.2).1:Nat),(1+(aF l 8 (aF l 4 s.2).2).1:Nat),((aF l bHY (aF l 8 (aF l 4 s.2).2).2).1:Nat)⟩]:=by rw[hs]; rfl
  rw[e]
  refine⟨by simp[h1],qP (P:=fun i (x:cK)=>x.name=[109]++bU i∧∃ e p w:Nat,x.bIJ=e∧1≤e∧e≤4∧x.port=p∧1≤p∧p≤8∧x.law=w∧w<bHY) h2 ?_⟩
  rw[h1]
  have k1:=cC l (show 0<4 by decide) s.2
  have k2:=cC l (show 0<8 by decide) (aF l 4 s.2).2
  have k3:=cC l hl (aF l 8 (aF l 4 s.2).2).2
  exact⟨rfl,_,_,_,rfl,by omega,by omega,rfl,by omega,by omega,rfl,k3⟩
end Go.PM
