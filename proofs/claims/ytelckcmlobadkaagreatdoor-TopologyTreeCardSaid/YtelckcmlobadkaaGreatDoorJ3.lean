/-
  Texts of ours, joined: FrW4 FlCode Pm33 FlW1 FlPlain FlW2 Pm34 R1W1 R1W2 R1W3 R1W4 FlW3 FlW4 FlW5 FlW6 FlW7 FlW8 FlW9 ToPlain MkPlain Mv1 Mv2 Mv3 Mv4 ToCode ToW1 ToW2 ToW3. No condition.
-/
import Derived.Test.YtelckcmlobadkaaGreatDoorJ1
import Derived.Test.YtelckcmlobadkaaGreatDoorJ2
import Derived.Lib.ItoaNum
set_option linter.unusedSimpArgs false
set_option linter.unusedVariables false
open Nat renaming reduceEqDiff → γ, reduceAdd → δ, reduceSub → ε, reduceMul → ζ, reduceLT → η, reduceLeDiff → θ, reduceBEq → τ
open Int renaming reduceLT → ι, reduceLE → κ, reduceEq → μ, reduceToNat → ν, reduceAdd → ξ, reduceNeg → ο, reduceBEq → ρ, reduceBNe → σ
open List renaming reduceReplicate → υ
open List renaming length_map → baF, replicate → baH, length_append → baI, length_singleton → baL, getElem_mem → baN, mem_cons → baP, getElem?_eq_getElem → baQ, take_of_length_le → baS, length_take → baV, range → baW, not_mem_nil → baY, drop_zero → bbG, getD_eq_getElem?_getD → bbI, append_assoc → bbJ, map_cons → bbK, mem_map → bbL, getElem?_eq_none → bbO, take_length → bbP, all_eq_true → bbQ, getElem?_eq_some_iff → bbR, getElem?_map → bbU, getElem_map → bbW, getElem_of_mem → bbX, append_nil → bbY, length_drop → bbZ, map_append → bcA, drop_eq_getElem_cons → bcD, mem_append → bcE, mem_range → bcF, Sublist → bcK, length_nil → bcL, map_nil → bcM, length_cons → bcN, take_succ_eq_append_getElem → bcO, mem_of_getElem? → bcS, take_append_drop → bcT, nodup_append → bcU, ext_getElem → bcZ, getElem?_append_left → bdA, length_set → bdB, getElem?_append_right → bdE, getElem?_take → bdF, set_append_right → bdG, drop_of_length_le → bdL
open Nat renaming gcd → baG, le_refl → baJ, mul_add → baO, zero_le → baR, lt_or_ge → baU, mul_assoc → baX, mul_comm → bbA, add_mul → bbD, mul_le_mul_right → bbE, zero_add → bbF, mod_eq_of_lt → bbH, mod_lt → bbM, pow_succ → bbS, eq_zero_or_pos → bcB, min_eq_left → bcC, add_assoc → bcG, add_zero → bcH, mul_le_mul_left → bcI, le_trans → bcP, pos_of_ne_zero → bcQ, pow_pos → bcR, div_lt_iff_lt_mul → bcV, div_le_self → bdC, div_add_mod → bdH, div_eq_of_lt → bdI
open Option renaming map_eq_some_iff → baK, map_some → bbN, some → bcJ, getD_some → bcX, bind_eq_some_iff → bdJ, bind_some → bdM
open Bool renaming not_true → baM, false_and → baT, not_false → baZ, and_eq_true → bbB, true_and → bbC, and_false → bbV, and_true → bcY
open Array renaming replicate → bbT, length_toList → bcW, getElem?_eq_getElem → bdK, getElem?_eq_some_iff → bdN
open Int renaming toNat_natCast → bdD
namespace Go.PM
open Go Go.Na
abbrev FV:=Bool × Nat × Nat
abbrev FR:=Except Int FV
def jD (neg:Bool) (a b:Nat):FR :=
 if bY (a/baG a b)>4096∨bY (b/baG a b)>4096 then .error 2 else .ok (neg&&decide (a/baG a b≠0),a/baG a b,b/baG a b)
def frV:FR→PV
 | .ok (n,a,b)=>aFD n a b
 | .error e=>uN e
theorem XO (neg:Bool) (a b:Nat):AP neg a b=frV (jD neg a b):=by
 unfold AP jD
 split<;>rfl
def gX:FV→FV→FR
 | (n1,a1,b1),(n2,a2,b2)=>if dC a1 b1&&dC a2 b2 then
   (if n1=n2 then jD n1 (a1*b2+a2*b1) (b1*b2) else if a2*b1≤a1*b2 then jD n1 (a1*b2-a2*b1) (b1*b2) else jD n2 (a2*b1-a1*b2) (b1*b2))
  else .error 1
theorem aYN {a b m:Nat} (ha:nl a≤m) (hb:nl b≤m):nl (a+b)≤m+1:=by
 rw[gB] at ha hb ⊢
 rw[bbS]; omega
theorem axB (a b:Nat):(dB a b≥0)↔b≤a:=by
 unfold dB
 split
 ·constructor
  ·intro h; exact absurd h (by decide)
  ·intro h; omega
 ·split
  ·constructor
   ·intro h; omega
   ·intro h; decide
  ·constructor
   ·intro h; omega
   ·intro h; decide
theorem JS (r:FR):∃ neg' x y e,frV r=.tup [.agg (eS neg' x y),.int .i64 e]:=by
 rcases r with e | ⟨n,a,b⟩
 ·exact⟨_,_,_,_,rfl⟩
 ·exact⟨_,_,_,_,rfl⟩
theorem aTN {C:Ctx} (L:zC C) (n1 n2:Bool) (a1 b1 a2 b2:List Nat) (ha1:Lim a1) (hb1:Lim b1) (ha2:Lim a2) (hb2:Lim b2)
  (la1:a1.length≤16777216) (lb1:b1.length≤16777216) (la2:a2.length≤16777216) (lb2:b2.length≤16777216) :
  EI.wp C (aZ EH.res (bW (frV (gX (n1,val a1,val b1) (n2,val a2,val b2))))) (PF.args [.agg (eS n1 a1 b1),.agg (eS n2 a2 b2)]) .nil:=by
 simp -implicitDefEqProofs only[go_sem,δ,γ,EI,axO]
 refine aP fun o ho=>?_
 simp -implicitDefEqProofs only[go_sem,δ,γ,axP]
 refine aB (L.valid n1 a1 b1 ha1 hb1 la1 lb1) rfl ?_
 simp only[gX]
 cases hv:dC (val a1) (val b1) with
 | false =>
  simp -implicitDefEqProofs only[go_sem,δ,γ,reduceCtorEq,baZ,WX,baT]
  refine kK ?_
  simp -implicitDefEqProofs only[go_sem,δ,γ,EH]
 | true =>
  obtain⟨v1,v2,v3⟩:=kN.1 hv
  simp -implicitDefEqProofs only[go_sem,δ,γ,baM]
  refine aB (L.valid n2 a2 b2 ha2 hb2 la2 lb2) rfl ?_
  cases hw:dC (val a2) (val b2) with
  | false =>
   simp -implicitDefEqProofs only[go_sem,δ,γ,reduceCtorEq,baZ,WX,bbV]
   refine kK ?_
   simp -implicitDefEqProofs only[go_sem,δ,γ,EH]
  | true =>
   obtain⟨w1,w2,w3⟩:=kN.1 hw
   simp -implicitDefEqProofs only[go_sem,γ,reduceCtorEq,baM,bcY]
   refine cC .nil frS PH.nil_le ?_
   simp -implicitDefEqProofs only[go_sem,δ,γ,θ,axQ]
   refine cN (rE a1 b2) (L.times a1 b2 ha1 hb2 la1 lb2 (by omega) (by omega)) rfl PH.nil_le ?_
   simp -implicitDefEqProofs only[go_sem,δ,γ,θ]
   refine cN (rE a2 b1) (L.times a2 b1 ha2 hb1 la2 lb1 (by omega) (by omega)) rfl PH.nil_le ?_
   simp -implicitDefEqProofs only[go_sem,γ]
   refine cN (rE b1 b2) (L.times b1 b2 hb1 hb2 lb1 lb2 (by omega) (by omega)) rfl PH.nil_le ?_
   simp -implicitDefEqProofs only[go_sem,γ]
   have m1:=rJ v3 w2
   have m2:=rJ w3 v2
   have m3:=rJ v2 w2
   have d0:val b1*val b2≠0:=Nat.mul_ne_zero v1 w1
   generalize hA:val a1*val b2=A at *
   generalize hB:val a2*val b1=B at *
   generalize hD:val b1*val b2=D at *
   have fin:∀ (F:PF) (H:PH) (r:FR),(∃ neg' x y e,frV r=.tup [.agg (eS neg' x y),.int .i64 e]∧F 4=some (.ptr o 3 0 0)∧F 5=some (.int .i64 e)∧H o=some (.rows 3 [eS neg' x y]))→aZ EH.res (bW (frV r)) .ret F H:=by
    rintro F H r ⟨neg',x,y,e,he,f4,f5,hH⟩
    rw[he]
    exact aY (.inr rfl) .nil (vs:=[.agg (eS neg' x y),.int .i64 e]) (by simp -implicitDefEqProofs only[go_sem,δ,EH,f4,f5,hH]) PH.nil_le ⟨.refl _,rfl⟩
   have eb:(n1==n2)=decide (n1=n2):=by cases n1<;>cases n2<;>rfl
   have low:∀ neg x,nl x≤257→aJ C 120 [.bool neg,aF (aG x),aF (aG D)] .nil (aK (frV (jD neg x D))):=by
    intro neg x hx
    have h1:(aG x).length≤16777216:=by rw[bG]; omega
    have h2:(aG D).length≤16777216:=by rw[bG]; omega
    have:=L.lowest neg (aG x) (aG D) (bB _) (bB _) h1 h2
    rw[aV,aV,XO] at this
    exact this (by omega) (by omega) d0
   have lA:(aG A).length≤16777216:=by rw[bG]; omega
   have lB:(aG B).length≤16777216:=by rw[bG]; omega
   simp -implicitDefEqProofs only[go_sem,δ,γ,θ,axR]
   by_cases c:n1=n2
   ·rw[if_pos c]
    have c':(n1==n2)=true:=by rw[eb,decide_eq_true c]
    simp -implicitDefEqProofs only[go_sem,γ,c',axS]
    have hadd:=L.add (aG A) (aG B) (bB _) (bB _) lA lB
    have nab:=aYN m1 m2
    rw[aV,aV,gY (by omega) (by omega),opV,asH (by omega)] at hadd
    refine aB hadd rfl ?_
    simp -implicitDefEqProofs only[go_sem,δ,γ,θ,reduceCtorEq,axT]
    refine aB (low n1 _ (by omega)) rfl ?_
    obtain⟨neg',x,y,e,hl⟩:=JS (jD n1 (A+B) D)
    rw[hl]
    simp -implicitDefEqProofs only[go_sem,δ,γ]
    rw[← hl]
    exact fin _ _ _ ⟨neg',x,y,e,hl,by simp -implicitDefEqProofs only[go_sem,γ],by simp -implicitDefEqProofs only[go_sem,γ],by simp -implicitDefEqProofs only[go_sem]⟩
   ·rw[if_neg c]
    have c':(n1==n2)=false:=by rw[eb,decide_eq_false c]
    simp -implicitDefEqProofs only[go_sem,γ,c',axU]
    have hc:=L.cmp (aG A) (aG B) (bB _) (bB _) lA lB
    rw[aV,aV] at hc
    refine aB hc rfl ?_
    have hsub:∀ X Y:Nat,nl X≤256→nl Y≤256→Y≤X→aJ C 134 [aF (aG X),aF (aG Y)] .nil (aK (.tup [aF (aG (X-Y)),.int .i64 0])):=by
     intro X Y h1 h2 h
     have:=L.sub (aG X) (aG Y) (bB _) (bB _) (by rw[bG]; omega) (by rw[bG]; omega)
     have h3:=fZ (show X-Y≤X by omega)
     rw[aV,aV,uC,gY (by omega) (by omega),if_neg (by decide),if_neg (by omega),asH (by omega)] at this
     exact this
    by_cases g:B≤A
    ·have g':dB A B≥0:=(axB A B).2 g
     rw[if_pos g]
     simp -implicitDefEqProofs only[go_sem,γ,g',axV]
     refine aB (hsub A B (by omega) (by omega) g) rfl ?_
     simp -implicitDefEqProofs only[go_sem,δ,γ,θ,axW]
     have h3:=fZ (show A-B≤A by omega)
     refine aB (low n1 (A-B) (by omega)) rfl ?_
     obtain⟨neg',x,y,e,hl⟩:=JS (jD n1 (A-B) D)
     rw[hl]
     simp -implicitDefEqProofs only[go_sem,δ,γ]
     rw[← hl]
     exact fin _ _ _ ⟨neg',x,y,e,hl,by simp -implicitDefEqProofs only[go_sem,γ],by simp -implicitDefEqProofs only[go_sem,γ],by simp -implicitDefEqProofs only[go_sem]⟩
    ·have g':¬ dB A B≥0:=fun h=>g ((axB A B).1 h)
     rw[if_neg g]
     simp -implicitDefEqProofs only[go_sem,γ,g',ajE]
     refine aB (hsub B A (by omega) (by omega) (by omega)) rfl ?_
     simp -implicitDefEqProofs only[go_sem,δ,γ,θ,ajF]
     have h3:=fZ (show B-A≤B by omega)
     refine aB (low n2 (B-A) (by omega)) rfl ?_
     obtain⟨neg',x,y,e,hl⟩:=JS (jD n2 (B-A) D)
     rw[hl]
     simp -implicitDefEqProofs only[go_sem,δ,γ]
     rw[← hl]
     exact fin _ _ _ ⟨neg',x,y,e,hl,by simp -implicitDefEqProofs only[go_sem,γ],by simp -implicitDefEqProofs only[go_sem,γ],by simp -implicitDefEqProofs only[go_sem]⟩
structure RF where
 neg:Bool
 num:List Nat
 den:List Nat
abbrev RF.cells (x:RF):List PV:=eS x.neg x.num x.den
def RF.Ok (x:RF):Prop:=Lim x.num∧Lim x.den∧x.num.length≤16777216∧x.den.length≤16777216
def RF.v (x:RF):FV:=(x.neg,val x.num,val x.den)
abbrev frs (l:List RF):PV:=.sl 3 (l.map RF.cells)
def FV.rf:FV→RF
 | (n,a,b)=>⟨n,aG a,aG b⟩
def FV.Small:FV→Prop
 | (_,a,b)=>nl a≤900000∧nl b≤900000
theorem FV.a8P (x:FV):x.rf.v=x:=by
 obtain⟨n,a,b⟩:=x
 show (n,val (aG a),val (aG b))=_
 rw[aV,aV]
def nS (l:List FV):FR:=l.foldlM gX (false,0,1)
theorem pD {neg:Bool} {a b:Nat} {r:FV} (h:jD neg a b=.ok r):r.Small∧r.rf.Ok:=by
 unfold jD at h
 split at h
 ·cases h
 ·rename_i hc
  have h1:=(sV (a/baG a b) 128).1 (by omega)
  have h2:=(sV (b/baG a b) 128).1 (by omega)
  injection h with h
  subst h
  refine⟨⟨by omega,by omega⟩,bB _,bB _,?_,?_⟩
  ·show (aG _).length≤_
   rw[bG]; omega
  ·show (aG _).length≤_
   rw[bG]; omega
theorem awX {x y r:FV} (h:gX x y=.ok r):r.rf.Ok:=by
 obtain⟨n1,a1,b1⟩:=x
 obtain⟨n2,a2,b2⟩:=y
 simp only[gX] at h
 split at h
 ·split at h
  ·exact (pD h).2
  ·split at h
   ·exact (pD h).2
   ·exact (pD h).2
 ·cases h
theorem awA {α β:Type} {f:β→α→Except Int β} (l:List α) (b:β) {k:Nat} (h:k<l.length):(l.take (k+1)).foldlM f b=((l.take k).foldlM f b).bind fun x=>f x l[k]:=by
 rw[bcO h,List.foldlM_append]
 cases (l.take k).foldlM f b with
 | error e=>rfl
 | ok x =>
  show ([l[k]]:List α).foldlM f x=f x l[k]
  rw[List.foldlM_cons]
  cases f x l[k]<;>rfl
theorem aEZ {α β:Type} {f:β→α→Except Int β} (l:List α) (b:β) {k:Nat} {e:Int} (h:(l.take k).foldlM f b=.error e):l.foldlM f b=.error e:=by
 conv=>lhs; rw[← bcT k l,List.foldlM_append,h]
 rfl
def aRE (l:List RF) (o2 o4:Nat) (k:Nat):PF:=((((((PF.nil.set 2 (.ptr o2 3 0 0)).set 3 (.int .i64 0)).set 4 (.ptr o4 3 0 0)).set 11 (frs l)).set 12 (.int .i64 (l.length:Nat))).set 13 (.int .i64 k))
def QI (o2 o4:Nat) (c:List PV):PH:=(PH.nil.set o2 (.rows 3 [[.bool false,.nils,.nils]])).set o4 (.rows 3 [c])
theorem aTV {C:Ctx} (L:zC C) (hadd:∀ x y:RF,x.Ok→y.Ok→aJ C 113 [.agg x.cells,.agg y.cells] .nil (aK (frV (gX x.v y.v)))) (l:List RF) (hl:∀ x∈l,x.Ok) (hlen:l.length≤9223372036854775807) :
  EP.wp C (aZ NR.res (bW (frV (nS (l.map RF.v))))) (PF.args [frs l]) .nil:=by
 simp -implicitDefEqProofs only[go_sem,δ,EP,ayC]
 refine aP fun o2 ho2=>?_
 simp -implicitDefEqProofs only[go_sem,ayD]
 refine aB (L.make 1 (by decide)) rfl ?_
 simp -implicitDefEqProofs only[go_sem,δ,γ]
 refine aP fun o4 ho4=>?_
 have hne:o4≠o2:=by rintro rfl; simp only[aU,if_true] at ho4; cases ho4
 have hne':o2≠o4:=Ne.symm hne
 simp -implicitDefEqProofs only[go_sem,δ,γ,reduceCtorEq,ayE]
 refine wp_loop (α:=Nat × FV × PV) (fun t=>aRE l o2 o4 t.1) (fun t=>QI o2 o4 [.bool t.2.1.1,t.2.2,aF (aG t.2.1.2.2)]) (fun t=>t.1≤l.length∧((l.map RF.v).take t.1).foldlM gX (false,0,1)=.ok t.2.1∧(t.2.2=.nils∧t.2.1.2.1=0∨t.2.2=aF (aG t.2.1.2.1))∧(FV.rf t.2.1).Ok) (fun t=>l.length-t.1)
  (0,(false,0,1),.nils) ⟨baR _,rfl,.inl ⟨rfl,rfl⟩,⟨bB _,bB _,?_,?_⟩⟩ ?_ ?_ ?_
 ·show (aG 0).length≤_
  rw[eU]; simp
 ·show (aG 1).length≤_
  rw[kT (by decide) (by decide)]; simp
 ·unfold aRE
  (repeat' (first|exact PF.nil_le|refine PF.aA ?_ ?_))<;>first|(simp -implicitDefEqProofs only[go_sem,γ,baF]<;>rfl)|rfl
 ·unfold QI
  exact PH.aA (PH.aA PH.nil_le (by simp -implicitDefEqProofs only[go_sem,hne',hne])) (by simp -implicitDefEqProofs only[go_sem,hne',hne])
 rintro⟨k,⟨an,aa,ab⟩,cy⟩ ⟨hk,hf,hco,hacc⟩
 simp only at hk hf hco hacc ⊢
 have hco':CoL [.bool an,cy,aF (aG ab)] (FV.rf (an,aa,ab)).cells:=by
  refine .cons (.refl _) (.cons ?_ (.cons (.refl _) .nil))
  rcases hco with ⟨rfl,rfl⟩ | rfl
  ·show Co .nils (aF (aG 0))
   rw[eU]; exact .nil 1
  ·exact .refl _
 simp -implicitDefEqProofs only[go_sem,γ,ajO,ayF,aRE]
 by_cases hlt:k<l.length
 ·have hlt':(k:Int)<(l.length:Nat):=by omega
  have hr:(l.map RF.cells)[k]?=some (l[k]).cells:=by simp[hlt]
  simp -implicitDefEqProofs only[go_sem,δ,γ,hlt',ayG,hr]
  refine aP fun o6 ho6=>?_
  have n64:o4≠o6:=by rintro rfl; simp only[QI,aU,if_true] at ho6; cases ho6
  have n62:o2≠o6:=by rintro rfl; simp only[QI,aU,if_true,if_neg hne'] at ho6; cases ho6
  simp -implicitDefEqProofs only[go_sem,δ,γ,ayH,QI,n64,n62,hne,hne']
  refine aB ((hadd (FV.rf (an,aa,ab)) l[k] hacc (hl _ (baN hlt))).args (.cons (CoL.agg hco') (.cons (.refl _) .nil))) rfl ?_
  rw[FV.a8P]
  have hstep:=awA (f:=gX) (l.map RF.v) (false,0,1) (k:=k) (by simpa using hlt)
  rw[hf] at hstep
  simp only[Except.bind,bbW] at hstep
  cases he:gX (an,aa,ab) (l[k]).v with
  | error e =>
   simp -implicitDefEqProofs only[go_sem,δ,γ,frV]
   refine aP fun o7 ho7=>?_
   have he0:e≠0:=by
    revert he
    obtain⟨n2,a2,b2⟩:=(l[k]).v
    simp only[gX,jD]
    repeat' split
    all_goals (intro h; first | (injection h with h; subst h; decide) | cases h)
   have n72:o2≠o7:=by rintro rfl; simp only[aU,n62,hne',if_true,if_false] at ho7; cases ho7
   simp -implicitDefEqProofs only[go_sem,δ,γ,XC,dP he0,ayI,n72,n62,hne']
   rw[he] at hstep
   rw[nS,aEZ _ _ hstep]
   refine kK ?_
   simp -implicitDefEqProofs only[go_sem,δ,γ,NR]
  | ok r =>
   obtain⟨rn,ra,rb⟩:=r
   simp -implicitDefEqProofs only[go_sem,δ,γ,frV]
   refine aP fun o7 ho7=>?_
   have n74:o4≠o7:=by rintro rfl; simp only[aU,n64,if_true,if_false] at ho7; cases ho7
   have n72:o2≠o7:=by rintro rfl; simp only[aU,n62,hne',if_true,if_false] at ho7; cases ho7
   simp -implicitDefEqProofs only[go_sem,σ,δ,γ,XC,ayJ,n74,n72,n64,n62,hne,hne',Ne.symm n74,ayK,aL (show k<9223372036854775807 by omega)]
   rw[he] at hstep
   refine aH (k+1,(rn,ra,rb),aF (aG ra)) ⟨hlt,hstep,.inr rfl,awX he⟩ (by simp only; omega) ?_ ?_
   ·(repeat' (first|exact PF.nil_le|refine PF.aA ?_ ?_))<;>first|(simp -implicitDefEqProofs only[go_sem,γ]<;>rfl)|rfl
   ·refine PH.aA (PH.aA PH.nil_le ?_) ?_
    ·simp -implicitDefEqProofs only[go_sem,hne',hne,n74,n72,n64,n62]
    ·simp -implicitDefEqProofs only[go_sem,hne',hne,n74,n72,n64,n62]
 ·have hlt':¬ (k:Int)<(l.length:Nat):=by omega
  have:k=l.length:=by omega
  subst this
  rw[baS (by simp)] at hf
  rw[nS,hf]
  have hfin:bW (frV (.ok (an,aa,ab))) (cU [.agg [.bool an,cy,aF (aG ab)],.int .i64 0]) .nil:=⟨CoL.tup (.cons (CoL.agg hco') (.cons (.refl _) .nil)),rfl⟩
  rcases hco with ⟨rfl,rfl⟩ | rfl
  ·simp -implicitDefEqProofs only[go_sem,δ,γ,hlt',NS,QI,hne,hne']
   refine aY (.inr rfl) .nil ?_ PH.nil_le hfin
   simp -implicitDefEqProofs only[go_sem,δ,γ,NR,hne,hne']
  ·simp -implicitDefEqProofs only[go_sem,δ,γ,hlt',NS,QI,hne,hne']
   refine aY (.inr rfl) .nil ?_ PH.nil_le hfin
   simp -implicitDefEqProofs only[go_sem,δ,γ,NR,hne,hne']
end Go.PM
namespace Go.PM
open Go
def mK:Rg:=[iA 2 (.mv (.const (.bool false)))]
def mL:Rg:=[iM 3 0,iA 4 (.bin .geq (Tm 3) (.const (.int .u8 97))),iM 5 4,iG 6 (.mv (Tm 0)) 5 true,iG 7 (.bin .leq (Tm 6) (.const (.int .u8 122))) 5 true,iA 8 (.pick (Tm 5) (Tm 7) (.const (.bool false))),iM 9 8,iG 10 (.mv (Tm 0)) 9 false,iG 11 (.bin .geq (Tm 10) (.const (.int .u8 65))) 9 false,iG 12 (.mv (Tm 11)) 9 false,iG 13 (.mv (Tm 0)) 12 true,iG 14 (.bin .leq (Tm 13) (.const (.int .u8 90))) 12 true,iG 15 (.pick (Tm 12) (Tm 14) (.const (.bool false))) 9 false,iA 16 (.pick (Tm 9) (.const (.bool true)) (Tm 15)),iM 2 16]
def iU:aC:=(.seq (.region mK) (.seq (.region mL) .ret))
def aFV:List Nat:=[]
def tC:bD:=⟨1,17,iU,[.tmp 2]⟩
def uT:Rg:=[iA 2 (.mv (.const (.bool false)))]
def uU:Rg:=[iM 3 0,iA 4 (.bin .geq (Tm 3) (.const (.int .u8 48))),iM 5 4,iG 6 (.mv (Tm 0)) 5 true,iG 7 (.bin .leq (Tm 6) (.const (.int .u8 57))) 5 true,iA 8 (.pick (Tm 5) (Tm 7) (.const (.bool false))),iM 2 8]
def nC:aC:=(.seq (.region uT) (.seq (.region uU) .ret))
def aJJ:List Nat:=[]
def yM:bD:=⟨1,9,nC,[.tmp 2]⟩
def aaH:Rg:=[iA 2 (.mv (.const (.bool false)))]
def aaI:Rg:=[iM 3 0,iA 4 (.call 126 [(Tm 3)]),iM 5 4,iG 6 (.mv (Tm 0)) 5 false,iG 7 (.call 124 [(Tm 6)]) 5 false,iA 8 (.pick (Tm 5) (.const (.bool true)) (Tm 7)),iM 9 8,iG 10 (.mv (Tm 0)) 9 false,iG 11 (.bin .eql (Tm 10) (.const (.int .u8 45))) 9 false,iA 12 (.pick (Tm 9) (.const (.bool true)) (Tm 11)),iM 13 12,iG 14 (.mv (Tm 0)) 13 false,iG 15 (.bin .eql (Tm 14) (.const (.int .u8 46))) 13 false,iA 16 (.pick (Tm 13) (.const (.bool true)) (Tm 15)),iM 2 16]
def wG:aC:=(.seq (.region aaH) (.seq (.region aaI) .ret))
def aJN:List Nat:=[]
def yN:bD:=⟨1,17,wG,[.tmp 2]⟩
def AK:Rg:=[iA 2 (.mv (.const (.bool false)))]
def AL:Rg:=[iM 4 0,iA 5 (.bin .eql (Tm 4) (.const (.str []))),iM 6 5,iG 7 (.mv (Tm 0)) 6 false,iG 8 (.lenStr (Tm 7)) 6 false,iG 9 (.bin .gtr (Tm 8) (Ci 16)) 6 false,iA 10 (.pick (Tm 6) (.const (.bool true)) (Tm 9)),iM 11 10,iG 12 (.mv (Tm 0)) 11 false,iG 13 (.idxStr (Tm 12) (Ci 0)) 11 false,iG 14 (.call 126 [(Tm 13)]) 11 false,iG 15 (.un .not (Tm 14)) 11 false,iA 16 (.pick (Tm 11) (.const (.bool true)) (Tm 15))]
def AM:Rg:=[iA 2 (.mv (.const (.bool false)))]
def anB:Rg:=[iI 3 0]
def anC:Rg:=[iM 17 3,iM 18 0,iA 19 (.lenStr (Tm 18)),iB 20 .lss 17 19]
def anD:Rg:=[iM 23 0,iM 24 3,iA 25 (.idxStr (Tm 23) (Tm 24)),iA 26 (.call 125 [(Tm 25)]),iA 27 (.un .not (Tm 26))]
def anE:Rg:=[iA 2 (.mv (.const (.bool false)))]
def anF:Rg:=[iM 21 3,iC 22 .add 21 1,iM 3 22]
def anA:aC:=(.seq (.seq (.region anC) (.cond (Tm 20) .skip (.exit 0))) (.seq (.block 1 (.seq (.region anD) (.cond (Tm 27) (.seq (.region anE) .ret) .skip))) (.region anF)))
def anG:Rg:=[iA 2 (.mv (.const (.bool true)))]
def pC:aC:=(.seq (.region AK) (.seq (.seq (.region AL) (.cond (Tm 16) (.seq (.region AM) .ret) .skip)) (.seq (.seq (.region anB) (.block 0 (.loop anA))) (.seq (.region anG) .ret))))
def aPS:List Nat:=[]
def KC:bD:=⟨1,28,pC,[.tmp 2]⟩
def SC:Rg:=[iA 6 (.mv (.const (.bool false)))]
def SD:Rg:=[iM 7 0,iM 8 1,iB 9 .geq 7 8,iM 10 9,iG 11 (.mv (Tm 0)) 10 true,iG 12 (.mv (Tm 2)) 10 true,iG 13 (.bin .leq (Tm 11) (Tm 12)) 10 true,iA 14 (.pick (Tm 10) (Tm 13) (.const (.bool false))),iM 6 14]
def tM:aC:=(.seq (.region SC) (.seq (.region SD) .ret))
def aYF:List Nat:=[]
def gin:bD:=⟨3,15,tM,[.tmp 6]⟩
def ZM:Rg:=[iA 1 (.box true (Tm 0)),iA 2 (.mv (.const (.bool false)))]
def ZN:Rg:=[iF 3 1 1,iL 4 3,iA 5 (.call 128 [(Tm 4)]),iC 6 .gtr 5 0,iM 2 6]
def wB:aC:=(.seq (.region ZM) (.seq (.region ZN) .ret))
def aIZ:List Nat:=[1]
def ES:bD:=⟨1,7,wB,[.tmp 2]⟩
def ayZ:Rg:=[iA 1 (.box true (Tm 0)),iA 2 (.mv (.const (.bool false)))]
def azA:Rg:=[iA 6 (.load (some 3) (Tm 1)),iA 7 (.call 116 [(Tm 6)]),iM 5 7,iA 8 (.extract (Tm 5) 0),iA 9 (.extract (Tm 5) 1),iA 3 (.alloc [(.bool false),.nils,.nils]),iS 3 3 8,iM 4 9]
def JV:Rg:=[iM 10 4,iC 11 .eql 10 0,iM 12 11,iG 13 (.fieldA 0 (Tm 3)) 12 true,iG 14 (.load none (Tm 13)) 12 true,iG 15 (.un .not (Tm 14)) 12 true,iA 16 (.pick (Tm 12) (Tm 15) (.const (.bool false))),iM 17 16,iG 18 (.fieldA 1 (Tm 3)) 17 true,iG 19 (.load none (Tm 18)) 17 true,iG 20 (.call 128 [(Tm 19)]) 17 true,iG 21 (.bin .leq (Tm 20) (Ci 32)) 17 true,iA 22 (.pick (Tm 17) (Tm 21) (.const (.bool false))),iM 23 22,iG 24 (.fieldA 2 (Tm 3)) 23 true,iG 25 (.load none (Tm 24)) 23 true,iG 26 (.call 128 [(Tm 25)]) 23 true,iG 27 (.bin .leq (Tm 26) (Ci 32)) 23 true,iA 28 (.pick (Tm 23) (Tm 27) (.const (.bool false))),iM 2 28]
def EX:aC:=(.seq (.region ayZ) (.seq (.region azA) (.seq (.region JV) .ret)))
def aUC:List Nat:=[1]
def alE:bD:=⟨1,29,EX,[.tmp 2]⟩
def azE:Rg:=[iA 1 (.box true (Tm 0)),iA 2 (.mv (.const (.bool false)))]
def azF:Rg:=[iA 8 (.call 115 [(Ci 1),(Ci 1)]),iM 7 8,iA 9 (.extract (Tm 7) 0),iA 10 (.extract (Tm 7) 1),iA 3 (.alloc [(.bool false),.nils,.nils]),iS 3 3 9,iM 4 10]
def azG:Rg:=[iA 12 (.load (some 3) (Tm 1)),iA 13 (.load (some 3) (Tm 3)),iA 14 (.call 114 [(Tm 12),(Tm 13)]),iM 11 14,iA 15 (.extract (Tm 11) 0),iA 16 (.extract (Tm 11) 1),iM 5 15,iM 6 16]
def XG:Rg:=[iM 17 6,iC 18 .eql 17 0,iM 19 18,iG 20 (.mv (Tm 5)) 19 true,iG 21 (.bin .leq (Tm 20) (Ci 0)) 19 true,iA 22 (.pick (Tm 19) (Tm 21) (.const (.bool false))),iM 2 22]
def EZ:aC:=(.seq (.region azE) (.seq (.region azF) (.seq (.region azG) (.seq (.region XG) .ret))))
def aUG:List Nat:=[1]
def gone:bD:=⟨1,23,EZ,[.tmp 2]⟩
def akB:Rg:=[iA 4 (.mv (.const (.bool false)))]
def akC:Rg:=[iM 7 0,iN 8 7,iI 9 0]
def akD:Rg:=[iB 10 .lss 9 8]
def akE:Rg:=[iX 11 3 7 9,iA 12 (.load (some 3) (Tm 11)),iA 6 (.alloc [(.bool false),.nils,.nils]),iS 3 6 12]
def akF:Rg:=[iM 13 1,iA 14 (.load (some 3) (Tm 6)),iA 15 (.callv (Tm 13) [(Tm 14)]),iA 16 (.un .not (Tm 15))]
def akG:Rg:=[iA 4 (.mv (.const (.bool false)))]
def akH:Rg:=[iC 17 .add 9 1,iM 9 17]
def akA:aC:=(.seq (.region akD) (.seq (.cond (Tm 10) .skip (.exit 0)) (.seq (.block 1 (.seq (.region akE) (.seq (.region akF) (.cond (Tm 16) (.seq (.region akG) .ret) .skip)))) (.region akH))))
def akI:Rg:=[iA 4 (.mv (.const (.bool true)))]
def zU:aC:=(.seq (.region akB) (.seq (.seq (.region akC) (.block 0 (.loop akA))) (.seq (.region akI) .ret)))
def aOW:List Nat:=[]
def RZ:bD:=⟨2,18,zU,[.tmp 4]⟩
def akK:Rg:=[iA 4 (.mv (.const (.bool false)))]
def akL:Rg:=[iM 7 0,iN 8 7,iI 9 0]
def akM:Rg:=[iB 10 .lss 9 8]
def akN:Rg:=[iX 11 1 7 9,iL 12 11,iM 6 12]
def akO:Rg:=[iM 13 1,iM 14 6,iA 15 (.callv (Tm 13) [(Tm 14)]),iA 16 (.un .not (Tm 15))]
def akP:Rg:=[iA 4 (.mv (.const (.bool false)))]
def akQ:Rg:=[iC 17 .add 9 1,iM 9 17]
def akJ:aC:=(.seq (.region akM) (.seq (.cond (Tm 10) .skip (.exit 0)) (.seq (.block 1 (.seq (.region akN) (.seq (.region akO) (.cond (Tm 16) (.seq (.region akP) .ret) .skip)))) (.region akQ))))
def akR:Rg:=[iA 4 (.mv (.const (.bool true)))]
def zV:aC:=(.seq (.region akK) (.seq (.seq (.region akL) (.block 0 (.loop akJ))) (.seq (.region akR) .ret)))
def aOY:List Nat:=[]
def SA:bD:=⟨2,18,zV,[.tmp 4]⟩
def ajS:Rg:=[iA 4 (.mv (.const (.bool false)))]
def ajT:Rg:=[iM 7 0,iN 8 7,iI 9 0]
def ajU:Rg:=[iB 10 .lss 9 8]
def ajV:Rg:=[iX 11 1 7 9,iL 12 11,iM 6 12]
def ajW:Rg:=[iM 13 1,iM 14 6,iA 15 (.callv (Tm 13) [(Tm 14)]),iA 16 (.un .not (Tm 15))]
def ajX:Rg:=[iA 4 (.mv (.const (.bool false)))]
def ajY:Rg:=[iC 17 .add 9 1,iM 9 17]
def ajR:aC:=(.seq (.region ajU) (.seq (.cond (Tm 10) .skip (.exit 0)) (.seq (.block 1 (.seq (.region ajV) (.seq (.region ajW) (.cond (Tm 16) (.seq (.region ajX) .ret) .skip)))) (.region ajY))))
def ajZ:Rg:=[iA 4 (.mv (.const (.bool true)))]
def zT:aC:=(.seq (.region ajS) (.seq (.seq (.region ajT) (.block 0 (.loop ajR))) (.seq (.region ajZ) .ret)))
def aOU:List Nat:=[]
def RY:bD:=⟨2,18,zT,[.tmp 4]⟩
def ZO:Rg:=[iA 2 (.mv (.const (.bool false)))]
def ZP:Rg:=[iM 3 0,iM 2 3]
def wC:aC:=(.seq (.region ZO) (.seq (.region ZP) .ret))
def aJB:List Nat:=[]
def ET:bD:=⟨1,4,wC,[.tmp 2]⟩
def akV:Rg:=[iA 1 (.box true (Tm 0)),iA 2 (.mv (.const (.bool false)))]
def akW:Rg:=[iF 8 3 1,iL 9 8,iN 10 9,iA 11 (.mkslice 1 1 [(.bool false)] (Tm 10) (Tm 10)),iM 3 11]
def akX:Rg:=[iI 4 0]
def akY:Rg:=[iM 12 4,iM 13 3,iN 14 13,iB 15 .leq 12 14]
def akZ:Rg:=[iM 18 3,iN 19 18,iI 20 0]
def NT:Rg:=[iB 21 .lss 20 19]
def alA:Rg:=[iM 22 20,iM 5 22]
def NU:Rg:=[iM 23 3,iM 24 5,iM 25 3,iM 26 5,iX 27 1 25 26,iL 28 27,iM 29 28,iG 30 (.fieldA 3 (Tm 1)) 29 false,iG 31 (.load none (Tm 30)) 29 false,iG 32 (.mv (Tm 5)) 29 false,iG 33 (.idxS 3 (Tm 31) (Tm 32)) 29 false,iG 34 (.load (some 3) (Tm 33)) 29 false,iG 35 (.call 97 [(Tm 34)]) 29 false,iA 36 (.pick (Tm 29) (.const (.bool true)) (Tm 35)),iX 37 1 23 24,iS 1 37 36]
def NV:Rg:=[iF 38 2 1,iL 39 38,iM 40 5,iX 41 1 39 40,iL 42 41,iN 43 42,iI 44 0]
def alB:Rg:=[iB 45 .lss 44 43]
def ZR:Rg:=[iM 46 44,iX 47 3 42 44,iA 48 (.load (some 3) (Tm 47)),iA 7 (.alloc [(.bool false),.nils,.nils]),iM 6 46,iS 3 7 48]
def EU:Rg:=[iM 49 3,iM 50 5,iM 51 3,iM 52 5,iX 53 1 51 52,iL 54 53,iM 55 54,iG 56 (.load (some 3) (Tm 7)) 55 false,iG 57 (.call 97 [(Tm 56)]) 55 false,iG 58 (.mv (Tm 57)) 55 false,iG 59 (.mv (Tm 3)) 58 true,iG 60 (.mv (Tm 6)) 58 true,iG 61 (.idxS 1 (Tm 59) (Tm 60)) 58 true,iG 62 (.load none (Tm 61)) 58 true,iG 63 (.pick (Tm 58) (Tm 62) (.const (.bool false))) 55 false,iA 64 (.pick (Tm 55) (.const (.bool true)) (Tm 63)),iX 65 1 49 50,iS 1 65 64]
def uS:Rg:=[iC 66 .add 44 1,iM 44 66]
def uQ:aC:=(.seq (.region alB) (.seq (.cond (Tm 45) .skip (.exit 4)) (.seq (.block 5 (.seq (.region ZR) (.region EU))) (.region uS))))
def EV:Rg:=[iC 67 .add 20 1,iM 20 67]
def uR:aC:=(.seq (.region NT) (.seq (.cond (Tm 21) .skip (.exit 2)) (.seq (.block 3 (.seq (.region alA) (.seq (.region NU) (.seq (.region NV) (.block 4 (.loop uQ)))))) (.region EV))))
def ZS:Rg:=[iM 16 4,iC 17 .add 16 1,iM 4 17]
def ZQ:aC:=(.seq (.seq (.region akY) (.cond (Tm 15) .skip (.exit 0))) (.seq (.block 1 (.seq (.region akZ) (.block 2 (.loop uR)))) (.region ZS)))
def ZT:Rg:=[iM 68 3,iA 69 (.call 98 [(Tm 68),(.const (.fn 103 []))]),iM 2 69]
def zW:aC:=(.seq (.region akV) (.seq (.region akW) (.seq (.seq (.region akX) (.block 0 (.loop ZQ))) (.seq (.region ZT) .ret))))
def aPB:List Nat:=[1]
def SB:bD:=⟨1,70,zW,[.tmp 2]⟩
def ayR:Rg:=[iA 1 (.box true (Tm 0)),iA 2 (.mv (.const (.bool false)))]
def ayS:Rg:=[iF 12 1 1,iL 13 12,iN 14 13,iM 3 14]
def ayT:Rg:=[iM 15 3,iA 16 (.call 104 [(Tm 15),(Ci 1),(Ci 4)]),iA 17 (.un .not (Tm 16)),iM 18 17,iG 19 (.fieldA 3 (Tm 1)) 18 false,iG 20 (.load none (Tm 19)) 18 false,iG 21 (.len (Tm 20)) 18 false,iG 22 (.mv (Tm 3)) 18 false,iG 23 (.bin .neq (Tm 21) (Tm 22)) 18 false,iA 24 (.pick (Tm 18) (.const (.bool true)) (Tm 23)),iM 25 24,iG 26 (.fieldA 2 (Tm 1)) 25 false,iG 27 (.load none (Tm 26)) 25 false,iG 28 (.len (Tm 27)) 25 false,iG 29 (.mv (Tm 3)) 25 false,iG 30 (.bin .neq (Tm 28) (Tm 29)) 25 false,iA 31 (.pick (Tm 25) (.const (.bool true)) (Tm 30)),iM 32 31,iG 33 (.fieldA 1 (Tm 1)) 32 false,iG 34 (.load none (Tm 33)) 32 false,iG 35 (.call 99 [(Tm 34),(.const (.fn 105 []))]) 32 false,iG 36 (.un .not (Tm 35)) 32 false,iA 37 (.pick (Tm 32) (.const (.bool true)) (Tm 36)),iM 38 37,iG 39 (.fieldA 3 (Tm 1)) 38 false,iG 40 (.load none (Tm 39)) 38 false,iG 41 (.call 99 [(Tm 40),(.const (.fn 105 []))]) 38 false,iG 42 (.un .not (Tm 41)) 38 false,iA 43 (.pick (Tm 38) (.const (.bool true)) (Tm 42))]
def sZ:Rg:=[iA 2 (.mv (.const (.bool false)))]
def ayU:Rg:=[iF 44 2 1,iL 45 44,iN 46 45,iI 47 0]
def ayV:Rg:=[iB 48 .lss 47 46]
def ayW:Rg:=[iM 49 47,iX 50 1 45 47,iL 51 50,iM 4 49,iM 5 51]
def ayX:Rg:=[iM 52 5,iN 53 52,iM 54 3,iB 55 .neq 53 54,iM 56 55,iG 57 (.mv (Tm 5)) 56 false,iG 58 (.call 99 [(Tm 57),(.const (.fn 105 []))]) 56 false,iG 59 (.un .not (Tm 58)) 56 false,iA 60 (.pick (Tm 56) (.const (.bool true)) (Tm 59)),iM 61 60,iG 62 (.mv (Tm 5)) 61 false,iG 63 (.mv (Tm 4)) 61 false,iG 64 (.idxS 3 (Tm 62) (Tm 63)) 61 false,iG 65 (.load (some 3) (Tm 64)) 61 false,iG 66 (.call 97 [(Tm 65)]) 61 false,iA 67 (.pick (Tm 61) (.const (.bool true)) (Tm 66))]
def JU:Rg:=[iA 2 (.mv (.const (.bool false)))]
def ayY:Rg:=[iC 68 .add 47 1,iM 47 68]
def alD:aC:=(.seq (.region ayV) (.seq (.cond (Tm 48) .skip (.exit 0)) (.seq (.block 1 (.seq (.region ayW) (.seq (.region ayX) (.cond (Tm 67) (.seq (.region JU) .ret) .skip)))) (.region ayY))))
def NW:Rg:=[iF 70 1 1,iL 71 70,iA 72 (.call 117 [(Tm 71)]),iM 69 72,iA 73 (.extract (Tm 69) 0),iA 74 (.extract (Tm 69) 1),iA 6 (.alloc [(.bool false),.nils,.nils]),iS 3 6 73,iM 7 74]
def zX:Rg:=[iA 76 (.call 115 [(Ci 1),(Ci 1)]),iM 75 76,iA 77 (.extract (Tm 75) 0),iA 78 (.extract (Tm 75) 1),iA 8 (.alloc [(.bool false),.nils,.nils]),iS 3 8 77,iM 9 78]
def zY:Rg:=[iA 80 (.load (some 3) (Tm 6)),iA 81 (.load (some 3) (Tm 8)),iA 82 (.call 114 [(Tm 80),(Tm 81)]),iM 79 82,iA 83 (.extract (Tm 79) 0),iA 84 (.extract (Tm 79) 1),iM 10 83,iM 11 84]
def pX:Rg:=[iM 85 7,iC 86 .eql 85 0,iM 87 86,iG 88 (.mv (Tm 10)) 87 true,iG 89 (.bin .eql (Tm 88) (Ci 0)) 87 true,iA 90 (.pick (Tm 87) (Tm 89) (.const (.bool false))),iM 91 90,iG 92 (.load (some 4) (Tm 1)) 91 true,iG 93 (.call 102 [(Tm 92)]) 91 true,iA 94 (.pick (Tm 91) (Tm 93) (.const (.bool false))),iM 2 94]
def EW:aC:=(.seq (.region ayR) (.seq (.region ayS) (.seq (.seq (.region ayT) (.cond (Tm 43) (.seq (.region sZ) .ret) .skip)) (.seq (.seq (.region ayU) (.block 0 (.loop alD))) (.seq (.region NW) (.seq (.region zX) (.seq (.region zY) (.seq (.region pX) .ret))))))))
def aUA:List Nat:=[1]
def alC:bD:=⟨1,95,EW,[.tmp 2]⟩
def alT:Rg:=[iA 2 (.mv (.const (.bool false)))]
def alU:Rg:=[iA 6 (.mkmap (false,[.str])),iM 3 6]
def alV:Rg:=[iM 7 0,iN 8 7,iI 9 0]
def alW:Rg:=[iB 10 .lss 9 8]
def alX:Rg:=[iX 11 1 7 9,iL 12 11,iM 5 12]
def alY:Rg:=[iM 13 5,iA 14 (.call 123 [(Tm 13)]),iA 15 (.un .not (Tm 14)),iM 16 15,iG 17 (.mv (Tm 3)) 16 false,iG 18 (.mv (Tm 5)) 16 false,iG 19 (.lookup (false,[.str]) (.bool false) (Tm 17) (Tm 18) false) 16 false,iA 20 (.pick (Tm 16) (.const (.bool true)) (Tm 19))]
def OA:Rg:=[iA 2 (.mv (.const (.bool false)))]
def alZ:Rg:=[iM 21 3,iM 22 5,⟨none,.mapset (false,[.str]) (Tm 21) (Tm 22) (.const (.bool true)),none⟩]
def amA:Rg:=[iC 23 .add 9 1,iM 9 23]
def alS:aC:=(.seq (.region alW) (.seq (.cond (Tm 10) .skip (.exit 0)) (.seq (.block 1 (.seq (.region alX) (.seq (.seq (.region alY) (.cond (Tm 20) (.seq (.region OA) .ret) .skip)) (.region alZ)))) (.region amA))))
def ZW:Rg:=[iA 2 (.mv (.const (.bool true)))]
def AB:aC:=(.seq (.region alT) (.seq (.region alU) (.seq (.seq (.region alV) (.block 0 (.loop alS))) (.seq (.region ZW) .ret))))
def aPI:List Nat:=[]
def SG:bD:=⟨1,24,AB,[.tmp 2]⟩
def XE:Rg:=[iA 1 (.box true (Tm 0)),iA 2 (.mv (.const (.bool false)))]
def XF:Rg:=[iF 6 3 1,iL 7 6,iN 8 7,iC 9 .eql 8 0]
def ayL:Rg:=[iA 2 (.mv (.const (.bool false)))]
def ayM:Rg:=[iF 10 3 1,iL 11 10,iA 12 (.idxS 7 (Tm 11) (Ci 0)),iA 13 (.load (some 7) (Tm 12)),iA 3 (.alloc [(.str []),(.int .i64 0),(.int .i64 0),(.int .i64 0),(.bool false),.nils,.nils]),iS 7 3 13]
def sY:Rg:=[iF 14 0 3,iL 15 14,iA 16 (.bin .neq (Tm 15) (.const (.str []))),iM 17 16,iG 18 (.fieldA 1 (Tm 3)) 17 false,iG 19 (.load none (Tm 18)) 17 false,iG 20 (.bin .neq (Tm 19) (Ci 0)) 17 false,iA 21 (.pick (Tm 17) (.const (.bool true)) (Tm 20)),iM 22 21,iG 23 (.fieldA 2 (Tm 3)) 22 false,iG 24 (.load none (Tm 23)) 22 false,iG 25 (.bin .neq (Tm 24) (Ci (-1))) 22 false,iA 26 (.pick (Tm 22) (.const (.bool true)) (Tm 25)),iM 27 26,iG 28 (.fieldA 3 (Tm 3)) 27 false,iG 29 (.load none (Tm 28)) 27 false,iG 30 (.bin .neq (Tm 29) (Ci 0)) 27 false,iA 31 (.pick (Tm 27) (.const (.bool true)) (Tm 30)),iM 32 31,iG 33 (.fieldA 4 (Tm 3)) 32 false,iG 34 (.load (some 3) (Tm 33)) 32 false,iG 35 (.call 105 [(Tm 34)]) 32 false,iG 36 (.un .not (Tm 35)) 32 false,iA 37 (.pick (Tm 32) (.const (.bool true)) (Tm 36)),iM 38 37,iG 39 (.fieldA 4 (Tm 3)) 38 false,iG 40 (.load (some 3) (Tm 39)) 38 false,iG 41 (.call 97 [(Tm 40)]) 38 false,iA 42 (.pick (Tm 38) (.const (.bool true)) (Tm 41))]
def pW:Rg:=[iA 2 (.mv (.const (.bool false)))]
def ayN:Rg:=[iF 43 3 1,iL 44 43,iA 45 (.slice 7 (Tm 44) (some (Ci 1)) none none),iN 46 45,iI 47 0]
def ayO:Rg:=[iB 48 .lss 47 46]
def ayP:Rg:=[iM 49 47,iX 50 7 45 47,iA 51 (.load (some 7) (Tm 50)),iA 5 (.alloc [(.str []),(.int .i64 0),(.int .i64 0),(.int .i64 0),(.bool false),.nils,.nils]),iM 4 49,iS 7 5 51]
def ayQ:Rd:=[(iF 52 2 5,false),(iL 53 52,false),(iM 54 4,false),(iA 55 (.call 104 [(Tm 53),(Ci 0),(Tm 54)]),true),(iA 56 (.un .not (Tm 55)),false),(iM 57 56,false),(iG 58 (.fieldA 3 (Tm 1)) 57 false,false),(iG 59 (.load none (Tm 58)) 57 false,false),(iG 60 (.fieldA 2 (Tm 5)) 57 false,false),(iG 61 (.load none (Tm 60)) 57 false,false),(iG 62 (.idxS 7 (Tm 59) (Tm 61)) 57 false,false),(iG 63 (.fieldA 1 (Tm 62)) 57 false,false),(iG 64 (.load none (Tm 63)) 57 false,false),(iG 65 (.fieldA 1 (Tm 5)) 57 false,false),(iG 66 (.load none (Tm 65)) 57 false,false),(iG 67 (.bin .sub (Tm 66) (Ci 1)) 57 false,false),(iG 68 (.bin .neq (Tm 64) (Tm 67)) 57 false,false),(iA 69 (.pick (Tm 57) (.const (.bool true)) (Tm 68)),false),(iM 70 69,false),(iG 71 (.fieldA 1 (Tm 5)) 70 false,false),(iG 72 (.load none (Tm 71)) 70 false,false),(iG 73 (.call 104 [(Tm 72),(Ci 1),(Ci 4)]) 70 false,true),(iG 74 (.un .not (Tm 73)) 70 false,false),(iA 75 (.pick (Tm 70) (.const (.bool true)) (Tm 74)),false),(iM 76 75,false),(iG 77 (.fieldA 3 (Tm 5)) 76 false,false),(iG 78 (.load none (Tm 77)) 76 false,false),(iG 79 (.call 104 [(Tm 78),(Ci 1),(Ci 64)]) 76 false,true),(iG 80 (.un .not (Tm 79)) 76 false,false),(iA 81 (.pick (Tm 76) (.const (.bool true)) (Tm 80)),false),(iM 82 81,false),(iG 83 (.fieldA 4 (Tm 5)) 82 false,false),(iG 84 (.load (some 3) (Tm 83)) 82 false,false),(iG 85 (.call 105 [(Tm 84)]) 82 false,true),(iG 86 (.un .not (Tm 85)) 82 false,false),(iA 87 (.pick (Tm 82) (.const (.bool true)) (Tm 86)),false)]
def pV:Rg:=[iA 2 (.mv (.const (.bool false)))]
def akT:Rg:=[iC 88 .add 47 1,iM 47 88]
def akS:aC:=(.seq (.region ayO) (.seq (.cond (Tm 48) .skip (.exit 0)) (.seq (.block 1 (.seq (.region ayP) (.seq (.draw ayQ) (.cond (Tm 87) (.seq (.region pV) .ret) .skip)))) (.region akT))))
def akU:Rg:=[iA 2 (.mv (.const (.bool true)))]
def uP:aC:=(.seq (.region XE) (.seq (.seq (.region XF) (.cond (Tm 9) (.seq (.region ayL) .ret) .skip)) (.seq (.region ayM) (.seq (.seq (.region sY) (.cond (Tm 42) (.seq (.region pW) .ret) .skip)) (.seq (.seq (.region ayN) (.block 0 (.loop akS))) (.seq (.region akU) .ret))))))
def aTY:List Nat:=[1]
def XD:bD:=⟨1,89,uP,[.tmp 2]⟩
def alG:Rg:=[iA 2 (.mv (.const (.bool false)))]
def alH:Rg:=[iM 3 0,iA 4 (.call 104 [(Tm 3),(Ci 0),(Ci 8)]),iM 2 4]
def zZ:aC:=(.seq (.region alG) (.seq (.region alH) .ret))
def aPD:List Nat:=[]
def SE:bD:=⟨1,5,zZ,[.tmp 2]⟩
def azB:Rg:=[iA 7 (.box true (Tm 3)),iA 8 (.mv (.const (.bool false)))]
def azC:Rg:=[iM 9 0,iA 10 (.call 104 [(Tm 9),(Ci 1),(Ci 6)]),iA 11 (.un .not (Tm 10)),iM 12 11,iG 13 (.mv (Tm 1)) 12 false,iG 14 (.call 104 [(Tm 13),(Ci 0),(Ci 4)]) 12 false,iG 15 (.un .not (Tm 14)) 12 false,iA 16 (.pick (Tm 12) (.const (.bool true)) (Tm 15)),iM 17 16,iG 18 (.mv (Tm 0)) 17 false,iG 19 (.mv (Tm 1)) 17 false,iG 20 (.bin .add (Tm 18) (Tm 19)) 17 false,iG 21 (.bin .gtr (Tm 20) (Ci 8)) 17 false,iA 22 (.pick (Tm 17) (.const (.bool true)) (Tm 21)),iM 23 22,iG 24 (.mv (Tm 2)) 23 false,iG 25 (.mv (Tm 0)) 23 false,iG 26 (.mv (Tm 0)) 23 false,iG 27 (.mv (Tm 1)) 23 false,iG 28 (.bin .add (Tm 26) (Tm 27)) 23 false,iG 29 (.call 104 [(Tm 24),(Tm 25),(Tm 28)]) 23 false,iG 30 (.un .not (Tm 29)) 23 false,iA 31 (.pick (Tm 23) (.const (.bool true)) (Tm 30)),iM 32 31,iG 33 (.idxA 5 1 (Tm 7) (Ci 0)) 32 false,iG 34 (.load none (Tm 33)) 32 false,iG 35 (.bin .neq (Tm 34) (Ci 0)) 32 false,iA 36 (.pick (Tm 32) (.const (.bool true)) (Tm 35))]
def tA:Rg:=[iA 8 (.mv (.const (.bool false)))]
def azD:Rg:=[iA 37 (.sliceA 5 1 (Tm 7) none none none),iA 38 (.call 100 [(Tm 37),(.const (.fn 107 []))]),iM 8 38]
def EY:aC:=(.seq (.region azB) (.seq (.seq (.region azC) (.cond (Tm 36) (.seq (.region tA) .ret) .skip)) (.seq (.region azD) .ret)))
def aUE:List Nat:=[7]
def alF:bD:=⟨4,39,EY,[.tmp 8]⟩
def ZU:Rg:=[iA 1 (.box true (Tm 0)),iA 2 (.mv (.const (.bool false)))]
def ZV:Rg:=[iA 3 (.load (some 3) (Tm 1)),iA 4 (.call 105 [(Tm 3)]),iM 5 4,iG 6 (.load (some 3) (Tm 1)) 5 true,iG 7 (.call 97 [(Tm 6)]) 5 true,iA 8 (.pick (Tm 5) (Tm 7) (.const (.bool false))),iM 2 8]
def wD:aC:=(.seq (.region ZU) (.seq (.region ZV) .ret))
def aJE:List Nat:=[1]
def FB:bD:=⟨1,9,wD,[.tmp 2]⟩
def alM:Rg:=[iA 6 (.box true (Tm 2)),iA 7 (.box true (Tm 3)),iA 8 (.mv (.const (.bool false)))]
def alN:Rg:=[iM 9 1,iN 10 9,iM 11 0,iA 12 (.minmax true (Tm 11) (Ci 1)),iB 13 .eql 10 12,iM 14 13,iG 15 (.mv (Tm 1)) 14 true,iG 16 (.call 99 [(Tm 15),(.const (.fn 109 []))]) 14 true,iA 17 (.pick (Tm 14) (Tm 16) (.const (.bool false))),iM 18 17,iG 19 (.load (some 3) (Tm 6)) 18 true,iG 20 (.call 105 [(Tm 19)]) 18 true,iA 21 (.pick (Tm 18) (Tm 20) (.const (.bool false))),iM 22 21,iG 23 (.load (some 3) (Tm 6)) 22 true,iG 24 (.call 101 [(Tm 23)]) 22 true,iA 25 (.pick (Tm 22) (Tm 24) (.const (.bool false))),iM 26 25,iG 27 (.load (some 3) (Tm 7)) 26 true,iG 28 (.call 105 [(Tm 27)]) 26 true,iA 29 (.pick (Tm 26) (Tm 28) (.const (.bool false))),iM 8 29]
def AA:aC:=(.seq (.region alM) (.seq (.region alN) .ret))
def aPF:List Nat:=[6,7]
def SF:bD:=⟨4,30,AA,[.tmp 8]⟩
def azH:Rg:=[iA 2 (.box true (Tm 0)),iA 4 (.mv (.const (.bool false)))]
def azI:Rg:=[iF 8 1 2,iL 9 8,iF 10 2 2,iL 11 10,iF 12 3 2,iL 13 12,iF 14 4 2,iA 15 (.load (some 5) (Tm 14)),iA 16 (.call 106 [(Tm 9),(Tm 11),(Tm 13),(Tm 15)]),iA 17 (.un .not (Tm 16)),iM 18 17,iG 19 (.fieldA 9 (Tm 2)) 18 false,iG 20 (.load none (Tm 19)) 18 false,iG 21 (.len (Tm 20)) 18 false,iG 22 (.bin .eql (Tm 21) (Ci 0)) 18 false,iA 23 (.pick (Tm 18) (.const (.bool true)) (Tm 22)),iM 24 23,iG 25 (.fieldA 2 (Tm 2)) 24 false,iG 26 (.load none (Tm 25)) 24 false,iG 27 (.fieldA 10 (Tm 2)) 24 false,iG 28 (.load none (Tm 27)) 24 false,iG 29 (.fieldA 11 (Tm 2)) 24 false,iG 30 (.load (some 3) (Tm 29)) 24 false,iG 31 (.fieldA 14 (Tm 2)) 24 false,iG 32 (.load (some 3) (Tm 31)) 24 false,iG 33 (.call 108 [(Tm 26),(Tm 28),(Tm 30),(Tm 32)]) 24 false,iG 34 (.un .not (Tm 33)) 24 false,iA 35 (.pick (Tm 24) (.const (.bool true)) (Tm 34))]
def JW:Rg:=[iA 4 (.mv (.const (.bool false)))]
def azJ:Rg:=[iM 36 1,iA 37 (.mkslice 1 1 [(.bool false)] (Tm 36) (Tm 36)),iM 5 37]
def azK:Rg:=[iF 38 9 2,iL 39 38,iN 40 39,iI 41 0]
def azL:Rg:=[iB 42 .lss 41 40]
def azM:Rg:=[iX 43 1 39 41,iL 44 43,iM 7 44]
def azN:Rg:=[iM 45 7,iM 46 1,iC 47 .sub 46 1,iA 48 (.call 104 [(Tm 45),(Ci 0),(Tm 47)]),iA 49 (.un .not (Tm 48)),iM 50 49,iG 51 (.mv (Tm 5)) 50 false,iG 52 (.mv (Tm 7)) 50 false,iG 53 (.idxS 1 (Tm 51) (Tm 52)) 50 false,iG 54 (.load none (Tm 53)) 50 false,iA 55 (.pick (Tm 50) (.const (.bool true)) (Tm 54))]
def XH:Rg:=[iA 4 (.mv (.const (.bool false)))]
def azO:Rg:=[iM 56 5,iM 57 7,iX 58 1 56 57,⟨none,.store 1 (Tm 58) (.const (.bool true)),none⟩]
def alK:Rg:=[iC 59 .add 41 1,iM 41 59]
def alJ:aC:=(.seq (.region azL) (.seq (.cond (Tm 42) .skip (.exit 0)) (.seq (.block 1 (.seq (.region azM) (.seq (.seq (.region azN) (.cond (Tm 55) (.seq (.region XH) .ret) .skip)) (.region azO)))) (.region alK))))
def alL:Rg:=[iA 4 (.mv (.const (.bool true)))]
def FA:aC:=(.seq (.region azH) (.seq (.seq (.region azI) (.cond (Tm 35) (.seq (.region JW) .ret) .skip)) (.seq (.region azJ) (.seq (.seq (.region azK) (.block 0 (.loop alJ))) (.seq (.region alL) .ret)))))
def aUI:List Nat:=[2]
def alI:bD:=⟨2,60,FA,[.tmp 4]⟩
def azP:Rg:=[iA 1 (.box true (Tm 0)),iI 2 0]
def azQ:Rg:=[iF 21 0 1,iL 22 21,iA 23 (.call 104 [(Tm 22),(Ci 1),(Ci 4)]),iA 24 (.un .not (Tm 23)),iM 25 24,iG 26 (.fieldA 1 (Tm 1)) 25 false,iG 27 (.load none (Tm 26)) 25 false,iG 28 (.len (Tm 27)) 25 false,iG 29 (.bin .gtr (Tm 28) (Ci 4)) 25 false,iA 30 (.pick (Tm 25) (.const (.bool true)) (Tm 29)),iM 31 30,iG 32 (.fieldA 2 (Tm 1)) 31 false,iG 33 (.load none (Tm 32)) 31 false,iG 34 (.len (Tm 33)) 31 false,iG 35 (.bin .gtr (Tm 34) (Ci 4)) 31 false,iA 36 (.pick (Tm 31) (.const (.bool true)) (Tm 35)),iM 37 36,iG 38 (.fieldA 3 (Tm 1)) 37 false,iG 39 (.load none (Tm 38)) 37 false,iG 40 (.len (Tm 39)) 37 false,iG 41 (.bin .gtr (Tm 40) (Ci 40)) 37 false,iA 42 (.pick (Tm 37) (.const (.bool true)) (Tm 41)),iM 43 42,iG 44 (.fieldA 4 (Tm 1)) 43 false,iG 45 (.load none (Tm 44)) 43 false,iG 46 (.len (Tm 45)) 43 false,iG 47 (.bin .gtr (Tm 46) (Ci 24)) 43 false,iA 48 (.pick (Tm 43) (.const (.bool true)) (Tm 47)),iM 49 48,iG 50 (.fieldA 5 (Tm 1)) 49 false,iG 51 (.load none (Tm 50)) 49 false,iG 52 (.len (Tm 51)) 49 false,iG 53 (.bin .gtr (Tm 52) (Ci 4)) 49 false,iA 54 (.pick (Tm 49) (.const (.bool true)) (Tm 53)),iM 55 54,iG 56 (.fieldA 6 (Tm 1)) 55 false,iG 57 (.load none (Tm 56)) 55 false,iG 58 (.len (Tm 57)) 55 false,iG 59 (.bin .gtr (Tm 58) (Ci 12)) 55 false,iA 60 (.pick (Tm 55) (.const (.bool true)) (Tm 59)),iM 61 60,iG 62 (.load (some 7) (Tm 1)) 61 false,iG 63 (.call 111 [(Tm 62)]) 61 false,iG 64 (.un .not (Tm 63)) 61 false,iA 65 (.pick (Tm 61) (.const (.bool true)) (Tm 64))]
def mJ:Rg:=[iI 2 1]
def azR:Rg:=[iA 3 (.mv (.const .nils)),iA 4 (.mv (.const .nils)),iA 5 (.mv (.const .nils)),iA 6 (.mv (.const .nils)),iA 7 (.mv (.const .nils))]
def azS:Rg:=[iA 8 (.mv (.const (.bool true)))]
def XI:Rg:=[iF 66 1 1,iL 67 66,iN 68 67,iI 69 0]
def azT:Rg:=[iB 70 .lss 69 68]
def azU:Rg:=[iX 71 4 67 69,iA 72 (.load (some 4) (Tm 71)),iA 10 (.alloc [(.str []),.nils,.nils,.nils]),iS 4 10 72]
def azV:Rg:=[iM 73 3,iF 74 0 10,iL 75 74,iA 76 (.bslice true 1 1 [(.str [])] [(0,(Tm 75))]),iA 77 (.append 1 16 (Tm 73) (Tm 76)),iM 3 77]
def XJ:Rg:=[iM 78 8,iM 79 78,iG 80 (.load (some 4) (Tm 10)) 79 true,iG 81 (.call 95 [(Tm 80)]) 79 true,iA 82 (.pick (Tm 79) (Tm 81) (.const (.bool false))),iM 8 82]
def OB:Rg:=[iC 83 .add 69 1,iM 69 83]
def AC:aC:=(.seq (.region azT) (.seq (.cond (Tm 70) .skip (.exit 0)) (.seq (.block 1 (.seq (.region azU) (.seq (.region azV) (.region XJ)))) (.region OB))))
def OC:Rg:=[iF 84 2 1,iL 85 84,iN 86 85,iI 87 0]
def amC:Rg:=[iB 88 .lss 87 86]
def amD:Rg:=[iX 89 4 85 87,iA 90 (.load (some 4) (Tm 89)),iA 12 (.alloc [(.str []),(.int .i64 0),(.int .i64 0),(.int .i64 0)]),iS 4 12 90]
def amE:Rg:=[iM 91 4,iF 92 0 12,iL 93 92,iA 94 (.bslice true 1 1 [(.str [])] [(0,(Tm 93))]),iA 95 (.append 1 16 (Tm 91) (Tm 94)),iM 4 95]
def OD:Rg:=[iM 96 8,iM 97 96,iG 98 (.fieldA 1 (Tm 12)) 97 true,iG 99 (.load none (Tm 98)) 97 true,iG 100 (.call 104 [(Tm 99),(Ci 1),(Ci 16)]) 97 true,iA 101 (.pick (Tm 97) (Tm 100) (.const (.bool false))),iM 102 101,iG 103 (.fieldA 2 (Tm 12)) 102 true,iG 104 (.load none (Tm 103)) 102 true,iG 105 (.call 104 [(Tm 104),(Ci 1),(Ci 64)]) 102 true,iA 106 (.pick (Tm 102) (Tm 105) (.const (.bool false))),iM 107 106,iG 108 (.fieldA 3 (Tm 12)) 107 true,iG 109 (.load none (Tm 108)) 107 true,iG 110 (.fieldA 1 (Tm 1)) 107 true,iG 111 (.load none (Tm 110)) 107 true,iG 112 (.len (Tm 111)) 107 true,iG 113 (.bin .sub (Tm 112) (Ci 1)) 107 true,iG 114 (.call 104 [(Tm 109),(Ci 0),(Tm 113)]) 107 true,iA 115 (.pick (Tm 107) (Tm 114) (.const (.bool false))),iM 8 115]
def tP:Rg:=[iC 116 .add 87 1,iM 87 116]
def AD:aC:=(.seq (.region amC) (.seq (.cond (Tm 88) .skip (.exit 2)) (.seq (.block 3 (.seq (.region amD) (.seq (.region amE) (.region OD)))) (.region tP))))
def OE:Rg:=[iF 117 3 1,iL 118 117,iA 119 (.slice 7 (Tm 118) (some (Ci 1)) none none),iN 120 119,iI 121 0]
def amF:Rg:=[iB 122 .lss 121 120]
def amG:Rg:=[iX 123 7 119 121,iA 124 (.load (some 7) (Tm 123)),iA 14 (.alloc [(.str []),(.int .i64 0),(.int .i64 0),(.int .i64 0),(.bool false),.nils,.nils]),iS 7 14 124]
def amH:Rg:=[iM 125 5,iF 126 0 14,iL 127 126,iA 128 (.bslice true 1 1 [(.str [])] [(0,(Tm 127))]),iA 129 (.append 1 16 (Tm 125) (Tm 128)),iM 5 129]
def amI:Rg:=[iC 130 .add 121 1,iM 121 130]
def AE:aC:=(.seq (.region amF) (.seq (.cond (Tm 122) .skip (.exit 4)) (.seq (.block 5 (.seq (.region amG) (.region amH))) (.region amI))))
def OF:Rg:=[iF 131 4 1,iL 132 131,iN 133 132,iI 134 0]
def amJ:Rg:=[iB 135 .lss 134 133]
def amK:Rg:=[iX 136 3 132 134,iA 137 (.load (some 3) (Tm 136)),iA 16 (.alloc [(.str []),(.int .i64 0),(.int .i64 0)]),iS 3 16 137]
def amL:Rg:=[iM 138 5,iF 139 0 16,iL 140 139,iA 141 (.bslice true 1 1 [(.str [])] [(0,(Tm 140))]),iA 142 (.append 1 16 (Tm 138) (Tm 141)),iM 5 142]
def OG:Rg:=[iM 143 8,iM 144 143,iG 145 (.fieldA 1 (Tm 16)) 144 true,iG 146 (.load none (Tm 145)) 144 true,iG 147 (.fieldA 2 (Tm 1)) 144 true,iG 148 (.load none (Tm 147)) 144 true,iG 149 (.len (Tm 148)) 144 true,iG 150 (.bin .sub (Tm 149) (Ci 1)) 144 true,iG 151 (.call 104 [(Tm 146),(Ci 0),(Tm 150)]) 144 true,iA 152 (.pick (Tm 144) (Tm 151) (.const (.bool false))),iM 153 152,iG 154 (.fieldA 2 (Tm 16)) 153 true,iG 155 (.load none (Tm 154)) 153 true,iG 156 (.fieldA 3 (Tm 1)) 153 true,iG 157 (.load none (Tm 156)) 153 true,iG 158 (.len (Tm 157)) 153 true,iG 159 (.bin .sub (Tm 158) (Ci 1)) 153 true,iG 160 (.call 104 [(Tm 155),(Ci 0),(Tm 159)]) 153 true,iA 161 (.pick (Tm 153) (Tm 160) (.const (.bool false))),iM 162 161,iG 163 (.fieldA 3 (Tm 1)) 162 true,iG 164 (.load none (Tm 163)) 162 true,iG 165 (.fieldA 2 (Tm 16)) 162 true,iG 166 (.load none (Tm 165)) 162 true,iG 167 (.idxS 7 (Tm 164) (Tm 166)) 162 true,iG 168 (.fieldA 1 (Tm 167)) 162 true,iG 169 (.load none (Tm 168)) 162 true,iG 170 (.bin .eql (Tm 169) (Ci 4)) 162 true,iA 171 (.pick (Tm 162) (Tm 170) (.const (.bool false))),iM 8 171]
def pY:Rg:=[iC 172 .add 134 1,iM 134 172]
def AF:aC:=(.seq (.region amJ) (.seq (.cond (Tm 135) .skip (.exit 6)) (.seq (.block 7 (.seq (.region amK) (.seq (.region amL) (.region OG)))) (.region pY))))
def OH:Rg:=[iF 173 5 1,iL 174 173,iN 175 174,iI 176 0]
def amM:Rg:=[iB 177 .lss 176 175]
def amN:Rg:=[iX 178 17 174 176,iA 179 (.load (some 17) (Tm 178)),iA 18 (.alloc [(.str []),(.int .i64 0),(.int .i64 0),(.int .i64 0),(.int .i64 0),(.int .i64 0),(.int .i64 0),(.int .i64 0),(.int .i64 0),.nils,.nils,(.bool false),.nils,.nils,(.bool false),.nils,.nils]),iS 17 18 179]
def amO:Rg:=[iM 180 6,iF 181 0 18,iL 182 181,iA 183 (.bslice true 1 1 [(.str [])] [(0,(Tm 182))]),iA 184 (.append 1 16 (Tm 180) (Tm 183)),iM 6 184]
def OI:Rg:=[iM 185 8,iM 186 185,iG 187 (.load (some 17) (Tm 18)) 186 true,iG 188 (.fieldA 2 (Tm 1)) 186 true,iG 189 (.load none (Tm 188)) 186 true,iG 190 (.len (Tm 189)) 186 true,iG 191 (.call 112 [(Tm 187),(Tm 190)]) 186 true,iA 192 (.pick (Tm 186) (Tm 191) (.const (.bool false))),iM 8 192]
def OJ:Rg:=[iC 193 .add 176 1,iM 176 193]
def AG:aC:=(.seq (.region amM) (.seq (.cond (Tm 177) .skip (.exit 8)) (.seq (.block 9 (.seq (.region amN) (.seq (.region amO) (.region OI)))) (.region OJ))))
def OK:Rg:=[iF 194 6 1,iL 195 194,iN 196 195,iI 197 0]
def amP:Rg:=[iB 198 .lss 197 196]
def amQ:Rg:=[iX 199 2 195 197,iA 200 (.load (some 2) (Tm 199)),iA 20 (.alloc [(.str []),(.int .i64 0)]),iS 2 20 200]
def amR:Rg:=[iM 201 7,iF 202 0 20,iL 203 202,iA 204 (.bslice true 1 1 [(.str [])] [(0,(Tm 203))]),iA 205 (.append 1 16 (Tm 201) (Tm 204)),iM 7 205]
def OL:Rg:=[iM 206 8,iM 207 206,iG 208 (.fieldA 1 (Tm 20)) 207 true,iG 209 (.load none (Tm 208)) 207 true,iG 210 (.fieldA 5 (Tm 1)) 207 true,iG 211 (.load none (Tm 210)) 207 true,iG 212 (.len (Tm 211)) 207 true,iG 213 (.bin .sub (Tm 212) (Ci 1)) 207 true,iG 214 (.call 104 [(Tm 209),(Ci 0),(Tm 213)]) 207 true,iA 215 (.pick (Tm 207) (Tm 214) (.const (.bool false))),iM 8 215]
def OM:Rg:=[iC 216 .add 197 1,iM 197 216]
def AH:aC:=(.seq (.region amP) (.seq (.cond (Tm 198) .skip (.exit 10)) (.seq (.block 11 (.seq (.region amQ) (.seq (.region amR) (.region OL)))) (.region OM))))
def tQ:Rg:=[iM 217 8,iA 218 (.un .not (Tm 217)),iM 219 218,iG 220 (.mv (Tm 3)) 219 false,iG 221 (.call 110 [(Tm 220)]) 219 false,iG 222 (.un .not (Tm 221)) 219 false,iA 223 (.pick (Tm 219) (.const (.bool true)) (Tm 222)),iM 224 223,iG 225 (.mv (Tm 4)) 224 false,iG 226 (.call 110 [(Tm 225)]) 224 false,iG 227 (.un .not (Tm 226)) 224 false,iA 228 (.pick (Tm 224) (.const (.bool true)) (Tm 227)),iM 229 228,iG 230 (.mv (Tm 5)) 229 false,iG 231 (.call 110 [(Tm 230)]) 229 false,iG 232 (.un .not (Tm 231)) 229 false,iA 233 (.pick (Tm 229) (.const (.bool true)) (Tm 232)),iM 234 233,iG 235 (.mv (Tm 6)) 234 false,iG 236 (.call 110 [(Tm 235)]) 234 false,iG 237 (.un .not (Tm 236)) 234 false,iA 238 (.pick (Tm 234) (.const (.bool true)) (Tm 237)),iM 239 238,iG 240 (.mv (Tm 7)) 239 false,iG 241 (.call 110 [(Tm 240)]) 239 false,iG 242 (.un .not (Tm 241)) 239 false,iA 243 (.pick (Tm 239) (.const (.bool true)) (Tm 242))]
def kL:Rg:=[iI 2 1]
def AI:Rg:=[iI 2 0]
def FC:aC:=(.seq (.region azP) (.seq (.seq (.region azQ) (.cond (Tm 65) (.seq (.region mJ) .ret) .skip)) (.seq (.region azR) (.seq (.region azS) (.seq (.seq (.region XI) (.block 0 (.loop AC))) (.seq (.seq (.region OC) (.block 2 (.loop AD))) (.seq (.seq (.region OE) (.block 4 (.loop AE))) (.seq (.seq (.region OF) (.block 6 (.loop AF))) (.seq (.seq (.region OH) (.block 8 (.loop AG))) (.seq (.seq (.region OK) (.block 10 (.loop AH))) (.seq (.seq (.region tQ) (.cond (Tm 243) (.seq (.region kL) .ret) .skip)) (.seq (.region AI) .ret))))))))))))
def aUL:List Nat:=[1,76,94,128,141,183,204]
def amB:bD:=⟨1,244,FC,[.tmp 2]⟩
end Go.PM
namespace Go.PM
open Go
@[go_sem] theorem a0R (a b:List UInt8):DY .eql a b=some (.bool (a==b)):=rfl
@[go_sem] theorem a0S (a b:List UInt8):DY .neq a b=some (.bool !(a==b)):=rfl
@[go_sem] theorem aEH (a b:List UInt8):DY .add a b=if ((a.length+b.length:Nat):Int)>9223372036854775807 then none else some (.str (a++b)):=rfl
@[go_sem] theorem aXQ:(([]:List UInt8)==[])=true:=rfl
@[go_sem] theorem aTC (c:UInt8) (t:List UInt8):((c::t)==[])=false:=rfl
theorem mF {a b:List UInt8} (h:a=b):(a==b)=true:=by simp[h]
theorem RC {a b:List UInt8} (h:a≠b):(a==b)=false:=by simp[h]
section
variable {C:Ctx} {F:PF} {H:PH}
theorem nD {name o s:Nat} {rs:List (List PV)} {vs:List PV} {v:PV} {args:List aM} {d:Option Nat} {K:PF→PH→Prop} (h:aJ C name vs .nil (aK v)) (ho:H o=some (.rows s rs))
  (ha:aM.evs (F.frz o s rs) args=some vs) (hK:K ((F.frz o s rs).put d v) (H.frz o s rs)):gT C name args [] d K F H:=by
 refine .inr ⟨_,_,.step o ho (.refl _ _),vs,.nil,aK v,?_,PH.nil_le,h,?_⟩
 ·rw[ha]; simp
 ·rintro r H' ⟨rfl,rfl⟩ -
  rw[PH.tX]
  exact hK
theorem gV.trans {F1 F2 F3:PF} {H1 H2 H3:PH} (h:gV F1 H1 F2 H2) (k:gV F2 H2 F3 H3):gV F1 H1 F3 H3:=by
 induction h with
 | refl=>exact k
 | step o ho h ih=>exact .step o ho (ih k)
theorem mV {c:aC} {K:cD} {s:Nat} {v:PV} {rows:List (List PV)} (ho:bA H s v rows)
  (h:∀ v1,Seen s v1 rows→∀ F1 H1,(∀ t,F t=some v→F1 t=some v1)→(∀ i u,F i=some u→Pure u→F1 i=some u)→aC.wp C (.loop c) K F1 H1):aC.wp C (.loop c) K F H:=by
 obtain⟨v1,hs,hf⟩:=ho.frz
 obtain⟨F1,H1,hz,h1,h2⟩:=hf F
 obtain⟨α,Fs,Hs,Pr,m,a0,F2,H2,hz2,rest⟩:=h v1 hs F1 H1 h1 h2
 exact⟨α,Fs,Hs,Pr,m,a0,F2,H2,hz.trans hz2,rest⟩
theorem aJ.aHB {name s:Nat} {v:PV} {rows:List (List PV)} {H0:PH} {R:PV→PH→Prop} (h:aJ C name [.sl s rows] H0 R) (hs:Seen s v rows):aJ C name [v] H0 R:=by
 rcases hs with ⟨rfl,rfl⟩ | rfl
 ·refine h.args ⟨rfl,fun j p q hp hq=>?_⟩
  cases j with
  | zero=>simp at hp hq; subst hp; subst hq; exact .nil s
  | succ j=>simp at hp
 ·exact h
theorem bA.fresh {s:Nat} {v:PV} {rows:List (List PV)} {o:Nat} (h:bA H s v rows) (ho:H o=none) (x:bX):bA (H.set o x) s v rows∧∀ l,v≠.osl o s 0 l:=by
 refine⟨h.ext fun q y hq=>?_,fun l e=>?_⟩
 ·have:q≠o:=by rintro rfl; rw[ho] at hq; cases hq
  simp only[aU,if_neg this,hq]
 ·rcases h with ⟨_,h2⟩ | ⟨q,rs,h1,h2,_⟩
  ·rw[h2] at e; cases e
  ·rw[h1] at e
   injection e with e1
   subst e1
   rw[ho] at h2; cases h2
theorem jY {s b:Nat} {v:PV} {rows:List (List PV)} {r:List PV} {o:Nat} {x:bX} {K:PV→PH→Prop} (h:bA H s v rows) (ho:H o=none) (hr:roomFor rows.length 1 b)
  (hk:∀ v' H',bA H' s v' (rows++[r])→H' o=some x→K v' H'):mA (H.set o x) s b v (.sl s [r]) K:=by
 obtain⟨h1,h2⟩:=h.fresh ho x
 refine eZ (src:=[r]) h1 (by simp[dH]) hr fun v' H' hO hp=>hk v' H' hO (hp o x (by simp only[aU,if_true]) h2)
theorem yI {o s k:Nat} {rs:List (List PV)} (hk:k≤rs.length):PV.frz o s rs (.osl o s 0 k)=.sl s (rs.take k):=by
 have:0+k≤rs.length:=by omega
 simp only[PV.frz,PV.pA,PV.cZ,if_true,true_and,if_pos this,bbG]
end
end Go.PM
namespace Go.PM
open Go Go.Na
def fP (n:Nat):Bool:=decide (97≤n)&&decide (n≤122)||decide (65≤n)&&decide (n≤90)
def oV (n:Nat):Bool:=decide (48≤n)&&decide (n≤57)
def fO (n:Nat):Bool:=fP n||oV n||decide (n=45)||decide (n=46)
theorem aFU {C:Ctx} (n:Nat):iU.wp C (aZ tC.res (aK (.bool (fP n)))) (PF.args [.int .u8 n]) .nil:=by
 have fin:∀ (F:PF) (b:Bool),F 2=some (.bool b)→b=fP n→aZ tC.res (aK (.bool (fP n))) .ret F .nil:=by
  intro F b h e
  subst e
  refine bZ (.inr rfl) (vs:=[.bool (fP n)]) (by simp -implicitDefEqProofs only[go_sem,tC,h]) rfl
 unfold fP at *
 by_cases a:97≤n
 ·have a':(n:Int)≥97:=by omega
  by_cases b:n≤122
  ·have b':(n:Int)≤122:=by omega
   simp -implicitDefEqProofs only[go_sem,γ,reduceCtorEq,iU,mK,mL,a',b']
   exact fin _ _ rfl (by simp[a,b])
  ·have b':¬ (n:Int)≤122:=by omega
   by_cases c:65≤n
   ·have c':(n:Int)≥65:=by omega
    have d:¬ (n:Int)≤90:=by omega
    simp -implicitDefEqProofs only[go_sem,γ,reduceCtorEq,iU,mK,mL,a',b',c',d]
    exact fin _ _ rfl (by simp[a,b,c]; omega)
   ·omega
 ·have a':¬ (n:Int)≥97:=by omega
  by_cases c:65≤n
  ·have c':(n:Int)≥65:=by omega
   by_cases d:n≤90
   ·have d':(n:Int)≤90:=by omega
    simp -implicitDefEqProofs only[go_sem,γ,reduceCtorEq,iU,mK,mL,a',c',d']
    exact fin _ _ rfl (by simp[a,c,d])
   ·have d':¬ (n:Int)≤90:=by omega
    simp -implicitDefEqProofs only[go_sem,γ,reduceCtorEq,iU,mK,mL,a',c',d']
    exact fin _ _ rfl (by simp[a,c,d])
  ·have c':¬ (n:Int)≥65:=by omega
   simp -implicitDefEqProofs only[go_sem,γ,reduceCtorEq,iU,mK,mL,a',c']
   exact fin _ _ rfl (by simp[a,c])
theorem aJI {C:Ctx} (n:Nat):nC.wp C (aZ yM.res (aK (.bool (oV n)))) (PF.args [.int .u8 n]) .nil:=by
 have fin:∀ (F:PF) (b:Bool),F 2=some (.bool b)→b=oV n→aZ yM.res (aK (.bool (oV n))) .ret F .nil:=by
  intro F b h e
  subst e
  refine bZ (.inr rfl) (vs:=[.bool (oV n)]) (by simp -implicitDefEqProofs only[go_sem,yM,h]) rfl
 unfold oV at *
 by_cases a:48≤n
 ·have a':(n:Int)≥48:=by omega
  by_cases b:n≤57
  ·have b':(n:Int)≤57:=by omega
   simp -implicitDefEqProofs only[go_sem,γ,reduceCtorEq,nC,uT,uU,a',b']
   exact fin _ _ rfl (by simp[a,b])
  ·have b':¬ (n:Int)≤57:=by omega
   simp -implicitDefEqProofs only[go_sem,γ,reduceCtorEq,nC,uT,uU,a',b']
   exact fin _ _ rfl (by simp[a,b])
 ·have a':¬ (n:Int)≥48:=by omega
  simp -implicitDefEqProofs only[go_sem,γ,reduceCtorEq,nC,uT,uU,a']
  exact fin _ _ rfl (by simp[a])
theorem aJM {C:Ctx} (h1:∀ n:Nat,aJ C 126 [.int .u8 n] .nil (aK (.bool (fP n)))) (h2:∀ n:Nat,aJ C 124 [.int .u8 n] .nil (aK (.bool (oV n)))) (n:Nat) :
  wG.wp C (aZ yN.res (aK (.bool (fO n)))) (PF.args [.int .u8 n]) .nil:=by
 have fin:∀ (F:PF) (b:Bool),F 2=some (.bool b)→b=fO n→aZ yN.res (aK (.bool (fO n))) .ret F .nil:=by
  intro F b h e
  subst e
  refine bZ (.inr rfl) (vs:=[.bool (fO n)]) (by simp -implicitDefEqProofs only[go_sem,yN,h]) rfl
 simp -implicitDefEqProofs only[go_sem,reduceCtorEq,wG,aaH,aaI]
 refine aB (h1 n) rfl ?_
 cases hl:fP n with
 | true =>
  simp -implicitDefEqProofs only[go_sem,γ]
  exact fin _ _ rfl (by simp[fO,hl])
 | false =>
  simp -implicitDefEqProofs only[go_sem,γ,reduceCtorEq]
  refine aB (h2 n) rfl ?_
  cases hd:oV n with
  | true =>
   simp -implicitDefEqProofs only[go_sem,γ,reduceCtorEq]
   exact fin _ _ rfl (by simp[fO,hd])
  | false =>
   by_cases c:n=45
   ·simp -implicitDefEqProofs only[go_sem,γ,reduceCtorEq,bS (show (n:Int)=45 by omega)]
    exact fin _ _ rfl (by simp[fO,c])
   ·by_cases d:n=46
    ·simp -implicitDefEqProofs only[go_sem,γ,reduceCtorEq,bE (show (n:Int)≠45 by omega),bS (show (n:Int)=46 by omega)]
     exact fin _ _ rfl (by simp[fO,d])
    ·simp -implicitDefEqProofs only[go_sem,γ,reduceCtorEq,bE (show (n:Int)≠45 by omega),bE (show (n:Int)≠46 by omega)]
     exact fin _ _ rfl (by simp[fO,c,d,hl,hd])
def isName (s:List UInt8):Bool:=match s with
 | []=>false
 | c::_=>decide (s.length≤16)&&fP c.toNat&&s.all fun c=>fO c.toNat
theorem zF {α:Type} {p:α→Bool} {l:List α} {k:Nat} (hk:k<l.length) (h:(l.take k).all p=true) (hp:p l[k]=true):(l.take (k+1)).all p=true:=by
 rw[bcO hk,List.all_append,h]; simp[hp]
theorem zG {α:Type} {p:α→Bool} {l:List α} {k:Nat} (hk:k<l.length) (hp:p l[k]=false):l.all p=false:=by
 rw[List.all_eq_false]
 exact⟨l[k],baN hk,by simp[hp]⟩
def amZ (s:List UInt8) (k:Nat):PF:=((PF.nil.set 0 (.str s)).set 3 (.int .i64 k))
theorem aPR {C:Ctx} (h1:∀ n:Nat,aJ C 126 [.int .u8 n] .nil (aK (.bool (fP n)))) (h2:∀ n:Nat,aJ C 125 [.int .u8 n] .nil (aK (.bool (fO n)))) (s:List UInt8) :
  pC.wp C (aZ KC.res (aK (.bool (isName s)))) (PF.args [.str s]) .nil:=by
 have fin:∀ (F:PF) (b:Bool),F 2=some (.bool b)→b=isName s→aZ KC.res (aK (.bool (isName s))) .ret F .nil:=by
  intro F b h e
  subst e
  refine bZ (.inr rfl) (vs:=[.bool (isName s)]) (by simp -implicitDefEqProofs only[go_sem,KC,h]) rfl
 cases s with
 | nil =>
  simp -implicitDefEqProofs only[go_sem,γ,reduceCtorEq,pC,AK,AL,AM]
  exact fin _ _ rfl rfl
 | cons c t =>
  have hz:(c::t)[0]?=some c:=rfl
  have hne:(c::t==[])=false:=rfl
  have hN:isName (c::t)=(decide ((c::t).length≤16)&&fP c.toNat&&(c::t).all fun c=>fO c.toNat):=rfl
  generalize c::t=s at *
  by_cases hl:s.length≤16
  ·have hl':¬ ((s.length:Nat):Int)>16:=by omega
   rw[decide_eq_true hl,bbC] at hN
   simp -implicitDefEqProofs only[go_sem,ν,γ,reduceCtorEq,pC,AK,AL,hne,hl',hz,bbN]
   refine aB (h1 c.toNat) rfl ?_
   cases hc:fP c.toNat with
   | false =>
    simp -implicitDefEqProofs only[go_sem,γ,reduceCtorEq,baZ,AM]
    exact fin _ _ rfl (by rw[hN,hc]; rfl)
   | true =>
    rw[hc,bbC] at hN
    simp -implicitDefEqProofs only[go_sem,γ,reduceCtorEq,baM,anB]
    refine wp_loop (α:=Nat) (fun k=>amZ s k) (fun _=>.nil) (fun k=>k≤s.length∧(s.take k).all (fun c=>fO c.toNat)=true) (fun k=>s.length-k) 0 ⟨baR _,rfl⟩ ?_ PH.nil_le ?_
    ·unfold amZ
     (repeat' (first|exact PF.nil_le|refine PF.aA ?_ ?_))<;>first|(simp -implicitDefEqProofs only[go_sem,γ,reduceCtorEq]<;>rfl)|rfl
    rintro k ⟨hk,ha⟩
    simp -implicitDefEqProofs only[go_sem,γ,reduceCtorEq,anA,anC,amZ]
    by_cases hlt:k<s.length
    ·have hlt':(k:Int)<(s.length:Nat):=by omega
     have hg:s[k]?=some s[k]:=baQ hlt
     simp -implicitDefEqProofs only[go_sem,γ,reduceCtorEq,hlt',anD,hg,bbN]
     refine aB (h2 (s[k]).toNat) rfl ?_
     cases hi:fO (s[k]).toNat with
     | false =>
      simp -implicitDefEqProofs only[go_sem,γ,reduceCtorEq,baZ,anE]
      refine fin _ false rfl ?_
      rw[hN,zG hlt hi]
     | true =>
      simp -implicitDefEqProofs only[go_sem,γ,reduceCtorEq,baM,anF,aL (show k<9223372036854775807 by omega)]
      refine aH (k+1) ⟨hlt,bbQ.1 (zF hlt ha hi)⟩ (by omega) ?_ PH.nil_le
      (repeat' (first|exact PF.nil_le|refine PF.aA ?_ ?_))<;>first|(simp -implicitDefEqProofs only[go_sem,γ,reduceCtorEq]<;>rfl)|rfl
    ·have hlt':¬ (k:Int)<(s.length:Nat):=by omega
     simp -implicitDefEqProofs only[go_sem,hlt',anG]
     have:k=s.length:=by omega
     subst this
     rw[baS (baJ _)] at ha
     exact fin _ true rfl (by rw[hN,ha])
  ·have hl':((s.length:Nat):Int)>16:=by omega
   simp -implicitDefEqProofs only[go_sem,γ,reduceCtorEq,pC,AK,AL,AM,hne,hl']
   exact fin _ _ rfl (by rw[hN,decide_eq_false hl]; rfl)
end Go.PM
namespace Go.PM
open Go Go.Na
abbrev dQ (x:Int):Prop:=-9223372036854775808≤x∧x≤9223372036854775807
structure cI where
 name:List UInt8
 start:List RF
 rates:List (List RF)
 exit:List RF
structure cQ where
 name:List UInt8
 extents:Int
 port:Int
 law:Int
structure cG where
 name:List UInt8
 level:Int
 parent:Int
 uplink:Int
 shock:RF
structure cM where
 name:List UInt8
 model:Int
 machine:Int
structure cJ where
 name:List UInt8
 k:Int
 m:Int
 quorum:Int
 s0:Int
 s1:Int
 s2:Int
 s3:Int
 s4:Int
 models:List Int
 repair:List RF
 target:RF
 horizon:RF
structure fF where
 name:List UInt8
 policy:Int
structure aI where
 extent:Int
 laws:List cI
 models:List cQ
 domains:List cG
 drives:List cM
 policies:List cJ
 volumes:List fF
abbrev aHA (l:List (List RF)):PV:=.sl 1 (l.map fun r=>[frs r])
abbrev cI.cells (x:cI):List PV:=[.str x.name,frs x.start,aHA x.rates,frs x.exit]
abbrev cQ.cells (x:cQ):List PV:=[.str x.name,.int .i64 x.extents,.int .i64 x.port,.int .i64 x.law]
abbrev cG.cells (x:cG):List PV:=[.str x.name,.int .i64 x.level,.int .i64 x.parent,.int .i64 x.uplink,.bool x.shock.neg,aF x.shock.num,aF x.shock.den]
abbrev cM.cells (x:cM):List PV:=[.str x.name,.int .i64 x.model,.int .i64 x.machine]
abbrev cJ.cells (x:cJ):List PV:=[.str x.name,.int .i64 x.k,.int .i64 x.m,.int .i64 x.quorum,.int .i64 x.s0,.int .i64 x.s1,.int .i64 x.s2,.int .i64 x.s3,.int .i64 x.s4,ints x.models,frs x.repair,
 .bool x.target.neg,aF x.target.num,aF x.target.den,.bool x.horizon.neg,aF x.horizon.num,aF x.horizon.den]
abbrev fF.cells (x:fF):List PV:=[.str x.name,.int .i64 x.policy]
abbrev aI.cells (f:aI):List PV:=[.int .i64 f.extent,.sl 4 (f.laws.map cI.cells),.sl 4 (f.models.map cQ.cells),.sl 7 (f.domains.map cG.cells),.sl 3 (f.drives.map cM.cells),.sl 17 (f.policies.map cJ.cells),.sl 2 (f.volumes.map fF.cells)]
def cJ.spread (p:cJ) (level:Nat):Int:=match level with
 | 0=>p.s0
 | 1=>p.s1
 | 2=>p.s2
 | 3=>p.s3
 | _=>p.s4
abbrev Fits {α:Type} (l:List α):Prop:=l.length≤9223372036854775807
structure pR (l:List RF):Prop where
 fits:Fits l
 all:∀ x∈l,x.Ok
structure cI.Ok (x:cI):Prop where
 start:pR x.start
 exit:pR x.exit
 rates:Fits x.rates
 row:∀ r∈x.rates,pR r
structure cJ.Ok (x:cJ):Prop where
 k:dQ x.k
 m:dQ x.m
 quorum:dQ x.quorum
 models:Fits x.models
 each:∀ m∈x.models,dQ m
 repair:pR x.repair
 target:x.target.Ok
 horizon:x.horizon.Ok
structure aI.Ok (f:aI):Prop where
 laws:Fits f.laws
 models:Fits f.models
 domains:Fits f.domains
 drives:Fits f.drives
 policies:Fits f.policies
 volumes:Fits f.volumes
 law:∀ x∈f.laws,x.Ok
 dom:∀ x∈f.domains,x.shock.Ok∧dQ x.level∧dQ x.parent
 drive:∀ x∈f.drives,dQ x.model∧dQ x.machine
 policy:∀ x∈f.policies,x.Ok
 volume:∀ x∈f.volumes,dQ x.policy
def xB (x:RF):FR:=if dC (val x.num) (val x.den) then jD x.neg (val x.num) (val x.den) else .error 1
theorem aGV (x:RF):KK x.neg (val x.num) (val x.den)=frV (xB x):=by
 unfold KK xB
 split
 ·exact XO _ _ _
 ·rfl
def fB (x:RF):Bool:=match xB x with
 | .ok (n,a,b)=>!n&&(decide (bY a≤32)&&decide (bY b≤32))
 | .error _=>false
def bP (x:RF):Bool:=decide (val x.num≠0)
def QC (x:RF):Bool:=dC (val x.num) (val x.den)&&decide (tW x.neg (val x.num) (val x.den) false 1 1≤0)
def within (n lo hi:Int):Bool:=decide (lo≤n)&&decide (n≤hi)
def cV (R:List Bool) (i:Nat) (row:List RF):Nat→List Bool
 | 0=>R
 | k+1=>let R':=cV R i row k
  R'.set i (R'.getD i false||(row.map bP).getD k false&&R'.getD k false)
def iY (l:cI) (R:List Bool) (i:Nat):List Bool :=
 cV (R.set i (R.getD i false||(l.exit.map bP).getD i false)) i (l.rates.getD i []) (l.rates.getD i []).length
def dW (l:cI) (R:List Bool):Nat→List Bool
 | 0=>R
 | i+1=>iY l (dW l R i) i
def fH (l:cI):Nat→List Bool
 | 0=>baH l.exit.length false
 | r+1=>dW l (fH l r) l.exit.length
def oZ (l:cI):Bool:=(fH l (l.exit.length+1)).all id
def nO (l:cI):Bool :=
 within l.start.length 1 4&&decide (l.exit.length=l.start.length)&&decide (l.rates.length=l.start.length)&&l.start.all fB&&l.exit.all fB
 && (baW l.rates.length).all (fun i=>decide ((l.rates.getD i []).length=l.start.length)&&(l.rates.getD i []).all fB&&!((l.rates.getD i []).map bP).getD i false)
 && (match nS (l.start.map RF.v) with
  | .ok (n,a,b)=>decide (tW n a b false 1 1=0)
  | .error _=>false)&&oZ l
def distinct (l:List (List UInt8)):Bool:=(baW l.length).all fun i=>isName (l.getD i [])&&!(l.take i).contains (l.getD i [])
def NL (f:aI) (i:Nat) (d:cG):Bool :=
 within d.parent 0 i&&decide ((f.domains.map cG.level).getD d.parent.toNat 0=IntKind.i64.wrap (d.level-1))&&within d.level 1 4&&within d.uplink 1 64&&fB d.shock
def JL (f:aI) (r:cG) (t:List cG):Bool :=
 decide (r.name=[])&&decide (r.level=0)&&decide (r.parent=-1)&&decide (r.uplink=0)&&fB r.shock&&!bP r.shock
  && (baW t.length).all fun i=>match t[i]? with
   | some d=>NL f i d
   | none=>false
def lD (f:aI):Bool:=match f.domains with
 | []=>false
 | r::t=>JL f r t
def QA (p:cJ):Bool :=
 within p.k 1 6&&within p.m 0 4&&decide (p.k+p.m≤8)&&within p.quorum p.k (p.k+p.m)&&decide (p.s0=0)&&([p.s0,p.s1,p.s2,p.s3,p.s4].all fun n=>within n 0 8)
def KJ (p:cJ):Bool :=
 decide ((p.repair.length:Int)=max p.m 1)&&(p.repair.all fun x=>fB x&&bP x)&&fB p.target&&QC p.target&&fB p.horizon
def gO (models:Nat) (p:cJ):Bool :=
 QA p&&decide (p.models.length≠0)&&KJ p&&(baW p.models.length).all fun j=>within (p.models.getD j 0) 0 ((models:Int)-1)&&!(p.models.take j).contains (p.models.getD j 0)
def jM (f:aI) (m:cQ):Bool:=within m.extents 1 16&&within m.port 1 64&&within m.law 0 ((f.laws.length:Int)-1)
def gR (f:aI) (d:cM):Bool:=within d.model 0 ((f.models.length:Int)-1)&&within d.machine 0 ((f.domains.length:Int)-1)&&decide ((f.domains.map cG.level).getD d.machine.toNat 0=4)
def kY (f:aI) (v:fF):Bool:=within v.policy 0 ((f.policies.length:Int)-1)
def lY (f:aI):Bool:=within f.extent 1 4&&decide (f.laws.length≤4)&&decide (f.models.length≤4)&&decide (f.domains.length≤40)&&decide (f.drives.length≤24)&&decide (f.policies.length≤4)&&decide (f.volumes.length≤12)
def cL (f:aI):Bool :=
 lY f&&lD f&&(f.laws.all nO&&f.models.all (jM f)&&f.drives.all (gR f)&&f.policies.all (gO f.models.length)&&f.volumes.all (kY f))
 && (distinct (f.laws.map cI.name)&&distinct (f.models.map cQ.name)&&distinct ((f.domains.drop 1).map cG.name++f.drives.map cM.name)&&distinct (f.policies.map cJ.name)&&distinct (f.volumes.map fF.name))
end Go.PM
namespace Go.PM
open Go Go.Na
theorem aS {t:Nat} {b b':Bool} {F:PF} {H:PH} (h:F t=some (.bool b)) (e:b=b'):aZ [.tmp t] (bW (.bool b')) .ret F H:=by
 subst e
 exact aY (.inr rfl) .nil (vs:=[.bool b]) (by rw[jR,kW,h,mQ]) PH.nil_le ⟨.refl _,rfl⟩
theorem aYE {C:Ctx} (n lo hi:Int):tM.wp C (aZ gin.res (bW (.bool (within n lo hi)))) (PF.args [.int .i64 n,.int .i64 lo,.int .i64 hi]) .nil:=by
 by_cases a:lo≤n
 ·by_cases b:n≤hi
  ·simp -implicitDefEqProofs only[go_sem,γ,reduceCtorEq,tM,SC,SD,gin,show n≥lo from a,b]
   exact aS rfl (by simp[within,a,b])
  ·simp -implicitDefEqProofs only[go_sem,γ,reduceCtorEq,tM,SC,SD,gin,show n≥lo from a,b]
   exact aS rfl (by simp[within,a,b])
 ·have a':¬ n≥lo:=a
  simp -implicitDefEqProofs only[go_sem,γ,reduceCtorEq,tM,SC,SD,gin,a']
  exact aS rfl (by simp[within,a])
theorem aIY {C:Ctx} (L:oR C) (x:RF) (hx:x.Ok):wB.wp C (aZ ES.res (bW (.bool (bP x)))) (PF.args [.agg x.cells]) .nil:=by
 simp -implicitDefEqProofs only[go_sem,δ,γ,θ,wB,ZM,ZN,ES]
 refine aB (L.bits x.num hx.1 hx.2.2.1) rfl ?_
 simp -implicitDefEqProofs only[go_sem,γ]
 refine aS rfl ?_
 have:=@gG (val x.num)
 rw[bP,decide_eq_decide]
 omega
structure ahN (C:Ctx):Prop extends zC C where
 frac:∀ n d:Int,dQ n→dQ d→aJ C 115 [.int .i64 n,.int .i64 d] .nil (aK (SO n d))
 red:∀ x:RF,x.Ok→aJ C 116 [.agg x.cells] .nil (aK (frV (xB x)))
 ord:∀ x y:RF,x.Ok→y.Ok→aJ C 114 [.agg x.cells,.agg y.cells] .nil (aK (uL x.neg (val x.num) (val x.den) y.neg (val y.num) (val y.den)))
 plus:∀ x y:RF,x.Ok→y.Ok→aJ C 113 [.agg x.cells,.agg y.cells] .nil (aK (frV (gX x.v y.v)))
 tot:∀ l:List RF,pR l→aJ C 117 [frs l] .nil (aK (frV (nS (l.map RF.v))))
theorem AN {neg:Bool} {a b:Nat} {e:Int} (h:jD neg a b=.error e):e=2:=by
 unfold jD at h
 split at h
 ·injection h with h; exact h.symm
 ·cases h
theorem aQW {x:RF} {e:Int} (h:xB x=.error e):e≠0:=by
 unfold xB at h
 split at h
 ·rw[AN h]; decide
 ·injection h with h; subst h; decide
theorem aVX {x:RF} {r:FV} (h:xB x=.ok r):r.rf.Ok:=by
 unfold xB at h
 split at h
 ·exact (pD h).2
 ·cases h
theorem aUB {C:Ctx} (L:ahN C) (x:RF) (hx:x.Ok):EX.wp C (aZ alE.res (bW (.bool (fB x)))) (PF.args [.agg x.cells]) .nil:=by
 simp -implicitDefEqProofs only[go_sem,δ,γ,EX,ayZ,azA,alE]
 refine aB (L.red x hx) rfl ?_
 unfold fB
 cases hr:xB x with
 | error e =>
  have:=bE (aQW hr)
  simp -implicitDefEqProofs only[go_sem,δ,γ,frV]
  refine aP fun o ho=>?_
  simp -implicitDefEqProofs only[go_sem,δ,γ,reduceCtorEq,JV,this]
  exact aS rfl rfl
 | ok r =>
  obtain⟨n,a,b⟩:=r
  obtain⟨l1,l2,l3,l4⟩:=aVX hr
  simp -implicitDefEqProofs only[go_sem,δ,γ,frV]
  refine aP fun o ho=>?_
  cases n with
  | true =>
   simp -implicitDefEqProofs only[go_sem,ρ,δ,γ,θ,reduceCtorEq,JV]
   exact aS rfl rfl
  | false =>
   simp -implicitDefEqProofs only[go_sem,ρ,δ,γ,θ,JV]
   refine aB (L.bits _ l1 l3) rfl ?_
   rw[show val (FV.rf (false,a,b)).num=a from aV a]
   by_cases c1:bY a≤32
   ·have c1':((bY a:Nat):Int)≤32:=by omega
    simp -implicitDefEqProofs only[go_sem,δ,γ,c1']
    refine aB (L.bits _ l2 l4) rfl ?_
    rw[show val (FV.rf (false,a,b)).den=b from aV b]
    simp -implicitDefEqProofs only[go_sem,γ]
    refine aS rfl ?_
    rw[decide_eq_true c1]
    simp
    omega
   ·have c1':¬ ((bY a:Nat):Int)≤32:=by omega
    simp -implicitDefEqProofs only[go_sem,γ,reduceCtorEq,c1']
    refine aS rfl ?_
    rw[decide_eq_false c1]
    rfl
theorem anK:jD false 1 1=.ok (false,1,1):=by
 have:bY 1=1:=by rw[nJ (by decide),iD]
 simp[jD,this]
theorem anX:SO 1 1=frV (.ok (false,1,1)):=by
 rw[SO,if_neg (by decide),XO]
 show frV (jD false 1 1)=_
 rw[anK]
theorem aLE:(FV.rf (false,1,1)).Ok:=(pD anK).2
theorem agX:dC 1 1=true:=by
 have:bY 1=1:=by rw[nJ (by decide),iD]
 simp[dC,this]
theorem aUF {C:Ctx} (L:ahN C) (x:RF) (hx:x.Ok):EZ.wp C (aZ gone.res (bW (.bool (QC x)))) (PF.args [.agg x.cells]) .nil:=by
 simp -implicitDefEqProofs only[go_sem,EZ,azE,azF,gone]
 refine aB (L.frac 1 1 (by decide) (by decide)) rfl ?_
 rw[anX]
 simp -implicitDefEqProofs only[go_sem,δ,γ,frV]
 refine aP fun o ho=>?_
 simp -implicitDefEqProofs only[go_sem,δ,γ,azG]
 refine aB (L.ord x (FV.rf (false,1,1)) hx aLE) rfl ?_
 rw[show val (FV.rf (false,1,1)).num=1 from aV 1,show val (FV.rf (false,1,1)).den=1 from aV 1,show (FV.rf (false,1,1)).neg=false from rfl]
 unfold uL QC
 rw[agX,bcY]
 cases hv:dC (val x.num) (val x.den) with
 | false =>
  simp -implicitDefEqProofs only[go_sem,ρ,γ,reduceCtorEq,XG]
  exact aS rfl rfl
 | true =>
  simp -implicitDefEqProofs only[go_sem,ρ,γ,XG]
  exact aS rfl rfl
theorem aOV {C:Ctx} (p:RF→Bool) (fn:Nat) (l:List RF) (hf:Fits l) (h:∀ x∈l,aJ C fn [.agg x.cells] .nil (aK (.bool (p x)))) :
  zU.wp C (aZ RZ.res (bW (.bool (l.all p)))) (PF.args [frs l,.fn fn []]) .nil:=by
 simp -implicitDefEqProofs only[go_sem,γ,reduceCtorEq,zU,akB,akC,RZ]
 refine wp_loop (α:=Nat) (fun k=>((((PF.nil.set 1 (.fn fn [])).set 7 (frs l)).set 8 (.int .i64 (l.length:Nat))).set 9 (.int .i64 k))) (fun _=>.nil) (fun k=>k≤l.length∧(l.take k).all p=true) (fun k=>l.length-k) 0 ⟨baR _,rfl⟩ ?_ PH.nil_le ?_
 ·(repeat' (first|exact PF.nil_le|refine PF.aA ?_ ?_))<;>first|(simp -implicitDefEqProofs only[go_sem,γ,baF]<;>rfl)|rfl
 rintro k ⟨hk,ha⟩
 simp -implicitDefEqProofs only[go_sem,γ,akA,akD]
 by_cases hlt:k<l.length
 ·have hlt':(k:Int)<(l.length:Nat):=by omega
  have hr:(l.map RF.cells)[k]?=some (l[k]).cells:=by simp[hlt]
  simp -implicitDefEqProofs only[go_sem,δ,γ,hlt',akE,hr]
  refine aP fun o ho=>?_
  simp -implicitDefEqProofs only[go_sem,δ,γ,akF]
  refine⟨fn,[],rfl,?_⟩
  refine aB (h _ (baN hlt)) rfl ?_
  cases hp:p l[k] with
  | false =>
   simp -implicitDefEqProofs only[go_sem,γ,akG]
   exact aS (b:=false) rfl (zG (p:=p) hlt hp).symm
  | true =>
   simp -implicitDefEqProofs only[go_sem,γ,akH,aL (show k<9223372036854775807 by omega)]
   refine aH (k+1) ⟨hlt,bbQ.1 (zF hlt ha hp)⟩ (by omega) ?_ PH.nil_le
   (repeat' (first|exact PF.nil_le|refine PF.aA ?_ ?_))<;>first|(simp -implicitDefEqProofs only[go_sem,γ]<;>rfl)|rfl
 ·have hlt':¬ (k:Int)<(l.length:Nat):=by omega
  simp -implicitDefEqProofs only[go_sem,hlt',akI]
  have:k=l.length:=by omega
  subst this
  rw[baS (baJ _)] at ha
  exact aS rfl ha.symm
theorem aOX {C:Ctx} (p:Int→Bool) (fn:Nat) (l:List Int) (hf:Fits l) (h:∀ x∈l,aJ C fn [.int .i64 x] .nil (aK (.bool (p x)))) :
  zV.wp C (aZ SA.res (bW (.bool (l.all p)))) (PF.args [ints l,.fn fn []]) .nil:=by
 simp -implicitDefEqProofs only[go_sem,γ,reduceCtorEq,zV,akK,akL,SA]
 refine wp_loop (α:=Nat) (fun k=>((((PF.nil.set 1 (.fn fn [])).set 7 (ints l)).set 8 (.int .i64 (l.length:Nat))).set 9 (.int .i64 k))) (fun _=>.nil) (fun k=>k≤l.length∧(l.take k).all p=true) (fun k=>l.length-k) 0 ⟨baR _,rfl⟩ ?_ PH.nil_le ?_
 ·(repeat' (first|exact PF.nil_le|refine PF.aA ?_ ?_))<;>first|(simp -implicitDefEqProofs only[go_sem,γ,baF]<;>rfl)|rfl
 rintro k ⟨hk,ha⟩
 simp -implicitDefEqProofs only[go_sem,γ,akJ,akM]
 by_cases hlt:k<l.length
 ·have hlt':(k:Int)<(l.length:Nat):=by omega
  have hr:(l.map fun n=>[PV.int .i64 n])[k]?=some [.int .i64 l[k]]:=by simp[hlt]
  simp -implicitDefEqProofs only[go_sem,γ,hlt',akN,hr,akO]
  refine⟨fn,[],rfl,?_⟩
  refine aB (h _ (baN hlt)) rfl ?_
  cases hp:p l[k] with
  | false =>
   simp -implicitDefEqProofs only[go_sem,γ,akP]
   exact aS (b:=false) rfl (zG (p:=p) hlt hp).symm
  | true =>
   simp -implicitDefEqProofs only[go_sem,γ,akQ,aL (show k<9223372036854775807 by omega)]
   refine aH (k+1) ⟨hlt,bbQ.1 (zF hlt ha hp)⟩ (by omega) ?_ PH.nil_le
   (repeat' (first|exact PF.nil_le|refine PF.aA ?_ ?_))<;>first|(simp -implicitDefEqProofs only[go_sem,γ]<;>rfl)|rfl
 ·have hlt':¬ (k:Int)<(l.length:Nat):=by omega
  simp -implicitDefEqProofs only[go_sem,hlt',akR]
  have:k=l.length:=by omega
  subst this
  rw[baS (baJ _)] at ha
  exact aS rfl ha.symm
abbrev aEI (l:List Bool):PV:=.sl 1 (l.map fun b=>[PV.bool b])
theorem aOT {C:Ctx} (p:Bool→Bool) (fn:Nat) (l:List Bool) (hf:Fits l) (h:∀ x∈l,aJ C fn [.bool x] .nil (aK (.bool (p x)))) :
  zT.wp C (aZ RY.res (bW (.bool (l.all p)))) (PF.args [aEI l,.fn fn []]) .nil:=by
 simp -implicitDefEqProofs only[go_sem,γ,reduceCtorEq,zT,ajS,ajT,RY]
 refine wp_loop (α:=Nat) (fun k=>((((PF.nil.set 1 (.fn fn [])).set 7 (aEI l)).set 8 (.int .i64 (l.length:Nat))).set 9 (.int .i64 k))) (fun _=>.nil) (fun k=>k≤l.length∧(l.take k).all p=true) (fun k=>l.length-k) 0 ⟨baR _,rfl⟩ ?_ PH.nil_le ?_
 ·(repeat' (first|exact PF.nil_le|refine PF.aA ?_ ?_))<;>first|(simp -implicitDefEqProofs only[go_sem,γ,baF]<;>rfl)|rfl
 rintro k ⟨hk,ha⟩
 simp -implicitDefEqProofs only[go_sem,γ,ajR,ajU]
 by_cases hlt:k<l.length
 ·have hlt':(k:Int)<(l.length:Nat):=by omega
  have hr:(l.map fun b=>[PV.bool b])[k]?=some [.bool l[k]]:=by simp[hlt]
  simp -implicitDefEqProofs only[go_sem,γ,hlt',ajV,hr,ajW]
  refine⟨fn,[],rfl,?_⟩
  refine aB (h _ (baN hlt)) rfl ?_
  cases hp:p l[k] with
  | false =>
   simp -implicitDefEqProofs only[go_sem,γ,ajX]
   exact aS (b:=false) rfl (zG (p:=p) hlt hp).symm
  | true =>
   simp -implicitDefEqProofs only[go_sem,γ,ajY,aL (show k<9223372036854775807 by omega)]
   refine aH (k+1) ⟨hlt,bbQ.1 (zF hlt ha hp)⟩ (by omega) ?_ PH.nil_le
   (repeat' (first|exact PF.nil_le|refine PF.aA ?_ ?_))<;>first|(simp -implicitDefEqProofs only[go_sem,γ]<;>rfl)|rfl
 ·have hlt':¬ (k:Int)<(l.length:Nat):=by omega
  simp -implicitDefEqProofs only[go_sem,hlt',ajZ]
  have:k=l.length:=by omega
  subst this
  rw[baS (baJ _)] at ha
  exact aS rfl ha.symm
theorem aJA {C:Ctx} (b:Bool):wC.wp C (aZ ET.res (bW (.bool b))) (PF.args [.bool b]) .nil:=by
 simp -implicitDefEqProofs only[go_sem,γ,reduceCtorEq,wC,ZO,ZP,ET]
 exact aS rfl rfl
theorem aPC {C:Ctx} (hin:∀ n lo hi:Int,aJ C 104 [.int .i64 n,.int .i64 lo,.int .i64 hi] .nil (aK (.bool (within n lo hi)))) (n:Int):zZ.wp C (aZ SE.res (bW (.bool (within n 0 8)))) (PF.args [.int .i64 n]) .nil:=by
 simp -implicitDefEqProofs only[go_sem,reduceCtorEq,zZ,alG,alH,SE]
 refine aB (hin n 0 8) rfl ?_
 simp -implicitDefEqProofs only[go_sem,γ]
 exact aS rfl rfl
theorem aJD {C:Ctx} (h1:∀ x:RF,x.Ok→aJ C 105 [.agg x.cells] .nil (aK (.bool (fB x)))) (h2:∀ x:RF,x.Ok→aJ C 97 [.agg x.cells] .nil (aK (.bool (bP x)))) (x:RF) (hx:x.Ok) :
  wD.wp C (aZ FB.res (bW (.bool (fB x&&bP x)))) (PF.args [.agg x.cells]) .nil:=by
 simp -implicitDefEqProofs only[go_sem,δ,γ,wD,ZU,ZV,FB]
 refine aB (h1 x hx) rfl ?_
 cases hl:fB x with
 | false =>
  simp -implicitDefEqProofs only[go_sem,γ,reduceCtorEq]
  exact aS rfl rfl
 | true =>
  simp -implicitDefEqProofs only[go_sem,δ,γ]
  refine aB (h2 x hx) rfl ?_
  simp -implicitDefEqProofs only[go_sem,γ]
  exact aS rfl rfl
end Go.PM
namespace Go.PM
open Go
section
variable (o s:Nat) (rs:List (List PV))
@[go_sem] theorem a6B (k:IntKind) (n:Int):PV.frz o s rs (.int k n)=.int k n:=rfl
@[go_sem] theorem a2H (b:Bool):PV.frz o s rs (.bool b)=.bool b:=rfl
@[go_sem] theorem a6F (l:List UInt8):PV.frz o s rs (.str l)=.str l:=rfl
@[go_sem] theorem a2I:PV.frz o s rs .nils=.nils:=rfl
@[go_sem] theorem a9K (n:Nat) (r:List (List PV)):PV.frz o s rs (.sl n r)=.sl n r:=rfl
@[go_sem] theorem a2J (c:List PV):PV.frz o s rs (.rptr c)=.rptr c:=rfl
@[go_sem] theorem a6E (q z i c:Nat):PV.frz o s rs (.ptr q z i c)=.ptr q z i c:=rfl
@[go_sem] theorem a9J (n:Nat) (c:List PV):PV.frz o s rs (.fn n c)=.fn n c:=rfl
@[go_sem] theorem a6C (q:Nat):PV.frz o s rs (.map q)=.map q:=rfl
@[go_sem] theorem a6D (q z off len:Nat):PV.frz o s rs (.osl q z off len)=if q=o then (if z=s∧off+len≤rs.length then .sl s ((rs.drop off).take len) else .junk) else .osl q z off len:=rfl
end
def mD (s:Nat) (rows:List (List PV)) (r:PV) (H:PH):Prop :=
 (rows=[]∧r=.nils∧H=PH.nil)∨∃ q rs,r=.osl q s 0 rows.length∧H=PH.nil.set q (.rows s rs)∧rows.length≤rs.length∧rs.take rows.length=rows
theorem ayB (q s:Nat) (rs:List (List PV)):(PH.nil.set q (.rows s rs)).frz q s rs=PH.nil:=PH.ext fun o=>by
 rw[JX]
 by_cases e:o=q
 ·rw[if_pos e]; rfl
 ·rw[if_neg e,aU,if_neg e]; rfl
section
variable {C:Ctx} {K:cD} {F:PF} {H:PH} {s:Nat} {v:PV} {rows:List (List PV)}
theorem mD.over {r:PV} {H':PH} (h:mD s rows r H') (ha:kZ H .nil H'):bA (H.over .nil H') s r rows∧∀ o x,H o=some x→(H.over .nil H') o=some x:=by
 rcases h with ⟨h1,h2,rfl⟩ | ⟨q,rs,h1,rfl,h3,h4⟩
 ·rw[PH.tX]; exact⟨.inl ⟨h1,h2⟩,fun o x h=>h⟩
 ·rw[PH.lT]
  have hq:H q=none:=ha q (.rows s rs) (by simp only[aU,if_true]) rfl
  refine⟨.inr ⟨q,rs,h1,by simp only[aU,if_true],h3,h4⟩,fun o x ho=>?_⟩
  have:o≠q:=by rintro rfl; rw[hq] at ho; cases ho
  simp only[aU,if_neg this,ho]
theorem BW {t:Nat} {e:kG} (he:e=.normal∨e=.ret) (h:bA H s v rows) (ht:F t=some v):aZ [.tmp t] (mD s rows) e F H:=by
 rcases h with ⟨rfl,rfl⟩ | ⟨q,rs,rfl,h1,h2,h3⟩
 ·exact aY (vs:=[.nils]) he .nil (by rw[jR,kW,ht,mQ]) PH.nil_le (.inl ⟨rfl,rfl,rfl⟩)
 ·exact aY (vs:=[.osl q s 0 rows.length]) he (PH.nil.set q (.rows s rs)) (by rw[jR,kW,ht,mQ]) (PH.aA PH.nil_le h1) (.inr ⟨q,rs,rfl,rfl,h2,h3⟩)
theorem yR {t:Nat} {e:kG} (he:e=.normal∨e=.ret) (ht:F t=some .nils):aZ [.tmp t] (mD s []) e F H:=BW he .nil ht
theorem aLN {t:Nat} {e:kG} {r:PV} {H':PH} (he:e=.normal∨e=.ret) (h:mD s rows r H') (ht:F t=some r):aZ [.tmp t] (mD s rows) e F (H.over .nil H'):=by
 refine aY (vs:=[r]) he H' (by rw[jR,kW,ht,mQ]) (fun o x ho=>?_) h
 rw[kV,ho]
theorem aJ.freeze {name:Nat} {args:List PV} (h:aJ C name args H (mD s rows)):aJ C name args H (aK (.sl s rows)) :=
 ⟨h.1,fun E w vs hN hW hvs=>(h.2 E w vs hN hW hvs).mono fun e w' he=>by
  obtain⟨u,pv,E',H',rfl,hW',hr,hE,hp⟩:=he
  rcases hp with ⟨rfl,rfl,rfl⟩ | ⟨q,rs,rfl,rfl,h3,h4⟩
  ·exact⟨u,_,E',_,rfl,hW',(Co.nil s).sound hr,hE,rfl,rfl⟩
  ·have hz:gV (PF.nil.set 0 (.osl q s 0 rows.length)) (PH.nil.set q (.rows s rs)) _ _:=.step q (s:=s) (rs:=rs) (by simp only[aU,if_true]) (.refl _ _)
   obtain⟨E2,k1,k2,k3⟩:=hz.sound hW'
   have hrep:=k3 (fun _=>u) (fun i p hi=>by
    rw[kP] at hi
    split at hi
    ·cases hi; exact hr
    ·cases hi) 0 (.sl s rows) (by rw[rF,kP,if_pos rfl,bbN,yI h3,h4])
   rw[ayB] at k1 k2
   exact⟨u,_,E2,_,rfl,k1,hrep,hE.trans k2,rfl,rfl⟩⟩
theorem eD.of:∀ {E:Env} (ps:List PV) (vs:List Value),vs.length=ps.length→(∀ (i:Nat) p v,ps[i]?=some p→vs[i]?=some v→aR E p v)→eD E ps vs
 | _,[],[],_,_=>.nil
 | _,[],_::_,h,_=>by simp at h
 | _,_::_,[],h,_=>by simp at h
 | _,p::ps,v::vs,h,k=>.cons (k 0 p v rfl rfl) (eD.of ps vs (by simpa using h) fun i q u a b=>k (i+1) q u (by simpa using a) (by simpa using b))
theorem bL.same {E:Env} {w w':World} (hW:bL E H w) (hs:w.heap.size≤w'.heap.size) (hb:∀ b,b<w.heap.size→H b=none→w'.heap[b]?=w.heap[b]?) (hH:∀ o x,H o=some x→w'.heap[o]?=w.heap[o]?):bL E H w':=by
 have key:∀ b,b<w.heap.size→w'.heap[b]?=w.heap[b]?:=fun b hlt=>by
  cases e:H b with
  | none=>exact hb b hlt e
  | some x=>exact hH b x e
 refine⟨fun b cs h=>?_,fun o x h=>?_,fun o n h=>?_⟩
 ·obtain⟨h1,ty,fr,h2⟩:=hW.g b cs h
  exact⟨h1,ty,fr,(key b (bdN.1 h2).1).trans h2⟩
 ·obtain⟨h1,h2⟩:=hW.h o x h
  exact⟨Nat.lt_of_lt_of_le h1 hs,h2.mono (.refl E) (key o h1)⟩
 ·obtain⟨cur,ty,fr,h1,h2⟩:=hW.s o n h
  exact⟨cur,ty,fr,(key o (bdN.1 h1).1).trans h1,h2⟩
inductive Plain:PV→Prop
 | int (k:IntKind) (n:Int):Plain (.int k n)
 | bool (b:Bool):Plain (.bool b)
 | str (l:List UInt8):Plain (.str l)
theorem Plain.rep {v:PV} (h:Plain v) {E E':Env} {u:Value} (r:aR E v u):aR E' v u:=by
 cases h<;>cases r
 ·exact .int _ _
 ·exact .bool _
 ·exact .str _
theorem aJ.a6H {name o:Nat} {rs:List (List PV)} {args:List PV} (hv:Plain v) (h:aJ C name (args.map (PV.frz o s rs)) .nil (aK v)) :
  aJ C name args (PH.nil.set o (.rows s rs)) (fun r H'=>r=v∧H'=PH.nil.set o (.rows s rs)):=by
 refine⟨h.1,fun E w vs hN hW hvs=>?_⟩
 have hz:gV (PF.args args) (PH.nil.set o (.rows s rs)) _ _:=.step o (s:=s) (rs:=rs) (by simp only[aU,if_true]) (.refl _ _)
 obtain⟨E1,k1,k2,k3⟩:=hz.sound hW
 rw[ayB] at k1 k2
 have hlen:=hvs.len
 have hvs1:eD E1 (args.map (PV.frz o s rs)) vs.toList:=by
  refine eD.of _ _ (by rw[baF]; exact hlen) fun i p u hp hu=>?_
  have:=k3 (fun i=>(vs.toList[i]?).getD undef) (fun j q hj=>by
   have hjl:=(bbR.1 hj).1
   have hjv:j<vs.toList.length:=by omega
   simp only[baQ hjv,bcX]
   exact hvs.at_ j q _ hj (baQ hjv)) i p (by rw[rF,args_at,← bbU]; exact hp)
  simp only[hu,bcX] at this
  exact this
 refine (h.2 E1 w vs (k2.env.num.trans hN) k1 hvs1).mono fun e w' he=>?_
 obtain⟨u,pv,E2,H2,rfl,hW2,hr,hE,rfl,rfl⟩:=he
 have hblk:∀ b,b<w.heap.size→w'.heap[b]?=w.heap[b]?:=fun b hb=>hE.block b hb rfl
 refine⟨u,pv,E,_,rfl,hW.same hE.size (fun b hb _=>hblk b hb) (fun q x hq=>hblk q (hW.h q x hq).1),hv.rep hr,⟨.refl E,hE.os,hE.tape,hE.output,hE.size,fun b hb _=>hblk b hb,fun q x hq=>.inl ⟨x,hq⟩,fun b cs hb=>.inl hb⟩,rfl,rfl⟩
theorem aOF {Hs:PH} {S:Spec} {name o:Nat} {rs:List (List PV)} {vs:List PV} {R:PH→PV→PH→Prop} {args:List aM} {st:Bool} {d:Option Nat} {K:PF→PH→Prop} (hS:S name vs=some ([o],R)) (hv:Plain v) (ho:H o=some (.rows s rs))
  (h:aJ C name (vs.map (PV.frz o s rs)) .nil (aK v)) (hR1:R (PH.nil.set o (.rows s rs)) v (PH.nil.set o (.rows s rs))) (hR2:∀ r H',R (PH.nil.set o (.rows s rs)) r H'→r=v∧H'=PH.nil.set o (.rows s rs)) (ha:aM.evs F args=some vs) (hle:Hs.le H) (hk:K (F.put d v) H) :
  dOp C Hs S st (.call name args) d K F H:=NJ hS ho (h.a6H hv) hR1 hR2 ha hle hk
theorem ahM {name t:Nat} {R:PV→PH→Prop} {d:Option Nat} {K:PF→PH→Prop} (h:aJ C name [.sl s rows] .nil R) (hO:bA H s v rows) (ht:F t=some v)
  (hK:∀ (F1:PF) (H1:PH),(∀ i u,F i=some u→Pure u→F1 i=some u)→∀ r H',R r H'→kZ H1 .nil H'→K (F1.put d r) (H1.over .nil H')):gT C name [.tmp t] [] d K F H:=by
 rcases hO with ⟨rfl,rfl⟩ | ⟨q,rs,rfl,h1,h2,h3⟩
 ·exact .inl ⟨[.nils],.nil,R,by rw[zL,RJ,ht,JN]; rfl,PH.nil_le,h.aHB (.inl ⟨rfl,rfl⟩),hK F H fun i u hi _=>hi⟩
 ·refine .inr ⟨_,_,.step q h1 (.refl _ _),[.sl s rows],.nil,R,?_,PH.nil_le,h,hK _ _ fun i u hi hp=>?_⟩
  ·simp only[zL,JN,RJ,rF,ht,bbN,yI h2,h3,bbY]
  ·rw[rF,hi,bbN,hp q s rs]
end
end Go.PM
namespace Go.PM
open Go Go.Na
def utF (xs:List Nat) (n:Nat):PF:=((PF.nil.set 0 (aF xs)).set 3 (.int .i64 n))
theorem aSJ {C:Ctx} (xs:List Nat) (hx:Lim xs) (hl:xs.length≤16777216):DC.wp C (aZ WI.res (mD 1 (aE (aG (val xs))))) (PF.args [aF xs]) .nil:=by
 simp -implicitDefEqProofs only[go_sem,γ,reduceCtorEq,DC,avB,avC,WI,baF]
 refine wp_loop (α:=Nat) (fun n=>utF xs n) (fun _=>.nil) (fun n=>n≤xs.length∧∀ j x,n≤j→xs[j]?=some x→x=0) (fun n=>n) xs.length ⟨baJ _,fun j x hj hxj=>?_⟩ ?_ PH.nil_le ?_
 ·rw[bbO hj] at hxj; cases hxj
 ·unfold utF
  (repeat' (first|exact PF.nil_le|refine PF.aA ?_ ?_))<;>first|(simp -implicitDefEqProofs only[go_sem,γ,reduceCtorEq]<;>rfl)|rfl
 rintro n ⟨hn,hz⟩
 have done:(0<n→∀ h:n-1<xs.length,xs[n-1]≠0)→∀ F:PF,(utF xs n).le F→aC.wp C (.seq (.region QQ) .ret) (aZ [.tmp 2] (mD 1 (aE (aG (val xs))))) F .nil:=by
  intro h F hF
  have f0:F 0=some (aF xs):=hF 0 _ (by unfold utF; simp -implicitDefEqProofs only[go_sem,reduceCtorEq])
  have f3:F 3=some (.int .i64 n):=hF 3 _ (by unfold utF; simp -implicitDefEqProofs only[go_sem,reduceCtorEq])
  have ht:xs.take n=aG (val xs):=CF hx hn hz fun x h0 hxj=>by
   rw[baQ (by omega)] at hxj
   injection hxj with hxj
   subst hxj
   exact h h0 (by omega)
  have hc:((n:Nat):Int)≤(xs.length:Nat):=by omega
  simp -implicitDefEqProofs only[go_sem,ν,γ,reduceCtorEq,QQ,f0,f3,baF,hc,or_true,bbG]
  refine eZ (rows:=[]) (src:=aE (aG (val xs))) .nil ?_ ?_ fun v H' ho _=>?_
  ·simp -implicitDefEqProofs only[go_sem]
   rw[← ht,← List.map_take]
  ·unfold roomFor
   rw[bN,← ht,baV]
   simp only[bcL,maxLen]
   omega
  ·exact BW (.inr rfl) (by simpa using ho) rfl
 simp only[aC.wp,go_sem] at done
 simp -implicitDefEqProofs only[go_sem,γ,reduceCtorEq,avA,avD,utF]
 by_cases h0:0<n
 ·have h0':((n:Nat):Int)>0:=by omega
  have hlt:n-1<xs.length:=by omega
  have hat:=bJ xs hlt
  have hw:IntKind.i64.wrap ((n:Int)-1)=((n-1:Nat):Int):=rR (by omega) h0
  simp -implicitDefEqProofs only[go_sem,γ,reduceCtorEq,h0',hw,hat]
  by_cases c:xs[n-1]=0
  ·simp -implicitDefEqProofs only[go_sem,γ,reduceCtorEq,bS (show ((xs[n-1]:Nat):Int)=0 by omega),avE,hw]
   refine aH (n-1) ⟨by omega,fun j x hj hxj=>?_⟩ (by omega) ?_ PH.nil_le
   ·by_cases e:j=n-1
    ·subst e
     rw[baQ hlt] at hxj
     injection hxj with hxj
     omega
    ·exact hz j x (by omega) hxj
   ·(repeat' (first|exact PF.nil_le|refine PF.aA ?_ ?_))<;>first|(simp -implicitDefEqProofs only[go_sem,γ,reduceCtorEq]<;>rfl)|rfl
  ·simp -implicitDefEqProofs only[go_sem,bE (show ((xs[n-1]:Nat):Int)≠0 by omega)]
   exact done (fun _ _=>c) _ (by unfold utF; (repeat' (first|exact PF.nil_le|refine PF.aA ?_ ?_))<;>first|(simp -implicitDefEqProofs only[go_sem,γ,reduceCtorEq]<;>rfl)|rfl)
 ·have h0':¬ ((n:Nat):Int)>0:=by omega
  simp -implicitDefEqProofs only[go_sem,γ,reduceCtorEq,h0']
  exact done (fun h=>absurd h h0) _ (by unfold utF; (repeat' (first|exact PF.nil_le|refine PF.aA ?_ ?_))<;>first|(simp -implicitDefEqProofs only[go_sem,γ,reduceCtorEq]<;>rfl)|rfl)
structure mE (C:Ctx):Prop where
 trimM:∀ xs,Lim xs→xs.length≤16777216→aJ C 38 [aF xs] .nil (mD 1 (aE (aG (val xs))))
theorem mE.trim {C:Ctx} (L:mE C) (xs:List Nat) (hx:Lim xs) (hl:xs.length≤16777216):aJ C 38 [aF xs] .nil (aK (aF (aG (val xs)))):=(L.trimM xs hx hl).freeze
theorem aRY {C:Ctx} (L:mE C) (v:Nat) (hv:v<18446744073709551616):CS.wp C (aZ VZ.res (bW (aF (aG v)))) (PF.args [.int .u64 v]) .nil:=by
 have e1:IntKind.u32.wrap ((v:Nat):Int)=((v%4294967296:Nat):Int):=bV v
 have hd:v/4294967296<4294967296:=by omega
 have e3:IntKind.u32.wrap ((v/4294967296:Nat):Int)=((v/4294967296:Nat):Int):=by rw[bV,bbH hd]
 have hL:Lim [v%4294967296,v/4294967296]:=by
  intro x hx
  simp only[baP,List.mem_nil_iff,or_false] at hx
  rcases hx with rfl | rfl
  ·exact bbM _ (by decide)
  ·exact hd
 have hval:val [v%4294967296,v/4294967296]=v:=by simp only[val,Nat.mul_zero,bcH]; exact Nat.mod_add_div v 4294967296
 have hsh:shift .shr .u64 (v:Int) 32=some (.int .u64 ((v/4294967296:Nat):Int)):=sL
 have hb:(2:Nat)*1≤16777216:=by decide
 simp -implicitDefEqProofs only[go_sem,υ,δ,γ,η,ζ,reduceCtorEq,CS,auS,auT,VZ,e1,hsh,e3,hb]
 have ht:=L.trim [v%4294967296,v/4294967296] hL (by simp)
 rw[hval] at ht
 refine aB ht rfl ?_
 simp -implicitDefEqProofs only[go_sem,γ]
 exact aY (.inr rfl) .nil rfl PH.nil_le ⟨.refl _,rfl⟩
theorem aNB {C:Ctx} (L:mE C) (xs:List Nat) (hx:Lim xs) (hl:xs.length≤16777216):xX.wp C (aZ IW.res (bW (.bool (decide (nl (val xs)>512))))) (PF.args [aF xs]) .nil:=by
 simp -implicitDefEqProofs only[go_sem,reduceCtorEq,xX,agE,agF,IW]
 refine aB (L.trim xs hx hl) rfl ?_
 simp -implicitDefEqProofs only[go_sem,γ,baF,bG]
 refine aS rfl ?_
 rw[decide_eq_decide]
 omega
end Go.PM
namespace Go.PM
open Go Go.Na
theorem aEN {a b:Nat} (h:nl a<nl b):dB a b=-1:=by
 have:a<b:=by
  rcases baU a b with h' | h'
  ·exact h'
  ·have:=fZ h'; omega
 simp[dB,this]
theorem aEM {a b:Nat} (h:nl b<nl a):dB a b=1:=by
 have:b<a:=by
  rcases baU b a with h' | h'
  ·exact h'
  ·have:=fZ h'; omega
 have h2:¬ a<b:=by omega
 simp[dB,this,h2]
def aHL (X Y:List Nat) (i:Int):PF:=(((PF.nil.set 0 (aF X)).set 1 (aF Y)).set 5 (.int .i64 i))
theorem aWO {C:Ctx} (L:mE C) (xs ys:List Nat) (hx:Lim xs) (hy:Lim ys) (lx:xs.length≤16777216) (ly:ys.length≤16777216) :
  IR.wp C (aZ auC.res (aK (.int .i64 (dB (val xs) (val ys))))) (PF.args [aF xs,aF ys]) .nil:=by
 simp -implicitDefEqProofs only[go_sem,reduceCtorEq,IR,aCS,aCT,auC]
 refine aB (L.trim xs hx lx) (by simp -implicitDefEqProofs only[go_sem,γ]<;>rfl) ?_
 simp -implicitDefEqProofs only[go_sem,γ]
 refine aB (L.trim ys hy ly) (by simp -implicitDefEqProofs only[go_sem,γ]<;>rfl) ?_
 have bx:=eK hx
 have by':=eK hy
 simp -implicitDefEqProofs only[go_sem,γ,reduceCtorEq,aCU,baF,bG]
 by_cases c0:nl (val xs)≠nl (val ys)
 ·simp -implicitDefEqProofs only[go_sem,γ,reduceCtorEq,dP (show ((nl (val xs):Nat):Int)≠(nl (val ys):Nat) by omega),aCV]
  by_cases c1:nl (val xs)<nl (val ys)
  ·simp -implicitDefEqProofs only[go_sem,ο,baF,bG,show ((nl (val xs):Nat):Int)<(nl (val ys):Nat) by omega,aCW]
   refine bZ (.inr rfl) (by simp -implicitDefEqProofs only[go_sem,ο,γ,reduceCtorEq]<;>rfl) ?_
   rw[aEN c1]; rfl
  ·simp -implicitDefEqProofs only[go_sem,baF,bG,show ¬ ((nl (val xs):Nat):Int)<(nl (val ys):Nat) by omega,aCX]
   refine bZ (.inr rfl) (by simp -implicitDefEqProofs only[go_sem,γ,reduceCtorEq]<;>rfl) ?_
   rw[aEM (by omega)]; rfl
 replace c0:=Decidable.of_not_not c0
 simp -implicitDefEqProofs only[go_sem,γ,reduceCtorEq,cH (show ((nl (val xs):Nat):Int)=(nl (val ys):Nat) by omega),aCY,baF,bG]
 have ex:=aV (val xs)
 have ey:=aV (val ys)
 have LX:=bB (val xs)
 have LY:=bB (val ys)
 generalize hX:aG (val xs)=X at *
 generalize hY:aG (val ys)=Y at *
 have hlX:X.length=nl (val xs):=by rw[← hX]; rfl
 have hlY:Y.length=nl (val xs):=by rw[c0,← hY]; rfl
 refine wp_loop (α:=Nat) (fun k=>aHL X Y ((k:Int)-1)) (fun _=>.nil) (fun k=>k≤nl (val xs)∧X.drop k=Y.drop k) (fun k=>k) (nl (val xs)) ⟨baJ _,?_⟩ ?_ PH.nil_le ?_
 ·rw[bdL (by omega),bdL (by omega)]
 ·unfold aHL
  (repeat' (first|exact PF.nil_le|refine PF.aA ?_ ?_))<;>first|(simp -implicitDefEqProofs only[go_sem,γ,reduceCtorEq,wrap_i64 (show -9223372036854775808≤((nl (val xs):Nat):Int)-1 by omega) (show ((nl (val xs):Nat):Int)-1≤9223372036854775807 by omega)]<;>rfl)|rfl
 rintro k ⟨hk,hd⟩
 simp -implicitDefEqProofs only[go_sem,γ,reduceCtorEq,auD,aCZ,aHL]
 by_cases h0:0<k
 ·obtain⟨m,rfl⟩:∃ m,k=m+1:=⟨k-1,by omega⟩
  have hz:((m+1:Nat):Int)-1=(m:Int):=by omega
  have hge:(m:Int)≥0:=by omega
  have x1:m<X.length:=by omega
  have y1:m<Y.length:=by omega
  simp -implicitDefEqProofs only[go_sem,hz,hge]
  refine cC .nil eE PH.nil_le ?_
  simp -implicitDefEqProofs only[go_sem,γ,reduceCtorEq,aDA,bJ X x1,bJ Y y1]
  by_cases c3:X[m]<Y[m]
  ·simp -implicitDefEqProofs only[go_sem,ο,show ((X[m]:Nat):Int)<(Y[m]:Nat) by omega,aDB]
   refine bZ (.inr rfl) (by simp -implicitDefEqProofs only[go_sem,ο,γ,reduceCtorEq]<;>rfl) ?_
   have:=RH LX x1 y1 hd c3
   rw[ex,ey] at this
   simp[cU,dB,this]
  ·simp -implicitDefEqProofs only[go_sem,show ¬ ((X[m]:Nat):Int)<(Y[m]:Nat) by omega]
   refine cC .nil eE PH.nil_le ?_
   simp -implicitDefEqProofs only[go_sem,γ,reduceCtorEq,auE,bJ X x1,bJ Y y1]
   by_cases c4:X[m]>Y[m]
   ·simp -implicitDefEqProofs only[go_sem,show ((X[m]:Nat):Int)>(Y[m]:Nat) by omega,auF]
    refine bZ (.inr rfl) (by simp -implicitDefEqProofs only[go_sem,γ,reduceCtorEq]<;>rfl) ?_
    have:=RH LY y1 x1 hd.symm c4
    rw[ex,ey] at this
    have h2:¬ val xs<val ys:=by omega
    simp[cU,dB,this,h2]
   ·simp -implicitDefEqProofs only[go_sem,γ,reduceCtorEq,show ¬ ((X[m]:Nat):Int)>(Y[m]:Nat) by omega,auG]
    refine aH m ⟨by omega,ZE x1 y1 hd (by omega)⟩ (by omega) ?_ PH.nil_le
    (repeat' (first|exact PF.nil_le|refine PF.aA ?_ ?_))<;>first|(simp -implicitDefEqProofs only[go_sem,γ,reduceCtorEq,wrap_i64 (show -9223372036854775808≤(m:Int)-1 by omega) (show (m:Int)-1≤9223372036854775807 by omega)]<;>rfl)|rfl
 ·have:k=0:=by omega
  subst this
  have hz:¬ ((0:Nat):Int)-1≥0:=by decide
  simp -implicitDefEqProofs only[go_sem,hz,auH]
  refine bZ (.inr rfl) (by simp -implicitDefEqProofs only[go_sem,γ,reduceCtorEq]<;>rfl) ?_
  rw[bbG,bbG] at hd
  have:val xs=val ys:=by rw[← ex,← ey,hd]
  simp[cU,dB,this]
theorem vN (n:Nat):(((n:Nat):Int)==0)=decide (n=0):=by
 by_cases h:n=0
 ·subst h; rfl
 ·rw[bE (by omega),decide_eq_false h]
structure aiE (C:Ctx):Prop extends mE C where
 make:∀ v:Nat,v<18446744073709551616→aJ C 35 [.int .u64 v] .nil (aK (aF (aG v)))
 large:∀ xs,Lim xs→xs.length≤16777216→aJ C 41 [aF xs] .nil (aK (.bool (decide (nl (val xs)>512))))
 cmp:∀ xs ys,Lim xs→Lim ys→xs.length≤16777216→ys.length≤16777216→aJ C 32 [aF xs,aF ys] .nil (aK (.int .i64 (dB (val xs) (val ys))))
end Go.PM
namespace Go.PM
open Go Go.Na
def aHP (a b:Nat):PF:=((PF.nil.set 6 (aF (aG a))).set 7 (aF (aG b)))
structure QY (C:Ctx):Prop extends aiE C where
 divide:∀ A B:Nat,B≠0→nl A≤512→nl B≤512→aJ C 39 [aF (aG A),aF (aG B)] .nil (aK (mW A B))
def aFF (a b:Nat):PV:=if eI a b then .tup [aF [],.int .i64 2] else .tup [aF (aG (baG a b)),.int .i64 0]
theorem aWS {C:Ctx} (L:QY C) (a b:List Nat) (ha:Lim a) (hb:Lim b) (la:a.length≤16777216) (lb:b.length≤16777216) :
  IV.wp C (aZ auR.res (bW (aFF (val a) (val b)))) (PF.args [aF a,aF b]) .nil:=by
 unfold aFF
 simp -implicitDefEqProofs only[go_sem,reduceCtorEq,IV,aDJ,aDK,auR]
 refine aB (L.large a ha la) rfl ?_
 by_cases c1:nl (val a)>512
 ·simp -implicitDefEqProofs only[go_sem,γ,c1,YY]
  rw[if_pos (by simp[eI,c1])]
  exact gJ rfl
 simp -implicitDefEqProofs only[go_sem,γ,c1]
 refine aB (L.large b hb lb) rfl ?_
 by_cases c2:nl (val b)>512
 ·simp -implicitDefEqProofs only[go_sem,γ,reduceCtorEq,c2,YY]
  rw[if_pos (by simp[eI,c2])]
  exact gJ rfl
 rw[if_neg (by simp[eI,c1,c2])]
 simp -implicitDefEqProofs only[go_sem,γ,reduceCtorEq,c2,aDL]
 refine aB (L.trim a ha la) rfl ?_
 simp -implicitDefEqProofs only[go_sem,γ]
 refine aB (L.trim b hb lb) rfl ?_
 simp -implicitDefEqProofs only[go_sem,γ]
 refine wp_loop (α:=Nat × Nat) (fun t=>aHP t.1 t.2) (fun _=>.nil) (fun t=>baG t.1 t.2=baG (val a) (val b)∧nl t.1≤512∧nl t.2≤512) (fun t=>t.2) (val a,val b) ⟨rfl,by simp only; omega,by simp only; omega⟩ ?_ PH.nil_le ?_
 ·unfold aHP
  (repeat' (first|exact PF.nil_le|refine PF.aA ?_ ?_))<;>first|(simp -implicitDefEqProofs only[go_sem,γ]<;>rfl)|rfl
 rintro⟨x,y⟩ ⟨hg,hx,hy⟩
 simp only at hg hx hy
 simp -implicitDefEqProofs only[go_sem,γ,aDI,aDM,aHP,bG]
 by_cases c3:y=0
 ·subst c3
  have:¬ ((nl 0:Nat):Int)>0:=by rw[tD]; decide
  simp -implicitDefEqProofs only[go_sem,γ,this,aDP]
  refine aY (vs:=[aF (aG x),.int .i64 0]) (.inr rfl) .nil rfl PH.nil_le ⟨?_,rfl⟩
  rw[← hg,Nat.gcd_zero_right]
  exact .refl _
 ·have h0:nl y≠0:=fun h=>c3 (gZ.1 h)
  have:((nl y:Nat):Int)>0:=by omega
  simp -implicitDefEqProofs only[go_sem,γ,this,aDN]
  refine aB (L.divide x y c3 (by omega) (by omega)) rfl ?_
  simp -implicitDefEqProofs only[go_sem,γ,mW,aDO]
  have hlt:x%y<y:=bbM _ (bcQ c3)
  refine aH (y,x%y) ⟨?_,hy,?_⟩ hlt ?_ PH.nil_le
  ·simp only
   rw[← hg,Nat.gcd_comm y,← Nat.gcd_rec y x,Nat.gcd_comm]
  ·have:=fZ (Nat.le_of_lt hlt)
   simp only; omega
  ·(repeat' (first|exact PF.nil_le|refine PF.aA ?_ ?_))<;>first|(simp -implicitDefEqProofs only[go_sem,γ]<;>rfl)|rfl
theorem aWQ {C:Ctx} (L:QY C) (a b:List Nat) (ha:Lim a) (hb:Lim b) (la:a.length≤16777216) (lb:b.length≤16777216) :
  IS.wp C (aZ udiv.res (bW (jU (val a) (val b)))) (PF.args [aF a,aF b]) .nil:=by
 unfold jU
 simp -implicitDefEqProofs only[go_sem,reduceCtorEq,IS,aDC,aDD,udiv]
 refine aB (L.large a ha la) rfl ?_
 by_cases c1:nl (val a)>512
 ·simp -implicitDefEqProofs only[go_sem,γ,c1,YX]
  rw[if_pos (by simp[eI,c1])]
  exact oE rfl
 simp -implicitDefEqProofs only[go_sem,γ,c1]
 refine aB (L.large b hb lb) rfl ?_
 by_cases c2:nl (val b)>512
 ·simp -implicitDefEqProofs only[go_sem,γ,reduceCtorEq,c2,YX]
  rw[if_pos (by simp[eI,c2])]
  exact oE rfl
 rw[if_neg (by simp[eI,c1,c2])]
 simp -implicitDefEqProofs only[go_sem,γ,reduceCtorEq,c2,aDE]
 refine aB (L.trim b hb lb) rfl ?_
 simp -implicitDefEqProofs only[go_sem,γ,baF,bG,vN,gZ]
 by_cases c3:val b=0
 ·rw[if_pos c3]
  simp -implicitDefEqProofs only[go_sem,decide_eq_true c3,aDF]
  exact oE rfl
 rw[if_neg c3]
 simp -implicitDefEqProofs only[go_sem,reduceCtorEq,decide_eq_false c3,aDG]
 refine aB (L.trim a ha la) rfl ?_
 simp -implicitDefEqProofs only[go_sem,γ]
 refine aB (L.trim b hb lb) rfl ?_
 simp -implicitDefEqProofs only[go_sem]
 refine aB (L.divide (val a) (val b) c3 (by omega) (by omega)) rfl ?_
 simp -implicitDefEqProofs only[go_sem,γ,mW,aDH]
 exact aY (.inr rfl) .nil rfl PH.nil_le ⟨.refl _,rfl⟩
def wH (neg:Bool) (a b:Nat):FV:=(neg&&decide (a/baG a b≠0),a/baG a b,b/baG a b)
structure aiF (C:Ctx):Prop extends QY C where
 gcd:∀ a b,Lim a→Lim b→a.length≤16777216→b.length≤16777216→aJ C 34 [aF a,aF b] .nil (aK (aFF (val a) (val b)))
 div:∀ a b,Lim a→Lim b→a.length≤16777216→b.length≤16777216→aJ C 33 [aF a,aF b] .nil (aK (jU (val a) (val b)))
theorem pG {n:Nat} (h:nl n≤512):(aG n).length≤16777216:=by rw[bG]; omega
theorem aaG:aG 1=[1]:=kT (by decide) (by decide)
theorem SH {n:Nat} (h:n≠0):aG n=n%4294967296::aG (n/4294967296):=oC h
theorem tN {n:Nat} (h:n≠0):(nl n>1∨n%4294967296>1)↔n≠1:=by
 constructor
 ·rintro h1 rfl
  rcases h1 with h1 | h1
  ·rw[nl,aaG] at h1; simp at h1
  ·omega
 ·intro h1
  by_cases c:nl n>1
  ·exact .inl c
  ·have:n<4294967296 ^ 1:=(gB n 1).1 (by omega)
   rw[Nat.pow_one] at this
   rw[bbH this]
   exact .inr (by omega)
theorem aHW {C:Ctx} (L:aiF C) (neg:Bool) (a b:List Nat) (ha:Lim a) (hb:Lim b) (la:a.length≤16777216) (lb:b.length≤16777216) (na:nl (val a)≤512) (nb:nl (val b)≤512) (h0:val b≠0) :
  uI.wp C (aZ zA.res (bW (.agg (wH neg (val a) (val b)).rf.cells))) (PF.args [.bool neg,aF a,aF b]) .nil:=by
 have hg0:baG (val a) (val b)≠0:=fun h=>h0 (Nat.eq_zero_of_gcd_eq_zero_right h)
 have hgb:baG (val a) (val b)≤val b:=Nat.gcd_le_right _ (bcQ h0)
 have ng:nl (baG (val a) (val b))≤512:=bcP (fZ hgb) nb
 have hnb:eI (val a) (val b)=false:=gY na nb
 simp -implicitDefEqProofs only[go_sem,δ,uI,WK,WL,zA]
 refine aP fun o ho=>?_
 simp -implicitDefEqProofs only[go_sem,γ]
 refine aB (L.trim a ha la) rfl ?_
 simp -implicitDefEqProofs only[go_sem,γ]
 refine aB (L.trim b hb lb) rfl ?_
 simp -implicitDefEqProofs only[go_sem,γ,WM,baF,bG,vN,gZ]
 by_cases c1:val a=0
 ·simp -implicitDefEqProofs only[go_sem,υ,δ,γ,η,θ,ζ,decide_eq_true c1,WN]
  have e:(wH neg (val a) (val b)).rf=⟨false,[],[1]⟩:=by
   rw[c1]
   unfold wH FV.rf
   simp[eU,Nat.div_self (bcQ h0),aaG]
  rw[e]
  refine aY (vs:=[.agg [.bool false,.nils,aF [1]]]) (.inr rfl) .nil ?_ PH.nil_le ⟨show Co (.agg _) (.agg _) from CoL.agg (CoL.cons (.refl _) (CoL.cons (.nil 1) (CoL.cons (.refl _) .nil))),rfl⟩
  simp -implicitDefEqProofs only[go_sem,δ,γ]
  rfl
 have hgcd:=L.gcd (aG (val a)) (aG (val b)) (bB _) (bB _) (pG na) (pG nb)
 rw[aV,aV,aFF,hnb] at hgcd
 simp -implicitDefEqProofs only[go_sem,γ,decide_eq_false c1,WO]
 refine aB hgcd rfl ?_
 have fin:∀ x y:Nat,x=val a/baG (val a) (val b)→y=val b/baG (val a) (val b)→∀ (F:PF) (H:PH),F 0=some (.bool neg)→F 1=some (aF (aG x))→F 2=some (aF (aG y))→F 6=some (.ptr o 3 0 0)→H o=some (.rows 3 [[.bool false,.nils,.nils]]) →
   aC.wp C (.seq (.region sR) .ret) (aZ [.cell 6 (some 3)] (bW (.agg (wH neg (val a) (val b)).rf.cells))) F H:=by
  intro x y hx hy F H f0 f1 f2 f6 hH
  subst hx; subst hy
  simp -implicitDefEqProofs only[go_sem,δ,γ,θ,sR,f0,f1,f2,f6,hH]
  have hq:val a/baG (val a) (val b)≠0:=by
   have:=Nat.div_pos (Nat.gcd_le_left (val b) (bcQ c1)) (bcQ hg0)
   omega
  have e:(wH neg (val a) (val b)).rf=⟨neg,aG (val a/baG (val a) (val b)),aG (val b/baG (val a) (val b))⟩:=by
   unfold wH FV.rf
   simp only[hq,ne_eq,not_false_eq_true,decide_true,bcY]
  rw[e]
  refine aY (vs:=[.agg (eS neg (aG (val a/baG (val a) (val b))) (aG (val b/baG (val a) (val b))))]) (.inr rfl) .nil ?_ PH.nil_le ⟨.refl _,rfl⟩
  simp -implicitDefEqProofs only[go_sem,δ,γ,f6]
 simp only[aC.wp,go_sem] at fin
 have hd:=fun x (hx:nl x≤512)=>L.div (aG x) (aG (baG (val a) (val b))) (bB _) (bB _) (pG hx) (pG ng)
 simp only[aV,jU] at hd
 have tail:baG (val a) (val b)≠1→∀ (F:PF) (H:PH),F 0=some (.bool neg)→F 1=some (aF (aG (val a)))→F 2=some (aF (aG (val b)))→F 6=some (.ptr o 3 0 0)→F 7=some (aF (aG (baG (val a) (val b))))→H o=some (.rows 3 [[.bool false,.nils,.nils]]) →
   aC.wp C (.seq (.seq (.region DE) (.region DF)) (.seq (.region sR) .ret)) (aZ [.cell 6 (some 3)] (bW (.agg (wH neg (val a) (val b)).rf.cells))) F H:=by
  intro _ F H f0 f1 f2 f6 f7 hH
  have d1:=hd (val a) na
  have d2:=hd (val b) nb
  rw[gY na ng,if_neg hg0] at d1
  rw[gY nb ng,if_neg hg0] at d2
  simp -implicitDefEqProofs only[go_sem,γ,DE,f1,f7]
  refine aB d1 rfl ?_
  simp -implicitDefEqProofs only[go_sem,γ,Bool.false_eq_true,DF,f2,f7]
  refine aB d2 rfl ?_
  simp -implicitDefEqProofs only[go_sem,γ,Bool.false_eq_true]
  exact fin _ _ rfl rfl _ _ (by simp -implicitDefEqProofs only[go_sem,reduceCtorEq,f0]) rfl rfl (by simp -implicitDefEqProofs only[go_sem,γ,f6]) hH
 simp only[aC.wp,go_sem] at tail
 simp -implicitDefEqProofs only[go_sem,γ,Bool.false_eq_true,WP,baF,bG]
 by_cases c2:nl (baG (val a) (val b))>1
 ·have c2':((nl (baG (val a) (val b)):Nat):Int)>1:=by omega
  simp -implicitDefEqProofs only[go_sem,γ,c2']
  exact tail ((tN hg0).1 (.inl c2)) _ _ rfl rfl rfl rfl rfl (by simp -implicitDefEqProofs only[go_sem])
 ·have c2':¬ ((nl (baG (val a) (val b)):Nat):Int)>1:=by omega
  simp -implicitDefEqProofs only[go_sem,ν,γ,reduceCtorEq,c2',SH hg0]
  by_cases c3:baG (val a) (val b)%4294967296>1
  ·have c3':((baG (val a) (val b)%4294967296:Nat):Int)>1:=by omega
   simp -implicitDefEqProofs only[go_sem,c3']
   exact tail ((tN hg0).1 (.inr c3)) _ _ rfl rfl rfl rfl (by simp -implicitDefEqProofs only[go_sem,γ,SH hg0]) (by simp -implicitDefEqProofs only[go_sem])
  ·have c3':¬ ((baG (val a) (val b)%4294967296:Nat):Int)>1:=by omega
   have h1:baG (val a) (val b)=1:=by
    rcases Decidable.em (baG (val a) (val b)=1) with h | h
    ·exact h
    ·rcases (tN hg0).2 h with h | h
     ·exact absurd h c2
     ·exact absurd h c3
   simp -implicitDefEqProofs only[go_sem,c3']
   exact fin (val a) (val b) (by rw[h1,Nat.div_one]) (by rw[h1,Nat.div_one]) _ _ rfl rfl rfl rfl (by simp -implicitDefEqProofs only[go_sem])
end Go.PM
namespace Go.PM
open Go Go.Na
theorem aSP {C:Ctx} (v:Int) (h1:-9223372036854775808≤v) (h2:v≤9223372036854775807) :
  DH.wp C (aZ WR.res (aK (.int .u64 (v.natAbs:Nat)))) (PF.args [.int .i64 v]) .nil:=by
 simp -implicitDefEqProofs only[go_sem,γ,reduceCtorEq,DH,avL,avM,WR]
 by_cases c:v<0
 ·have e1:IntKind.i64.wrap (v+1)=v+1:=wrap_i64 (by omega) (by omega)
  have e2:IntKind.i64.wrap (0-(v+1))=-(v+1):=by rw[wrap_i64 (by omega) (by omega)]; omega
  have e3:IntKind.u64.wrap (IntKind.u64.wrap (-(v+1))+1)=((v.natAbs:Nat):Int):=by
   rw[eQ,eQ]; omega
  simp -implicitDefEqProofs only[go_sem,γ,reduceCtorEq,c,avN,e1,e2,e3]
  refine bZ (.inr rfl) rfl ?_
  rfl
 ·have e:IntKind.u64.wrap v=((v.natAbs:Nat):Int):=by
   rw[eQ]; omega
  simp -implicitDefEqProofs only[go_sem,γ,reduceCtorEq,c,avO,e]
  refine bZ (.inr rfl) rfl ?_
  rfl
structure aDY (C:Ctx):Prop extends aiF C where
 lowest:∀ neg a b,Lim a→Lim b→a.length≤16777216→b.length≤16777216→nl (val a)≤512→nl (val b)≤512→val b≠0→aJ C 58 [.bool neg,aF a,aF b] .nil (aK (.agg (wH neg (val a) (val b)).rf.cells))
 size:∀ v:Int,dQ v→aJ C 59 [.int .i64 v] .nil (aK (.int .u64 (v.natAbs:Nat)))
def mkT (n d:Int):RF:=(wH (decide (n<0) != decide (d<0)) n.natAbs d.natAbs).rf
def rP (n d:Int):PV:=if d=0 then uN 3 else .tup [.agg (mkT n d).cells,.int .i64 0]
theorem aSN {C:Ctx} (L:aDY C) (n d:Int) (h1:dQ n) (h2:dQ d) :
  DG.wp C (aZ KO.res (bW (rP n d))) (PF.args [.int .i64 n,.int .i64 d]) .nil:=by
 simp -implicitDefEqProofs only[go_sem,δ,DG,avH,avI]
 refine aP fun o ho=>?_
 unfold rP
 by_cases c:d=0
 ·subst c
  simp -implicitDefEqProofs only[go_sem,ρ,δ,γ,avJ]
  refine kK ?_
  simp -implicitDefEqProofs only[go_sem,δ,γ,KO]
 ·rw[if_neg c]
  simp -implicitDefEqProofs only[go_sem,γ,reduceCtorEq,bE c,avK]
  refine aB (L.size n h1) rfl ?_
  simp -implicitDefEqProofs only[go_sem]
  refine aB (L.make n.natAbs (by omega)) rfl ?_
  simp -implicitDefEqProofs only[go_sem,γ]
  refine aB (L.size d h2) rfl ?_
  simp -implicitDefEqProofs only[go_sem]
  refine aB (L.make d.natAbs (by omega)) rfl ?_
  simp -implicitDefEqProofs only[go_sem]
  have n1:nl n.natAbs≤2:=lP (by omega)
  have n2:nl d.natAbs≤2:=lP (by omega)
  have low:=L.lowest (decide (n<0) != decide (d<0)) (aG n.natAbs) (aG d.natAbs) (bB _) (bB _) (by rw[bG]; omega) (by rw[bG]; omega)
  rw[aV,aV] at low
  have low:=low (by omega) (by omega) (by omega)
  refine aB low rfl ?_
  simp -implicitDefEqProofs only[go_sem,δ,γ]
  exact aY (.inr rfl) .nil (vs:=[.agg (mkT n d).cells,.int .i64 0]) (by simp -implicitDefEqProofs only[go_sem,δ,γ,KO]; rfl) PH.nil_le ⟨.refl _,rfl⟩
structure aiG (C:Ctx):Prop extends aDY C where
 fmk:∀ n d:Int,dQ n→dQ d→aJ C 50 [.int .i64 n,.int .i64 d] .nil (aK (rP n d))
theorem aXL {C:Ctx} (L:aiG C) (n:Int) (h1:dQ n) :
  JI.wp C (aZ avG.res (bW (.agg (mkT n 1).cells))) (PF.args [.int .i64 n]) .nil:=by
 simp -implicitDefEqProofs only[go_sem,δ,JI,aDT,aDU,avG]
 refine aP fun o ho=>?_
 simp -implicitDefEqProofs only[go_sem,reduceCtorEq]
 refine aB (L.fmk n 1 h1 (by unfold dQ; omega)) rfl ?_
 unfold rP
 rw[if_neg (by decide)]
 simp -implicitDefEqProofs only[go_sem,δ,γ]
 refine aP fun p hp=>?_
 have hne:o≠p:=by
  rintro rfl
  simp only[aU,if_true] at hp
  cases hp
 have hne':p≠o:=fun h=>hne h.symm
 simp -implicitDefEqProofs only[go_sem,δ,γ,hne,aDV]
 refine aY (vs:=[.agg (mkT n 1).cells]) (.inr rfl) .nil ?_ PH.nil_le ⟨.refl _,rfl⟩
 simp -implicitDefEqProofs only[go_sem,δ,γ,hne']
end Go.PM
namespace Go.PM
open Go Go.Na
structure oN (C:Ctx):Prop extends ahN C where
 inn:∀ n lo hi:Int,aJ C 104 [.int .i64 n,.int .i64 lo,.int .i64 hi] .nil (aK (.bool (within n lo hi)))
 lC:∀ x:RF,x.Ok→aJ C 97 [.agg x.cells] .nil (aK (.bool (bP x)))
 lim:∀ x:RF,x.Ok→aJ C 105 [.agg x.cells] .nil (aK (.bool (fB x)))
 one:∀ x:RF,x.Ok→aJ C 101 [.agg x.cells] .nil (aK (.bool (QC x)))
 allf:∀ (p:RF→Bool) (fn:Nat) (l:List RF),Fits l→(∀ x∈l,aJ C fn [.agg x.cells] .nil (aK (.bool (p x))))→aJ C 99 [frs l,.fn fn []] .nil (aK (.bool (l.all p)))
 alli:∀ (p:Int→Bool) (fn:Nat) (l:List Int),Fits l→(∀ x∈l,aJ C fn [.int .i64 x] .nil (aK (.bool (p x))))→aJ C 100 [ints l,.fn fn []] .nil (aK (.bool (l.all p)))
 allb:∀ (p:Bool→Bool) (fn:Nat) (l:List Bool),Fits l→(∀ x∈l,aJ C fn [.bool x] .nil (aK (.bool (p x))))→aJ C 98 [aEI l,.fn fn []] .nil (aK (.bool (l.all p)))
 ends1:∀ b:Bool,aJ C 103 [.bool b] .nil (aK (.bool b))
 num1:∀ n:Int,aJ C 107 [.int .i64 n] .nil (aK (.bool (within n 0 8)))
 rate1:∀ x:RF,x.Ok→aJ C 109 [.agg x.cells] .nil (aK (.bool (fB x&&bP x)))
 name:∀ s:List UInt8,aJ C 123 [.str s] .nil (aK (.bool (isName s)))
theorem oN.aPQ {C:Ctx} (L:oN C) (l:List RF) (h:pR l):aJ C 99 [frs l,.fn 105 []] .nil (aK (.bool (l.all fB))) :=
 L.allf fB 105 l h.fits fun x hx=>L.lim x (h.all x hx)
theorem within_iff {n lo hi:Int}:within n lo hi=true↔lo≤n∧n≤hi:=by simp[within]
theorem aUD {C:Ctx} (L:oN C) (p:cJ) (hp:p.Ok) :
  EY.wp C (aZ alF.res (bW (.bool (QA p)))) (PF.args [.int .i64 p.k,.int .i64 p.m,.int .i64 p.quorum,.agg [.int .i64 p.s0,.int .i64 p.s1,.int .i64 p.s2,.int .i64 p.s3,.int .i64 p.s4]]) .nil:=by
 simp -implicitDefEqProofs only[go_sem,reduceCtorEq,EY,azB,azC,alF]
 refine aB (L.inn p.k 1 6) rfl ?_
 unfold QA
 cases h1:within p.k 1 6 with
 | false =>
  simp -implicitDefEqProofs only[go_sem,γ,baZ,tA]
  exact aS rfl (by simp only[baT])
 | true =>
  obtain⟨k1,k2⟩:=within_iff.1 h1
  simp -implicitDefEqProofs only[go_sem,γ,baM]
  refine aB (L.inn p.m 0 4) rfl ?_
  cases h2:within p.m 0 4 with
  | false =>
   simp -implicitDefEqProofs only[go_sem,γ,reduceCtorEq,baZ,tA]
   exact aS rfl (by simp only[baT,bbV])
  | true =>
   obtain⟨m1,m2⟩:=within_iff.1 h2
   have hw:IntKind.i64.wrap (p.k+p.m)=p.k+p.m:=wrap_i64 (by omega) (by omega)
   by_cases h3:p.k+p.m≤8
   ·have h3':¬ p.k+p.m>8:=by omega
    simp -implicitDefEqProofs only[go_sem,γ,reduceCtorEq,baM,hw,h3']
    refine aB (L.inn p.quorum p.k (p.k+p.m)) rfl ?_
    cases h4:within p.quorum p.k (p.k+p.m) with
    | false =>
     simp -implicitDefEqProofs only[go_sem,γ,reduceCtorEq,baZ,tA]
     exact aS rfl (by simp only[baT,bbV])
    | true =>
     have h50:(0:Int)<((5:Nat):Int):=by decide
     by_cases h5:p.s0=0
     ·have hch:chunks 1 5 [PV.int .i64 p.s0,.int .i64 p.s1,.int .i64 p.s2,.int .i64 p.s3,.int .i64 p.s4]=([p.s0,p.s1,p.s2,p.s3,p.s4].map fun n=>[PV.int .i64 n]):=rfl
      have hm:5≤maxLen:=by decide
      simp -implicitDefEqProofs only[go_sem,ν,δ,γ,η,θ,ζ,reduceCtorEq,baM,h50,cH h5,azD,hch,hm]
      refine aB (L.alli (fun n=>within n 0 8) 107 [p.s0,p.s1,p.s2,p.s3,p.s4] (show 5≤9223372036854775807 by decide) fun x _=>L.num1 x) rfl ?_
      simp -implicitDefEqProofs only[go_sem,γ]
      exact aS rfl (by rw[decide_eq_true h3,decide_eq_true h5]; simp only[bbC])
     ·simp -implicitDefEqProofs only[go_sem,ν,δ,γ,θ,ζ,reduceCtorEq,baM,h50,dP h5,tA]
      exact aS rfl (by rw[decide_eq_false h5]; simp only[baT,bbV])
   ·have h3':p.k+p.m>8:=by omega
    simp -implicitDefEqProofs only[go_sem,γ,reduceCtorEq,baM,hw,h3',tA]
    exact aS rfl (by rw[decide_eq_false h3]; simp only[baT,bbV])
theorem max_eq (a b:Int):(if a<b then b else a)=max a b:=by
 rw[Int.max_def]
 by_cases h:a<b
 ·rw[if_pos h,if_pos (by omega)]
 ·by_cases h':a≤b
  ·rw[if_neg h,if_pos h']; omega
  ·rw[if_neg h,if_neg h']
theorem aPE {C:Ctx} (L:oN C) (p:cJ) (hp:p.Ok) :
  AA.wp C (aZ SF.res (bW (.bool (KJ p)))) (PF.args [.int .i64 p.m,frs p.repair,.agg p.target.cells,.agg p.horizon.cells]) .nil:=by
 simp -implicitDefEqProofs only[go_sem,γ,reduceCtorEq,AA,alM,alN,SF,max_eq,baF]
 unfold KJ
 by_cases h1:(p.repair.length:Int)=max p.m 1
 ·simp -implicitDefEqProofs only[go_sem,γ,bS h1]
  refine aB (L.allf (fun x=>fB x&&bP x) 109 p.repair hp.repair.fits fun x hx=>L.rate1 x (hp.repair.all x hx)) rfl ?_
  rw[decide_eq_true h1,bbC]
  cases h2:p.repair.all fun x=>fB x&&bP x with
  | false =>
   simp -implicitDefEqProofs only[go_sem,γ,reduceCtorEq]
   exact aS rfl rfl
  | true =>
   simp -implicitDefEqProofs only[go_sem,δ,γ]
   refine aB (L.lim _ hp.target) rfl ?_
   cases h3:fB p.target with
   | false =>
    simp -implicitDefEqProofs only[go_sem,γ,reduceCtorEq]
    exact aS rfl rfl
   | true =>
    simp -implicitDefEqProofs only[go_sem,δ,γ]
    refine aB (L.one _ hp.target) rfl ?_
    cases h4:QC p.target with
    | false =>
     simp -implicitDefEqProofs only[go_sem,γ,reduceCtorEq]
     exact aS rfl rfl
    | true =>
     simp -implicitDefEqProofs only[go_sem,δ,γ]
     refine aB (L.lim _ hp.horizon) rfl ?_
     simp -implicitDefEqProofs only[go_sem,γ]
     exact aS rfl rfl
 ·simp -implicitDefEqProofs only[go_sem,γ,reduceCtorEq,bE h1]
  exact aS rfl (by rw[decide_eq_false h1]; rfl)
def mR (l:List (List UInt8)) (k:List KS):Option PV:=match k with
 | [.str s]=>if l.contains s then some (.bool true) else none
 | _=>none
theorem aLT (l:List (List UInt8)) (s:List UInt8):(fun k=>if k=[KS.str s] then some (PV.bool true) else mR l k)=mR (l++[s]):=by
 funext k
 match k with
 | []=>rfl
 | [.int a b]=>simp[mR]
 | [.bool a]=>simp[mR]
 | [.str t] =>
  by_cases h:t=s
  ·subst h; simp[mR]
  ·simp[mR,h]
 | a::b::c=>simp[mR]
end Go.PM
namespace Go.PM
open Go Go.Na
abbrev texts (l:List (List UInt8)):PV:=.sl 1 (l.map fun s=>[PV.str s])
theorem aLS:mR []=(fun _=>none:jC):=by
 funext k
 match k with
 | []=>rfl
 | [.int a b]=>rfl
 | [.bool a]=>rfl
 | [.str t]=>rfl
 | a::b::c=>cases a<;>rfl
theorem aLU (l:List (List UInt8)) (s:List UInt8):jC.upd (mR l) [KS.str s] (.bool true)=mR (l++[s]):=aLT l s
theorem arW (l:List (List UInt8)) (s:List UInt8):(mR l [KS.str s]).getD (.bool false)=.bool (l.contains s):=by
 show (if l.contains s then some (PV.bool true) else none).getD (.bool false)=_
 cases l.contains s<;>rfl
theorem YQ {p:Nat→Bool} {k:Nat} (h:(baW k).all p=true) (hp:p k=true):(baW (k+1)).all p=true:=by
 rw[List.range_succ,List.all_append,h]; simp[hp]
theorem dL {p:Nat→Bool} {n k:Nat} (hk:k<n) (hp:p k=false):(baW n).all p=false:=by
 rw[List.all_eq_false]
 exact⟨k,bcF.2 hk,by simp[hp]⟩
def mC (p:Nat→Bool) (k:Nat):Prop:=(baW k).all p=true
theorem mC.zero {p:Nat→Bool}:mC p 0:=rfl
theorem mC.step {p:Nat→Bool} {k:Nat} (h:mC p k) (hp:p k=true):mC p (k+1):=YQ h hp
def aHQ (l:List (List UInt8)) (o k:Nat):PF:=((((PF.nil.set 3 (.map o)).set 7 (texts l)).set 8 (.int .i64 (l.length:Nat))).set 9 (.int .i64 k))
theorem aPH {C:Ctx} (L:oN C) (l:List (List UInt8)) (hf:Fits l):AB.wp C (aZ SG.res (bW (.bool (distinct l)))) (PF.args [texts l]) .nil:=by
 simp -implicitDefEqProofs only[go_sem,AB,alT,alU,SG]
 refine aP fun o ho=>?_
 simp -implicitDefEqProofs only[go_sem,γ,reduceCtorEq,alV]
 have e0:(PH.nil.set o (.map (false,[.str]) (fun _=>none)))=PH.nil.set o (.map (false,[.str]) (mR (l.take 0))):=by rw[List.take_zero,aLS]
 unfold distinct
 generalize hp:(fun i=>isName (l.getD i [])&&!(l.take i).contains (l.getD i []))=p
 have hpk:∀ k (h:k<l.length),p k=(isName l[k]&&!(l.take k).contains l[k]):=by
  intro k h
  rw[← hp]
  simp only[bbI,baQ h,bcX]
 refine wp_loop (α:=Nat) (fun k=>aHQ l o k) (fun k=>PH.nil.set o (.map (false,[.str]) (mR (l.take k)))) (fun k=>k≤l.length∧mC p k) (fun k=>l.length-k) 0 ⟨baR _,.zero⟩ ?_ ?_ ?_
 ·unfold aHQ
  (repeat' (first|exact PF.nil_le|refine PF.aA ?_ ?_))<;>first|(simp -implicitDefEqProofs only[go_sem,γ,baF]<;>rfl)|rfl
 ·rw[e0]; exact PH.le_refl
 rintro k ⟨hk,ha⟩
 simp -implicitDefEqProofs only[go_sem,γ,alS,alW,aHQ]
 by_cases hlt:k<l.length
 ·have hlt':(k:Int)<(l.length:Nat):=by omega
  have hr:(l.map fun s=>[PV.str s])[k]?=some [.str l[k]]:=by simp[hlt]
  simp -implicitDefEqProofs only[go_sem,γ,hlt',alX,hr,alY]
  refine aB (L.name l[k]) rfl ?_
  have hk2:=hpk k hlt
  cases h1:isName l[k] with
  | false =>
   rw[h1,baT] at hk2
   simp -implicitDefEqProofs only[go_sem,γ,baZ,OA]
   exact aS (b:=false) rfl (dL hlt hk2).symm
  | true =>
   rw[h1,bbC] at hk2
   cases h2:(l.take k).contains l[k] with
   | true =>
    rw[h2] at hk2
    simp -implicitDefEqProofs only[go_sem,γ,reduceCtorEq,baM,arW,h2,OA]
    exact aS (b:=false) rfl (dL hlt hk2).symm
   | false =>
    rw[h2] at hk2
    simp -implicitDefEqProofs only[go_sem,γ,reduceCtorEq,baM,arW,h2,alZ,aLU,amA,aL (show k<9223372036854775807 by omega)]
    refine aH (k+1) ⟨hlt,ha.step hk2⟩ (by omega) ?_ ?_
    ·(repeat' (first|exact PF.nil_le|refine PF.aA ?_ ?_))<;>first|(simp -implicitDefEqProofs only[go_sem,γ]<;>rfl)|rfl
    ·rw[bcO hlt]
     exact PH.aA PH.nil_le (by simp -implicitDefEqProofs only[go_sem])
 ·have hlt':¬ (k:Int)<(l.length:Nat):=by omega
  simp -implicitDefEqProofs only[go_sem,hlt',ZW]
  have:k=l.length:=by omega
  subst this
  exact aS (b:=true) rfl (show mC p l.length from ha).symm
def marks (n:Nat) (l:List Int):List Bool:=(baW n).map fun (i:Nat)=>l.contains (i:Int)
theorem aJW (n:Nat) (l:List Int):(marks n l).length=n:=by simp[marks]
theorem abN (n:Nat):marks n []=baH n false:=by
 refine bcZ (by simp[marks]) fun i h1 h2=>by simp[marks]
theorem OQ {n:Nat} {l:List Int} {m:Int} (h0:0≤m) (h1:m<n):(marks n l)[m.toNat]?=some (l.contains m):=by
 have:m.toNat<n:=by omega
 simp only[marks,bbU,List.getElem?_range this,bbN]
 rw[Int.toNat_of_nonneg h0]
theorem abO {n:Nat} {l:List Int} {m:Int} (h0:0≤m) (h1:m<n):(marks n l).set m.toNat true=marks n (l++[m]):=by
 refine bcZ (by simp[marks]) fun i h2 h3=>?_
 simp only[marks,bbW,List.getElem_range,List.getElem_set,List.contains_append]
 by_cases h:m.toNat=i
 ·subst h
  rw[if_pos rfl,Int.toNat_of_nonneg h0]; simp
 ·have hne:((i:Nat):Int)≠m:=by omega
  rw[if_neg h]; simp[hne]
abbrev eR (l:List Bool):List (List PV):=l.map fun b=>[PV.bool b]
theorem qZ (l:List Bool) (i:Nat) (b:Bool):(eR l).set i [.bool b]=eR (l.set i b):=by unfold eR; rw[List.map_set]
structure aiA (C:Ctx):Prop extends oN C where
 num:∀ p:cJ,p.Ok→aJ C 106 [.int .i64 p.k,.int .i64 p.m,.int .i64 p.quorum,.agg [.int .i64 p.s0,.int .i64 p.s1,.int .i64 p.s2,.int .i64 p.s3,.int .i64 p.s4]] .nil (aK (.bool (QA p)))
 rate:∀ p:cJ,p.Ok→aJ C 108 [.int .i64 p.m,frs p.repair,.agg p.target.cells,.agg p.horizon.cells] .nil (aK (.bool (KJ p)))
 uniq:∀ l:List (List UInt8),Fits l→aJ C 110 [texts l] .nil (aK (.bool (distinct l)))
def aQS (p:cJ) (models:Nat) (o k:Nat):PF:=(((((PF.nil.set 1 (.int .i64 models)).set 5 (.osl o 1 0 models)).set 39 (ints p.models)).set 40 (.int .i64 (p.models.length:Nat))).set 41 (.int .i64 k))
theorem aUH {C:Ctx} (L:aiA C) (p:cJ) (hp:p.Ok) (models:Nat) (hm:models≤4):FA.wp C (aZ alI.res (bW (.bool (gO models p)))) (PF.args [.agg p.cells,.int .i64 models]) .nil:=by
 simp -implicitDefEqProofs only[go_sem,δ,γ,θ,FA,azH,azI,alI]
 refine aB (L.num p hp) rfl ?_
 unfold gO
 cases h1:QA p with
 | false =>
  simp -implicitDefEqProofs only[go_sem,γ,baZ,JW]
  exact aS rfl (by simp only[baT])
 | true =>
  by_cases h2:p.models.length=0
  ·simp -implicitDefEqProofs only[go_sem,δ,γ,θ,reduceCtorEq,baM,baF,bS (show ((p.models.length:Nat):Int)=0 by omega),JW]
   refine aS rfl ?_
   have:decide (p.models.length≠0)=false:=by simp[h2]
   rw[this]; simp only[baT,bbV]
  ·have h2':decide (p.models.length≠0)=true:=by simp[h2]
   simp -implicitDefEqProofs only[go_sem,δ,γ,θ,reduceCtorEq,baM,baF,bE (show ((p.models.length:Nat):Int)≠0 by omega)]
   refine aB (L.rate p hp) rfl ?_
   rw[h2']
   cases h3:KJ p with
   | false =>
    simp -implicitDefEqProofs only[go_sem,γ,reduceCtorEq,baZ,JW]
    exact aS rfl (by simp only[baT,bbV])
   | true =>
    have hb1:((models:Nat):Int)*((1:Nat):Int)≤140737488355328:=by omega
    have hb2:((models:Nat):Int)≤9223372036854775807:=by omega
    simp only[bbC]
    simp -implicitDefEqProofs only[go_sem,γ,reduceCtorEq,baM,azJ,hb1,hb2]
    refine aP fun o ho=>?_
    simp -implicitDefEqProofs only[go_sem,δ,γ,θ,azK]
    have e0:baH models [PV.bool false]=eR (marks models (p.models.take 0)):=by
     rw[List.take_zero,abN]; simp[eR]
    rw[e0]
    generalize hq:(fun j=>within (p.models.getD j 0) 0 ((models:Int)-1)&&!(p.models.take j).contains (p.models.getD j 0))=q
    have hqk:∀ k (h:k<p.models.length),q k=(within p.models[k] 0 ((models:Int)-1)&&!(p.models.take k).contains p.models[k]):=by
     intro k h
     rw[← hq]
     simp only[bbI,baQ h,bcX]
    refine wp_loop (α:=Nat) (fun k=>aQS p models o k) (fun k=>PH.nil.set o (.rows 1 (eR (marks models (p.models.take k))))) (fun k=>k≤p.models.length∧mC q k) (fun k=>p.models.length-k) 0 ⟨baR _,.zero⟩ ?_ (PH.le_refl) ?_
    ·unfold aQS
     (repeat' (first|exact PF.nil_le|refine PF.aA ?_ ?_))<;>first|(simp -implicitDefEqProofs only[go_sem,γ,baF]<;>rfl)|rfl
    rintro k ⟨hk,ha⟩
    simp -implicitDefEqProofs only[go_sem,γ,alJ,azL,aQS]
    have hfit:=hp.models
    by_cases hlt:k<p.models.length
    ·have hlt':(k:Int)<(p.models.length:Nat):=by omega
     have hr:(p.models.map fun n=>[PV.int .i64 n])[k]?=some [.int .i64 p.models[k]]:=by simp[hlt]
     have hw:IntKind.i64.wrap ((models:Int)-1)=(models:Int)-1:=wrap_i64 (by omega) (by omega)
     simp -implicitDefEqProofs only[go_sem,γ,hlt',azM,hr,azN,hw]
     refine aB (L.inn p.models[k] 0 ((models:Int)-1)) rfl ?_
     have hk2:=hqk k hlt
     cases h1:within p.models[k] 0 ((models:Int)-1) with
     | false =>
      rw[h1,baT] at hk2
      simp -implicitDefEqProofs only[go_sem,γ,baZ,XH]
      exact aS (b:=false) rfl (dL hlt hk2).symm
     | true =>
      rw[h1,bbC] at hk2
      obtain⟨i1,i2⟩:=within_iff.1 h1
      have i3:p.models[k]<(models:Nat):=by omega
      have hmk:(eR (marks models (p.models.take k)))[p.models[k].toNat]?=some [.bool ((p.models.take k).contains p.models[k])]:=by
       unfold eR
       rw[bbU,OQ i1 i3]; rfl
      cases h2:(p.models.take k).contains p.models[k] with
      | true =>
       rw[h2] at hk2 hmk
       simp -implicitDefEqProofs only[go_sem,γ,reduceCtorEq,baM,i1,i3,bbF,hmk,XH]
       exact aS (b:=false) rfl (dL hlt hk2).symm
      | false =>
       rw[h2] at hk2 hmk
       simp -implicitDefEqProofs only[go_sem,γ,reduceCtorEq,baM,i1,i3,bbF,hmk,azO,qZ,abO i1 i3,alK,aL (show k<9223372036854775807 by omega)]
       refine aH (k+1) ⟨hlt,ha.step hk2⟩ (by omega) ?_ ?_
       ·(repeat' (first|exact PF.nil_le|refine PF.aA ?_ ?_))<;>first|(simp -implicitDefEqProofs only[go_sem,γ]<;>rfl)|rfl
       ·rw[bcO hlt]
        exact PH.aA PH.nil_le (by simp -implicitDefEqProofs only[go_sem])
    ·have hlt':¬ (k:Int)<(p.models.length:Nat):=by omega
     simp -implicitDefEqProofs only[go_sem,hlt',alL]
     have:k=p.models.length:=by omega
     subst this
     exact aS (b:=true) rfl (show mC q p.models.length from ha).symm
end Go.PM
namespace Go.PM
open Go Go.Na
def aOH:PV→RF
 | .agg [.bool n,a,b]=>⟨n,iP a,iP b⟩
 | _=>⟨false,[],[]⟩
theorem aEP (x:RF):aOH (.agg x.cells)=x:=by
 show (⟨x.neg,iP (aF x.num),iP (aF x.den)⟩:RF)=x
 rw[eF,eF]
def flS:Spec:=fun name vs=>match name,vs with
 | 104,[.int _ n,.int _ lo,.int _ hi]=>some ([],fun _=>aK (.bool (within n lo hi)))
 | 105,[x]=>some ([],fun _=>aK (.bool (fB (aOH x))))
 | 97,[x]=>some ([],fun _=>aK (.bool (bP (aOH x))))
 | _,_=>none
theorem ajH (n lo hi:Int):flS 104 [.int .i64 n,.int .i64 lo,.int .i64 hi]=some ([],fun _=>aK (.bool (within n lo hi))):=rfl
theorem aTR (x:RF):flS 105 [.agg x.cells]=some ([],fun _=>aK (.bool (fB x))):=by
 show some _=_; rw[aEP]
def aFG (f:aI) (t:List cG) (k:Nat):PF:=((((PF.nil.set 1 (.rptr f.cells)).set 45 (.sl 7 (t.map cG.cells))).set 46 (.int .i64 (t.length:Nat))).set 47 (.int .i64 k))
theorem aTX {C:Ctx} (L:oN C) (f:aI) (hf:f.Ok):uP.wp C (aZ XD.res (bW (.bool (lD f)))) (PF.args [.agg f.cells]) .nil:=by
 obtain⟨extent,laws,models,domains,drives,policies,volumes⟩:=f
 cases domains with
 | nil =>
  rw[show lD ⟨extent,laws,models,[],drives,policies,volumes⟩=false from rfl]
  simp -implicitDefEqProofs only[go_sem,δ,γ,θ,uP,XE,XF,XD,bcM,bcL]
  have:(((0:Nat):Int)==0)=true:=rfl
  simp -implicitDefEqProofs only[go_sem,this,ayL]
  exact aS rfl rfl
 | cons r t =>
  generalize hF:(⟨extent,laws,models,r::t,drives,policies,volumes⟩:aI)=f at *
  have hd:f.domains=r::t:=by rw[← hF]
  have hP:lD f=JL f r t:=by unfold lD; rw[hd]
  rw[hP]
  unfold JL
  have hlen:f.domains.length=t.length+1:=by rw[hd]; rfl
  have hfit:=hf.domains
  have hr0:(f.domains.map cG.cells)[0]?=some r.cells:=by rw[hd]; rfl
  have hr0':(f.domains.map cG.cells)[Int.toNat 0]?=some r.cells:=hr0
  have hok:=hf.dom
  have hrok:=hok r (by rw[hd]; exact List.mem_cons_self ..)
  simp -implicitDefEqProofs only[go_sem,ο,ν,δ,γ,θ,uP,XE,XF,XD,baF,hlen,bE (show ((t.length+1:Nat):Int)≠0 by omega),ayM,hr0]
  refine aP fun o ho=>?_
  by_cases c1:r.name=[]
  ·rw[decide_eq_true c1]
   by_cases c2:r.level=0
   ·rw[decide_eq_true c2]
    by_cases c3:r.parent=-1
    ·rw[decide_eq_true c3]
     by_cases c4:r.uplink=0
     ·rw[decide_eq_true c4]
      simp -implicitDefEqProofs only[go_sem,ο,δ,γ,θ,reduceCtorEq,sY,mF c1,baM,cH c2,cH c3,cH c4]
      refine aB (L.lim r.shock hrok.1) rfl ?_
      cases c5:fB r.shock with
      | false =>
       simp -implicitDefEqProofs only[go_sem,γ,reduceCtorEq,baZ,pW]
       exact aS rfl (by simp only[bbV,baT])
      | true =>
       simp -implicitDefEqProofs only[go_sem,δ,γ,reduceCtorEq,baM]
       refine aB (L.lC r.shock hrok.1) rfl ?_
       cases c6:bP r.shock with
       | true =>
        simp -implicitDefEqProofs only[go_sem,γ,reduceCtorEq,pW]
        exact aS rfl (by simp only[baM,bbV,baT])
       | false =>
        have hsl:(0:Int)≤1∧(1:Int)≤((t.length+1:Nat):Int):=by omega
        have hdrop:((f.domains.map cG.cells).take (t.length+1)).drop (Int.toNat 1)=t.map cG.cells:=by
         rw[baS (by simp[hlen]),hd]; rfl
        have hdrop':((f.domains.map cG.cells).take (t.length+1)).drop 1=t.map cG.cells:=hdrop
        simp -implicitDefEqProofs only[go_sem,ν,δ,γ,θ,reduceCtorEq,ayN,baF,hlen,hsl,hdrop',bdD]
        generalize hq:(fun i=>match t[i]? with | some d=>NL f i d | none=>false)=q
        have hqk:∀ k (h:k<t.length),q k=NL f k t[k]:=by
         intro k h
         rw[← hq]
         simp only[baQ h]
        refine wp_loop (α:=Nat) (fun k=>aFG f t k) (fun k=>.nil) (fun k=>k≤t.length∧mC q k) (fun k=>t.length-k) 0 ⟨baR _,.zero⟩ ?_ PH.nil_le ?_
        ·unfold aFG
         (repeat' (first|exact PF.nil_le|refine PF.aA ?_ ?_))<;>first|(simp -implicitDefEqProofs only[go_sem,γ,baF]<;>rfl)|rfl
        rintro k ⟨hk,ha⟩
        simp -implicitDefEqProofs only[go_sem,γ,akS,ayO,aFG]
        by_cases hlt:k<t.length
        ·have hlt':(k:Int)<(t.length:Nat):=by omega
         have hrk:(t.map cG.cells)[k]?=some (t[k]).cells:=by simp[hlt]
         have hdk:=hok t[k] (by rw[hd]; exact List.mem_cons_of_mem _ (baN hlt))
         have hk2:=hqk k hlt
         unfold NL at hk2
         simp -implicitDefEqProofs only[go_sem,δ,γ,hlt',ayP,hrk]
         refine aP fun o2 ho2=>?_
         simp -implicitDefEqProofs only[go_sem,δ,γ]
         refine cC .nil flS PH.nil_le ?_
         simp -implicitDefEqProofs only[go_sem,δ,γ,θ,reduceCtorEq,ayQ]
         refine cN (ajH _ 0 k) (L.inn (t[k]).parent 0 k) rfl PH.nil_le ?_
         cases e1:within (t[k]).parent 0 k with
         | false =>
          simp only[e1,baT] at hk2
          simp -implicitDefEqProofs only[go_sem,γ,baZ,pV]
          exact aS (b:=false) rfl (dL hlt hk2).symm
         | true =>
          obtain⟨i1,i2⟩:=within_iff.1 e1
          have i3:(t[k]).parent.toNat<f.domains.length:=by omega
          have hpr:(f.domains.map cG.cells)[(t[k]).parent.toNat]?=some (f.domains[(t[k]).parent.toNat]).cells:=by simp[i3]
          have hlv:(f.domains.map cG.level).getD (t[k]).parent.toNat 0=(f.domains[(t[k]).parent.toNat]).level:=by simp[i3]
          rw[hlv,e1,bbC] at hk2
          by_cases e2:(f.domains[(t[k]).parent.toNat]).level=IntKind.i64.wrap ((t[k]).level-1)
          ·rw[decide_eq_true e2,bbC] at hk2
           simp -implicitDefEqProofs only[go_sem,δ,γ,θ,reduceCtorEq,baM,i1,hpr,cH e2]
           refine cN (ajH _ 1 4) (L.inn (t[k]).level 1 4) rfl PH.nil_le ?_
           cases e3:within (t[k]).level 1 4 with
           | false =>
            simp only[e3,baT] at hk2
            simp -implicitDefEqProofs only[go_sem,γ,reduceCtorEq,baZ,pV]
            exact aS (b:=false) rfl (dL hlt hk2).symm
           | true =>
            rw[e3,bbC] at hk2
            simp -implicitDefEqProofs only[go_sem,δ,γ,θ,reduceCtorEq,baM]
            refine cN (ajH _ 1 64) (L.inn (t[k]).uplink 1 64) rfl PH.nil_le ?_
            cases e4:within (t[k]).uplink 1 64 with
            | false =>
             simp only[e4,baT] at hk2
             simp -implicitDefEqProofs only[go_sem,γ,reduceCtorEq,baZ,pV]
             exact aS (b:=false) rfl (dL hlt hk2).symm
            | true =>
             rw[e4,bbC] at hk2
             simp -implicitDefEqProofs only[go_sem,δ,γ,reduceCtorEq,baM]
             refine cN (aTR (t[k]).shock) (L.lim _ hdk.1) rfl PH.nil_le ?_
             cases e5:fB (t[k]).shock with
             | false =>
              rw[e5] at hk2
              simp -implicitDefEqProofs only[go_sem,γ,reduceCtorEq,baZ,pV]
              exact aS (b:=false) rfl (dL hlt hk2).symm
             | true =>
              rw[e5] at hk2
              simp -implicitDefEqProofs only[go_sem,γ,reduceCtorEq,baM,akT,aL (show k<9223372036854775807 by omega)]
              refine aH (k+1) ⟨hlt,ha.step hk2⟩ (by omega) ?_ PH.nil_le
              (repeat' (first|exact PF.nil_le|refine PF.aA ?_ ?_))<;>first|(simp -implicitDefEqProofs only[go_sem,γ]<;>rfl)|rfl
          ·simp only[decide_eq_false e2,baT] at hk2
           simp -implicitDefEqProofs only[go_sem,δ,γ,θ,reduceCtorEq,baM,i1,hpr,dP e2,pV]
           exact aS (b:=false) rfl (dL hlt hk2).symm
        ·have hlt':¬ (k:Int)<(t.length:Nat):=by omega
         simp -implicitDefEqProofs only[go_sem,hlt',akU]
         have:k=t.length:=by omega
         subst this
         exact aS (b:=true) rfl (show mC q t.length from ha).symm
     ·simp -implicitDefEqProofs only[go_sem,ο,δ,γ,θ,reduceCtorEq,sY,mF c1,baM,cH c2,cH c3,dP c4,pW]
      exact aS rfl (by rw[decide_eq_false c4]; simp only[bbV,baT])
    ·simp -implicitDefEqProofs only[go_sem,ο,δ,γ,θ,reduceCtorEq,sY,mF c1,baM,cH c2,dP c3,pW]
     exact aS rfl (by rw[decide_eq_false c3]; simp only[bbV,baT])
   ·simp -implicitDefEqProofs only[go_sem,ο,δ,γ,θ,reduceCtorEq,sY,mF c1,baM,dP c2,pW]
    exact aS rfl (by rw[decide_eq_false c2]; simp only[bbV,baT])
  ·simp -implicitDefEqProofs only[go_sem,ο,δ,γ,θ,sY,RC c1,baZ,pW]
   exact aS rfl (by rw[decide_eq_false c1]; simp only[bbV,baT])
end Go.PM
namespace Go.PM
open Go Go.Na
theorem uA (R:List Bool) (i:Nat) (row:List RF):∀ k,(cV R i row k).length=R.length
 | 0=>rfl
 | k+1=>by simp only[cV,bdB,uA R i row k]
theorem arO (l:cI) (R:List Bool) (i:Nat):(iY l R i).length=R.length:=by
 unfold iY; rw[uA,bdB]
theorem qD (l:cI) (R:List Bool):∀ i,(dW l R i).length=R.length
 | 0=>rfl
 | i+1=>by simp only[dW,arO,qD l R i]
theorem UG (l:cI):∀ r,(fH l r).length=l.exit.length
 | 0=>by simp[fH]
 | r+1=>by simp only[fH,qD,UG l r]
theorem NH {R:List Bool} {i:Nat} (h:i<R.length):(eR R)[i]?=some [.bool (R.getD i false)]:=by
 unfold eR
 rw[bbU,baQ h,bbI,baQ h]; rfl
theorem ZC (R:List Bool):(eR R).length=R.length:=by simp[eR]
def JM (l:cI) (o r:Nat):PF:=(((PF.nil.set 1 (.rptr l.cells)).set 3 (.osl o 1 0 l.exit.length)).set 4 (.int .i64 r))
def zK (l:cI) (o r i:Nat):PF:=(((((PF.nil.set 1 (.rptr l.cells)).set 3 (.osl o 1 0 l.exit.length)).set 4 (.int .i64 r)).set 19 (.int .i64 (l.exit.length:Nat))).set 20 (.int .i64 i))
def oX (l:cI) (o r i:Nat) (row:List RF) (k:Nat):PF:=(((((((((PF.nil.set 1 (.rptr l.cells)).set 3 (.osl o 1 0 l.exit.length)).set 4 (.int .i64 r)).set 19 (.int .i64 (l.exit.length:Nat))).set 20 (.int .i64 i)).set 5 (.int .i64 i)).set 42 (frs row)).set 43 (.int .i64 (row.length:Nat))).set 44 (.int .i64 k))
def oY (o:Nat) (R:List Bool):PH:=PH.nil.set o (.rows 1 (eR R))
theorem awB {C:Ctx} (L:oN C) (l:cI) (o r i:Nat) (row:List RF) (hrow:pR row) (hrl:row.length=l.exit.length) (hi:i<l.exit.length) (hn:l.exit.length≤4) (R1:List Bool) (hR:R1.length=l.exit.length) (K:cD) (F:PF) (H:PH)
  (hF:(oX l o r i row 0).le F) (hH:(oY o R1).le H)
  (hK:∀ F H,(oX l o r i row row.length).le F→(oY o (cV R1 i row row.length)).le H→K .normal F H) :
  aC.wp C (.block 4 (.loop uQ)) K F H:=by
 simp -implicitDefEqProofs only[go_sem]
 refine wp_loop (α:=Nat) (fun k=>oX l o r i row k) (fun k=>oY o (cV R1 i row k)) (fun k=>k≤row.length) (fun k=>row.length-k) 0 (baR _) hF hH ?_
 intro k hk
 simp -implicitDefEqProofs only[go_sem,γ,uQ,alB,oX,oY]
 have hlen:=uA R1 i row k
 by_cases hlt:k<row.length
 ·have hlt':(k:Int)<(row.length:Nat):=by omega
  have hr:(row.map RF.cells)[k]?=some (row[k]).cells:=by simp[hlt]
  simp -implicitDefEqProofs only[go_sem,δ,γ,hlt',ZR,hr]
  refine aP fun o7 ho7=>?_
  have n7:o≠o7:=by rintro rfl; simp only[aU,if_true] at ho7; cases ho7
  have hi':(i:Int)<(l.exit.length:Nat):=by omega
  have hk':(k:Int)<(l.exit.length:Nat):=by omega
  have hat:=NH (R:=cV R1 i row k) (i:=i) (by omega)
  have hatk:=NH (R:=cV R1 i row k) (i:=k) (by omega)
  have hstep:cV R1 i row (k+1)=(cV R1 i row k).set i ((cV R1 i row k).getD i false||bP row[k]&&(cV R1 i row k).getD k false):=by
   simp only[cV,bbI,bbU,baQ hlt,bbN,bcX]
  have fin:∀ (b:Bool) (F:PF) (H:PH),b=((cV R1 i row k).getD i false||bP row[k]&&(cV R1 i row k).getD k false)→(oX l o r i row (k+1)).le F→H o=some (.rows 1 ((eR (cV R1 i row k)).set i [.bool b])) →
    fV (fun k=>oX l o r i row k) (fun k=>oY o (cV R1 i row k)) (fun k=>k≤row.length) (fun k=>row.length-k) (row.length-k) (eO 4 K) .normal F H:=by
   intro b F H hb hF hH
   refine aH (k+1) hlt (by omega) hF ?_
   rw[qZ,hb,← hstep] at hH
   exact PH.aA PH.nil_le hH
  unfold oX oY at fin
  generalize hb:(cV R1 i row k).getD i false=b at *
  generalize hc:(cV R1 i row k).getD k false=c at *
  generalize hA:bP row[k]=A at *
  cases b with
  | true =>
   simp -implicitDefEqProofs only[go_sem,δ,γ,EU,n7,hi',bbF,hat,uS,aL (show k<9223372036854775807 by omega)]
   exact fin true _ _ (by simp) (by (repeat' (first|exact PF.nil_le|refine PF.aA ?_ ?_))<;>first|(simp -implicitDefEqProofs only[go_sem,γ]<;>rfl)|rfl) (by simp -implicitDefEqProofs only[go_sem])
  | false =>
   simp -implicitDefEqProofs only[go_sem,δ,γ,EU,n7,hi',bbF,hat]
   refine aB (L.lC _ (hrow.all _ (baN hlt))) rfl ?_
   rw[hA]
   cases A with
   | false =>
    simp -implicitDefEqProofs only[go_sem,γ,reduceCtorEq,hi',hk',n7,bbF,hat,hatk,uS,aL (show k<9223372036854775807 by omega)]
    exact fin false _ _ (by simp) (by (repeat' (first|exact PF.nil_le|refine PF.aA ?_ ?_))<;>first|(simp -implicitDefEqProofs only[go_sem,γ]<;>rfl)|rfl) (by simp -implicitDefEqProofs only[go_sem])
   | true =>
    simp -implicitDefEqProofs only[go_sem,γ,reduceCtorEq,hi',hk',n7,bbF,hat,hatk,uS,aL (show k<9223372036854775807 by omega)]
    exact fin c _ _ (by simp) (by (repeat' (first|exact PF.nil_le|refine PF.aA ?_ ?_))<;>first|(simp -implicitDefEqProofs only[go_sem,γ]<;>rfl)|rfl) (by simp -implicitDefEqProofs only[go_sem])
 ·have hlt':¬ (k:Int)<(row.length:Nat):=by omega
  simp -implicitDefEqProofs only[go_sem,hlt']
  have:k=row.length:=by omega
  subst this
  exact hK _ _ (by unfold oX; (repeat' (first|exact PF.nil_le|refine PF.aA ?_ ?_))<;>first|(simp -implicitDefEqProofs only[go_sem,γ]<;>rfl)|rfl) (PH.le_refl)
structure QU (l:cI):Prop where
 n:l.exit.length≤4
 rates:l.rates.length=l.exit.length
 row:∀ r∈l.rates,r.length=l.exit.length
theorem awC {C:Ctx} (L:oN C) (l:cI) (hl:l.Ok) (he:QU l) (o r:Nat) (R:List Bool) (hR:R.length=l.exit.length) (K:cD) (F:PF) (H:PH)
  (hF:(zK l o r 0).le F) (hH:(oY o R).le H)
  (hK:∀ F H,(JM l o r).le F→(oY o (dW l R l.exit.length)).le H→K .normal F H) :
  aC.wp C (.block 2 (.loop uR)) K F H:=by
 simp -implicitDefEqProofs only[go_sem]
 refine wp_loop (α:=Nat) (fun i=>zK l o r i) (fun i=>oY o (dW l R i)) (fun i=>i≤l.exit.length) (fun i=>l.exit.length-i) 0 (baR _) hF hH ?_
 intro i hi
 have hlen:=qD l R i
 have hn:=he.n
 by_cases hlt:i<l.exit.length
 ·have hlt':(i:Int)<(l.exit.length:Nat):=by omega
  have hir:i<l.rates.length:=by rw[he.rates]; exact hlt
  have hat:=NH (R:=dW l R i) (i:=i) (by omega)
  have hx:(l.exit.map RF.cells)[i]?=some (l.exit[i]).cells:=by simp[hlt]
  have hrow:(l.rates.map fun r=>[frs r])[i]?=some [frs l.rates[i]]:=by simp[hir]
  have hrl:(l.rates[i]).length=l.exit.length:=he.row _ (baN hir)
  generalize hR1:(dW l R i).set i ((dW l R i).getD i false||bP l.exit[i])=R1
  have hR1l:R1.length=l.exit.length:=by rw[← hR1,bdB]; omega
  have hstep:dW l R (i+1)=cV R1 i l.rates[i] (l.rates[i]).length:=by
   simp only[dW,iY]
   have e1:(l.exit.map bP).getD i false=bP l.exit[i]:=by simp[bbI,hlt]
   have e2:l.rates.getD i []=l.rates[i]:=by simp[bbI,hir]
   rw[e1,e2,hR1]
  have rest:∀ (F:PF) (H:PH),(((((((PF.nil.set 1 (.rptr l.cells)).set 3 (.osl o 1 0 l.exit.length)).set 4 (.int .i64 r)).set 19 (.int .i64 (l.exit.length:Nat))).set 20 (.int .i64 i)).set 5 (.int .i64 i)):PF).le F→H o=some (.rows 1 (eR R1)) →
    aC.wp C (.seq (.region NV) (.block 4 (.loop uQ))) (eO 3 (kE C (aC.wp C (.region EV)) (fV (fun i=>zK l o r i) (fun i=>oY o (dW l R i)) (fun i=>i≤l.exit.length) (fun i=>l.exit.length-i) (l.exit.length-i) (eO 2 K)))) F H:=by
   intro F H hF hH
   have f1:F 1=some (.rptr l.cells):=hF 1 _ rfl
   have f3:F 3=some (.osl o 1 0 l.exit.length):=hF 3 _ rfl
   have f4:F 4=some (.int .i64 r):=hF 4 _ rfl
   have f19:F 19=some (.int .i64 (l.exit.length:Nat)):=hF 19 _ rfl
   have f20:F 20=some (.int .i64 i):=hF 20 _ rfl
   have f5:F 5=some (.int .i64 i):=hF 5 _ rfl
   rw[ZA]
   simp -implicitDefEqProofs only[go_sem,δ,γ,θ,NV,f1,f5,hrow,baF]
   have inner:=awB L l o r i l.rates[i] (hl.row _ (baN hir)) hrl hlt hn R1 hR1l
   simp only[aC.wp,go_sem] at inner
   refine inner _ _ _ ?_ (PH.aA PH.nil_le hH) ?_
   ·unfold oX
    repeat' first|exact PF.nil_le|refine PF.aA ?_ ?_|rfl|assumption
   ·intro F' H' hF' hH'
    have g20:F' 20=some (.int .i64 i):=hF' 20 _ (by unfold oX; simp -implicitDefEqProofs only[go_sem,γ])
    simp -implicitDefEqProofs only[go_sem,EV,g20,aL (show i<9223372036854775807 by omega)]
    refine aH (i+1) hlt (by omega) ?_ (by rw[hstep]; exact hH')
    have g:=fun (q:Nat) v h=>hF' q v h
    unfold zK
    unfold oX at g
    refine PF.aA (PF.aA (PF.aA (PF.aA (PF.aA PF.nil_le ?_) ?_) ?_) ?_) ?_
    ·simp -implicitDefEqProofs only[go_sem,γ]; exact g 1 _ rfl
    ·simp -implicitDefEqProofs only[go_sem,γ]; exact g 3 _ rfl
    ·simp -implicitDefEqProofs only[go_sem,γ]; exact g 4 _ rfl
    ·simp -implicitDefEqProofs only[go_sem,γ]; exact g 19 _ rfl
    ·simp -implicitDefEqProofs only[go_sem,γ]
  simp only[aC.wp,go_sem] at rest
  simp -implicitDefEqProofs only[go_sem,γ,uR,NT,zK,oY,hlt',alA]
  generalize hb:(dW l R i).getD i false=b at *
  cases b with
  | true =>
   simp -implicitDefEqProofs only[go_sem,γ,NU,hlt',bbF,hat]
   refine rest _ _ (by (repeat' (first|exact PF.nil_le|refine PF.aA ?_ ?_))<;>first|(simp -implicitDefEqProofs only[go_sem,γ]<;>rfl)|rfl) ?_
   rw[← hR1]
   simp -implicitDefEqProofs only[go_sem,qZ,Bool.true_or]
  | false =>
   simp -implicitDefEqProofs only[go_sem,δ,γ,NU,hlt',bbF,hat,hx]
   refine aB (L.lC _ (hl.exit.all _ (baN hlt))) rfl ?_
   simp -implicitDefEqProofs only[go_sem,γ,reduceCtorEq,hlt',bbF,hat]
   refine rest _ _ (by (repeat' (first|exact PF.nil_le|refine PF.aA ?_ ?_))<;>first|(simp -implicitDefEqProofs only[go_sem,γ]<;>rfl)|rfl) ?_
   rw[← hR1]
   simp -implicitDefEqProofs only[go_sem,qZ,Bool.false_or]
 ·have hlt':¬ (i:Int)<(l.exit.length:Nat):=by omega
  simp -implicitDefEqProofs only[go_sem,γ,uR,NT,zK,oY,hlt']
  have:i=l.exit.length:=by omega
  subst this
  exact hK _ _ (by unfold JM; (repeat' (first|exact PF.nil_le|refine PF.aA ?_ ?_))<;>first|(simp -implicitDefEqProofs only[go_sem,γ]<;>rfl)|rfl) PH.le_refl
theorem aPA {C:Ctx} (L:oN C) (l:cI) (hl:l.Ok) (he:QU l):zW.wp C (aZ SB.res (bW (.bool (oZ l)))) (PF.args [.agg l.cells]) .nil:=by
 have hn:=he.n
 have hb1:((l.exit.length:Nat):Int)*((1:Nat):Int)≤140737488355328:=by omega
 have hb2:((l.exit.length:Nat):Int)≤9223372036854775807:=by omega
 simp -implicitDefEqProofs only[go_sem,γ,zW,akV,akW,SB,baF,hb1,hb2]
 refine aP fun o ho=>?_
 simp -implicitDefEqProofs only[go_sem,γ,akX]
 refine wp_loop (α:=Nat) (fun r=>JM l o r) (fun r=>oY o (fH l r)) (fun r=>r≤l.exit.length+1) (fun r=>l.exit.length+1-r) 0 (baR _) ?_ ?_ ?_
 ·unfold JM
  (repeat' (first|exact PF.nil_le|refine PF.aA ?_ ?_))<;>first|(simp -implicitDefEqProofs only[go_sem,γ]<;>rfl)|rfl
 ·refine PH.aA PH.nil_le ?_
  simp -implicitDefEqProofs only[go_sem,fH]
  simp[eR]
 intro r hr
 have hlen:=UG l r
 simp -implicitDefEqProofs only[go_sem,γ,ZQ,akY,JM,oY]
 by_cases hlt:r≤l.exit.length
 ·have hlt':(r:Int)≤(l.exit.length:Nat):=by omega
  simp -implicitDefEqProofs only[go_sem,γ,hlt',akZ]
  have inner:=awC L l hl he o r (fH l r) hlen
  simp only[aC.wp,go_sem] at inner
  refine inner _ _ _ ?_ PH.le_refl ?_
  ·unfold zK
   (repeat' (first|exact PF.nil_le|refine PF.aA ?_ ?_))<;>first|(simp -implicitDefEqProofs only[go_sem,γ]<;>rfl)|rfl
  ·intro F' H' hF' hH'
   have g:=fun (q:Nat) v h=>hF' q v h
   unfold JM at g
   have g4:F' 4=some (.int .i64 r):=g 4 _ rfl
   simp -implicitDefEqProofs only[go_sem,γ,ZS,g4,aL (show r<9223372036854775807 by omega)]
   refine aH (r+1) (by omega) (by omega) ?_ hH'
   refine PF.aA (PF.aA (PF.aA PF.nil_le ?_) ?_) ?_
   ·simp -implicitDefEqProofs only[go_sem,γ]; exact g 1 _ rfl
   ·simp -implicitDefEqProofs only[go_sem,γ]; exact g 3 _ rfl
   ·simp -implicitDefEqProofs only[go_sem,γ]
 ·have hlt':¬ (r:Int)≤(l.exit.length:Nat):=by omega
  have:r=l.exit.length+1:=by omega
  subst this
  simp -implicitDefEqProofs only[go_sem,γ,hlt',ZT]
  have hcall:=L.allb id 103 (fH l (l.exit.length+1)) (show (fH l (l.exit.length+1)).length≤_ by omega) fun x _=>L.ends1 x
  have hbl:(eR (fH l (l.exit.length+1))).length=l.exit.length:=by rw[ZC,hlen]
  refine nD hcall (rs:=eR (fH l (l.exit.length+1))) (o:=o) (s:=1) (by simp -implicitDefEqProofs only[go_sem]) ?_ ?_
  ·simp -implicitDefEqProofs only[go_sem,γ,yI (show l.exit.length≤(eR (fH l (l.exit.length+1))).length by omega),baS (show (eR (fH l (l.exit.length+1))).length≤l.exit.length by omega)]
  ·simp -implicitDefEqProofs only[go_sem,γ]
   exact aS rfl rfl
end Go.PM
namespace Go.PM
open Go Go.Na
structure QV (C:Ctx):Prop extends aiA C where
 ends:∀ l:cI,l.Ok→QU l→aJ C 102 [.agg l.cells] .nil (aK (.bool (oZ l)))
def HL (l:cI) (i:Nat):Bool:=decide ((l.rates.getD i []).length=l.start.length)&&(l.rates.getD i []).all fB&&!((l.rates.getD i []).map bP).getD i false
def QJ (l:cI):Bool:=match nS (l.start.map RF.v) with
 | .ok (n,a,b)=>decide (tW n a b false 1 1=0)
 | .error _=>false
theorem aUV (l:cI):nO l=(within l.start.length 1 4&&decide (l.exit.length=l.start.length)&&decide (l.rates.length=l.start.length)&&l.start.all fB&&l.exit.all fB&&(baW l.rates.length).all (HL l)&&QJ l&&oZ l):=rfl
theorem aRD {l:List FV} {e:Int} (h:nS l=.error e):e≠0:=by
 have:∀ (l:List FV) (b:FV) (e:Int),l.foldlM gX b=.error e→e≠0:=by
  intro l
  induction l with
  | nil=>intro b e h; cases h
  | cons x t ih =>
   intro b e h
   rw[List.foldlM_cons] at h
   cases hx:gX b x with
   | error e' =>
    rw[hx] at h
    have:e'=e:=by injection h
    subst this
    obtain⟨n1,a1,b1⟩:=b
    obtain⟨n2,a2,b2⟩:=x
    simp only[gX] at hx
    split at hx
    ·split at hx
     ·rw[AN hx]; decide
     ·split at hx
      ·rw[AN hx]; decide
      ·rw[AN hx]; decide
    ·injection hx with hx; subst hx; decide
   | ok y=>rw[hx] at h; exact ih y e h
 exact this l _ e h
theorem aWE {l:List FV} {r:FV} (h:nS l=.ok r):r.rf.Ok:=by
 have:∀ (l:List FV) (b r:FV),b.rf.Ok→l.foldlM gX b=.ok r→r.rf.Ok:=by
  intro l
  induction l with
  | nil=>intro b r hb h; injection h with h; subst h; exact hb
  | cons x t ih =>
   intro b r hb h
   rw[List.foldlM_cons] at h
   cases hx:gX b x with
   | error e'=>rw[hx] at h; cases h
   | ok y=>rw[hx] at h; exact ih y r (awX hx) h
 refine this l _ r ⟨bB _,bB _,?_,?_⟩ h
 ·show (aG 0).length≤_
  rw[eU]; simp
 ·show (aG 1).length≤_
  rw[kT (by decide) (by decide)]; simp
theorem AO {neg:Bool} {a b:Nat} {r:FV} (hb:b≠0) (h:jD neg a b=.ok r):dC r.2.1 r.2.2=true:=by
 unfold jD at h
 split at h
 ·cases h
 ·rename_i hc
  injection h with h
  subst h
  have hg:baG a b ∣ b:=Nat.gcd_dvd_right _ _
  have h0:b/baG a b≠0:=by
   have:=Nat.div_pos (Nat.le_of_dvd (bcQ hb) hg) (bcQ fun h=>hb (Nat.gcd_eq_zero_iff.1 h).2)
   omega
  have h1:=@gG (b/baG a b)
  simp only[dC,bbB,decide_eq_true_eq]
  omega
theorem aEA {x y r:FV} (h:gX x y=.ok r):dC r.2.1 r.2.2=true:=by
 obtain⟨n1,a1,b1⟩:=x
 obtain⟨n2,a2,b2⟩:=y
 simp only[gX] at h
 split at h
 ·rename_i hv
  rw[bbB] at hv
  have h0:b1*b2≠0:=Nat.mul_ne_zero (kN.1 hv.1).1 (kN.1 hv.2).1
  split at h
  ·exact AO h0 h
  ·split at h
   ·exact AO h0 h
   ·exact AO h0 h
 ·cases h
theorem aHU:dC 0 1=true:=by
 have:bY 1=1:=by rw[nJ (by decide),iD]
 simp[dC,this,iD]
theorem aHF {l:List FV} {r:FV} (h:nS l=.ok r):dC r.2.1 r.2.2=true:=by
 have:∀ (l:List FV) (b r:FV),dC b.2.1 b.2.2=true→l.foldlM gX b=.ok r→dC r.2.1 r.2.2=true:=by
  intro l
  induction l with
  | nil=>intro b r hb h; injection h with h; subst h; exact hb
  | cons x t ih =>
   intro b r hb h
   rw[List.foldlM_cons] at h
   cases hx:gX b x with
   | error e'=>rw[hx] at h; cases h
   | ok y=>rw[hx] at h; exact ih y r (aEA hx) h
 exact this l _ r aHU h
theorem aOL:(⟨false,[],[]⟩:RF).Ok:=⟨fun _ h=>absurd h (baY),fun _ h=>absurd h (baY),show 0≤16777216 by decide,show 0≤16777216 by decide⟩
def aPO (l:cI) (k:Nat):PF:=(((((PF.nil.set 1 (.rptr l.cells)).set 3 (.int .i64 (l.start.length:Nat))).set 45 (aHA l.rates)).set 46 (.int .i64 (l.rates.length:Nat))).set 47 (.int .i64 k))
theorem aJC {C:Ctx} (L:QV C) (l:cI) (hl:l.Ok) (he:QU l) (F:PF) (hF:F 1=some (.rptr l.cells)) :
  aC.wp C (.seq (.region NW) (.seq (.region zX) (.seq (.region zY) (.seq (.region pX) .ret)))) (aZ [.tmp 2] (bW (.bool (QJ l&&oZ l)))) F .nil:=by
 simp -implicitDefEqProofs only[go_sem,δ,θ,NW,hF]
 refine aB (L.tot l.start hl.start) rfl ?_
 obtain⟨neg',x,y,e,hs⟩:=JS (nS (l.start.map RF.v))
 have go:∀ (z:RF) (e:Int),z.Ok→(e=0→(uL z.neg (val z.num) (val z.den) false 1 1=.tup [.int .i64 (tW z.neg (val z.num) (val z.den) false 1 1),.int .i64 0])∧QJ l=decide (tW z.neg (val z.num) (val z.den) false 1 1=0))→(e≠0→QJ l=false) →
   frV (nS (l.start.map RF.v))=.tup [.agg z.cells,.int .i64 e] →
   wpOps C [⟨(some 69),.mv (.tmp 72),none⟩,⟨(some 73),.extract (.tmp 69) 0,none⟩,⟨(some 74),.extract (.tmp 69) 1,none⟩,⟨(some 6),.alloc [(.bool false),.nils,.nils],none⟩,⟨none,.store 3 (.tmp 6) (.tmp 73),none⟩,⟨(some 7),.mv (.tmp 74),none⟩]
    (aC.wp C (.seq (.region zX) (.seq (.region zY) (.seq (.region pX) .ret))) (aZ [.tmp 2] (bW (.bool (QJ l&&oZ l))))) ((((F.set 70 (.rptr [frs l.start,aHA l.rates,frs l.exit])).set 71 (frs l.start))).set 72 (.tup [.agg z.cells,.int .i64 e])) .nil:=by
  intro z e hz h0 h1 _
  simp -implicitDefEqProofs only[go_sem,δ,γ]
  refine aP fun o6 ho6=>?_
  simp -implicitDefEqProofs only[go_sem,δ,γ,zX]
  refine aB (L.frac 1 1 (by decide) (by decide)) rfl ?_
  rw[anX]
  simp -implicitDefEqProofs only[go_sem,δ,γ,frV]
  refine aP fun o8 ho8=>?_
  have n8:o6≠o8:=by rintro rfl; simp only[aU,if_true] at ho8; cases ho8
  simp -implicitDefEqProofs only[go_sem,δ,γ,zY,n8]
  refine aB (L.ord z (FV.rf (false,1,1)) hz aLE) rfl ?_
  rw[show val (FV.rf (false,1,1)).num=1 from aV 1,show val (FV.rf (false,1,1)).den=1 from aV 1,show (FV.rf (false,1,1)).neg=false from rfl]
  by_cases c:e=0
  ·obtain⟨g1,g2⟩:=h0 c
   rw[g1,g2]
   by_cases d:tW z.neg (val z.num) (val z.den) false 1 1=0
   ·simp -implicitDefEqProofs only[go_sem,δ,γ,pX,bS c,bS d,hF]
    refine aB (L.ends l hl he) rfl ?_
    simp -implicitDefEqProofs only[go_sem,γ]
    exact aS rfl (by rw[decide_eq_true d,bbC])
   ·simp -implicitDefEqProofs only[go_sem,γ,reduceCtorEq,pX,bS c,bE d]
    exact aS rfl (by rw[decide_eq_false d,baT])
  ·rw[h1 c]
   have:∃ v w,uL z.neg (val z.num) (val z.den) false 1 1=.tup [.int .i64 v,.int .i64 w]:=by
    unfold uL
    split
    ·exact⟨_,_,rfl⟩
    ·exact⟨_,_,rfl⟩
   obtain⟨v,w,hv⟩:=this
   rw[hv]
   simp -implicitDefEqProofs only[go_sem,γ,reduceCtorEq,pX,bE c]
   exact aS rfl rfl
 cases hs':nS (l.start.map RF.v) with
 | error e =>
  rw[hs'] at go
  exact go ⟨false,[],[]⟩ e aOL (fun h=>absurd h (aRD hs')) (fun _=>by rw[QJ,hs']) rfl
 | ok r =>
  obtain⟨n,a,b⟩:=r
  rw[hs'] at go
  have hr:=aWE hs'
  refine go (FV.rf (n,a,b)) 0 hr (fun _=>?_) (fun h=>absurd rfl h) rfl
  rw[show val (FV.rf (n,a,b)).num=a from aV a,show val (FV.rf (n,a,b)).den=b from aV b,show (FV.rf (n,a,b)).neg=n from rfl]
  refine⟨?_,by rw[QJ,hs']⟩
  have hv:dC a b=true:=aHF hs'
  rw[uL,hv,agX]
  rfl
theorem aTZ {C:Ctx} (L:QV C) (l:cI) (hl:l.Ok):EW.wp C (aZ alC.res (bW (.bool (nO l)))) (PF.args [.agg l.cells]) .nil:=by
 rw[aUV]
 simp -implicitDefEqProofs only[go_sem,δ,γ,θ,EW,ayR,ayS,alC,ayT,baF]
 refine aB (L.inn l.start.length 1 4) rfl ?_
 cases c1:within l.start.length 1 4 with
 | false =>
  simp -implicitDefEqProofs only[go_sem,γ,baZ,sZ]
  exact aS rfl (by simp only[baT])
 | true =>
  obtain⟨n1,n2⟩:=within_iff.1 c1
  by_cases c2:l.exit.length=l.start.length
  ·rw[decide_eq_true c2]
   by_cases c3:l.rates.length=l.start.length
   ·rw[decide_eq_true c3]
    simp -implicitDefEqProofs only[go_sem,δ,γ,θ,reduceCtorEq,baM,baF,cH (show ((l.exit.length:Nat):Int)=(l.start.length:Nat) by omega),cH (show ((l.rates.length:Nat):Int)=(l.start.length:Nat) by omega)]
    refine aB (L.aPQ l.start hl.start) rfl ?_
    cases c4:l.start.all fB with
    | false =>
     simp -implicitDefEqProofs only[go_sem,γ,reduceCtorEq,baZ,sZ]
     exact aS rfl (by simp only[baT])
    | true =>
     simp -implicitDefEqProofs only[go_sem,γ,reduceCtorEq,baM]
     refine aB (L.aPQ l.exit hl.exit) rfl ?_
     cases c5:l.exit.all fB with
     | false =>
      simp -implicitDefEqProofs only[go_sem,γ,reduceCtorEq,baZ,sZ]
      exact aS rfl (by simp only[baT])
     | true =>
      simp -implicitDefEqProofs only[go_sem,δ,γ,θ,reduceCtorEq,baM,ayU,baF]
      have hrk:∀ k (h:k<l.rates.length),HL l k=(decide ((l.rates[k]).length=l.start.length)&&(l.rates[k]).all fB&&!((l.rates[k]).map bP).getD k false):=by
       intro k h
       have:l.rates.getD k []=l.rates[k]:=by simp[bbI,h]
       rw[HL,this]
      refine wp_loop (α:=Nat) (fun k=>aPO l k) (fun _=>.nil) (fun k=>k≤l.rates.length∧mC (HL l) k) (fun k=>l.rates.length-k) 0 ⟨baR _,.zero⟩ ?_ PH.nil_le ?_
      ·unfold aPO
       (repeat' (first|exact PF.nil_le|refine PF.aA ?_ ?_))<;>first|(simp -implicitDefEqProofs only[go_sem,γ,baF]<;>rfl)|rfl
      rintro k ⟨hk,ha⟩
      simp -implicitDefEqProofs only[go_sem,γ,alD,ayV,aPO]
      by_cases hlt:k<l.rates.length
      ·have hlt':(k:Int)<(l.rates.length:Nat):=by omega
       have hr:(l.rates.map fun r=>[frs r])[k]?=some [frs l.rates[k]]:=by simp[hlt]
       have hk2:=hrk k hlt
       have hrok:=hl.row l.rates[k] (baN hlt)
       simp -implicitDefEqProofs only[go_sem,γ,hlt',ayW,hr,ayX,baF]
       by_cases d1:(l.rates[k]).length=l.start.length
       ·rw[decide_eq_true d1,bbC] at hk2
        simp -implicitDefEqProofs only[go_sem,γ,cH (show (((l.rates[k]).length:Nat):Int)=(l.start.length:Nat) by omega)]
        refine aB (L.aPQ _ hrok) rfl ?_
        cases d2:(l.rates[k]).all fB with
        | false =>
         rw[d2,baT] at hk2
         simp -implicitDefEqProofs only[go_sem,γ,reduceCtorEq,baZ,JU]
         refine aS (b:=false) rfl ?_
         have:(baW l.rates.length).all (HL l)=false:=dL hlt hk2
         rw[this]; simp only[baT,bbV]
        | true =>
         have hkr:k<(l.rates[k]).length:=by omega
         have hx:((l.rates[k]).map RF.cells)[k]?=some ((l.rates[k])[k]).cells:=by simp[hkr]
         have hab:((l.rates[k]).map bP).getD k false=bP (l.rates[k])[k]:=by simp[bbI,hkr]
         rw[d2,bbC,hab] at hk2
         simp -implicitDefEqProofs only[go_sem,δ,γ,reduceCtorEq,baM,hx]
         refine aB (L.lC _ (hrok.all _ (baN hkr))) rfl ?_
         cases d3:bP (l.rates[k])[k] with
         | true =>
          rw[d3] at hk2
          simp -implicitDefEqProofs only[go_sem,γ,reduceCtorEq,JU]
          refine aS (b:=false) rfl ?_
          have:(baW l.rates.length).all (HL l)=false:=dL hlt hk2
          rw[this]; simp only[baT,bbV]
         | false =>
          rw[d3] at hk2
          simp -implicitDefEqProofs only[go_sem,γ,reduceCtorEq,ayY,aL (show k<9223372036854775807 by omega)]
          refine aH (k+1) ⟨hlt,ha.step hk2⟩ (by omega) ?_ PH.nil_le
          (repeat' (first|exact PF.nil_le|refine PF.aA ?_ ?_))<;>first|(simp -implicitDefEqProofs only[go_sem,γ]<;>rfl)|rfl
       ·simp only[decide_eq_false d1,baT] at hk2
        simp -implicitDefEqProofs only[go_sem,γ,dP (show (((l.rates[k]).length:Nat):Int)≠(l.start.length:Nat) by omega),JU]
        refine aS (b:=false) rfl ?_
        have:(baW l.rates.length).all (HL l)=false:=dL hlt hk2
        rw[this]; simp only[baT,bbV]
      ·have hlt':¬ (k:Int)<(l.rates.length:Nat):=by omega
       have:k=l.rates.length:=by omega
       subst this
       have hall:(baW l.rates.length).all (HL l)=true:=ha
       have he:QU l:=⟨by omega,by omega,fun r hr=>by
        obtain⟨i,hi,rfl⟩:=bbX hr
        have:=bbQ.1 hall i (bcF.2 hi)
        rw[hrk i hi] at this
        simp only[bbB,decide_eq_true_eq] at this
        omega⟩
       have tail:=aJC L l hl he
       simp only[aC.wp,go_sem] at tail
       rw[hall]
       simp -implicitDefEqProofs only[go_sem,hlt',bbC,bcY]
       exact tail _ rfl
   ·simp -implicitDefEqProofs only[go_sem,δ,γ,θ,reduceCtorEq,baM,baF,cH (show ((l.exit.length:Nat):Int)=(l.start.length:Nat) by omega),dP (show ((l.rates.length:Nat):Int)≠(l.start.length:Nat) by omega),sZ]
    exact aS rfl (by rw[decide_eq_false c3]; simp only[baT,bbV])
  ·simp -implicitDefEqProofs only[go_sem,γ,reduceCtorEq,baM,baF,dP (show ((l.exit.length:Nat):Int)≠(l.start.length:Nat) by omega),sZ]
   exact aS rfl (by rw[decide_eq_false c2]; simp only[baT,bbV])
end Go.PM
namespace Go.PM
open Go Go.Na
structure gQ (C:Ctx):Prop extends QV C where
 law:∀ l:cI,l.Ok→aJ C 95 [.agg l.cells] .nil (aK (.bool (nO l)))
 pol:∀ (p:cJ) (n:Nat),p.Ok→n≤4→aJ C 112 [.agg p.cells,.int .i64 n] .nil (aK (.bool (gO n p)))
 doms:∀ f:aI,f.Ok→aJ C 111 [.agg f.cells] .nil (aK (.bool (lD f)))
abbrev dX (l:List (List UInt8)):List (List PV):=l.map fun s=>[PV.str s]
theorem rM (l:List (List UInt8)) {k:Nat} (h:k<l.length):dX (l.take k)++[[.str l[k]]]=dX (l.take (k+1)):=by
 unfold dX
 rw[bcO h,bcA]; rfl
theorem oJ {l:List (List UInt8)} (h:l.length≤1000):roomFor (dX l).length 1 16:=by
 unfold roomFor dX
 simp only[baF,maxLen]; omega
def fQ {α:Type} (l:List α) (p:α→Bool) (k:Nat):Bool:=(l.take k).all p
theorem oT {α:Type} (l:List α) (p:α→Bool):fQ l p 0=true:=rfl
theorem oS {α:Type} (l:List α) (p:α→Bool) {k:Nat} (h:k<l.length):fQ l p (k+1)=(fQ l p k&&p l[k]):=by
 unfold fQ
 rw[bcO h,List.all_append]; simp
theorem qY {α:Type} (l:List α) (p:α→Bool):fQ l p l.length=l.all p:=by unfold fQ; rw[bbP]
def fS (f:aI) (w3 w4 w5 w6 w7:PV) (ok:Bool):PF:=(((((((PF.nil.set 1 (.rptr f.cells)).set 3 (w3)).set 4 (w4)).set 5 (w5)).set 6 (w6)).set 7 (w7)).set 8 (.bool ok))
structure gW (F:PF) (f:aI) (w3 w4 w5 w6 w7:PV) (ok:Bool):Prop where
 a1:F 1=some (.rptr f.cells)
 a3:F 3=some w3
 a4:F 4=some w4
 a5:F 5=some w5
 a6:F 6=some w6
 a7:F 7=some w7
 a8:F 8=some (.bool ok)
theorem aFJ {C:Ctx} (L:gQ C) (f:aI) (hf:f.Ok) (hs:f.laws.length≤4) (w4 w5 w6 w7:PV) (K:cD) (F:PF) (H:PH) (hv:gW F f .nils w4 w5 w6 w7 true)
  (h67:F 67=some (.sl 4 (f.laws.map cI.cells))) (h68:F 68=some (.int .i64 (f.laws.length:Nat))) (h69:F 69=some (.int .i64 0))
  (hK:∀ v F' H',gW F' f v w4 w5 w6 w7 (f.laws.all nO)→bA H' 1 v (dX (f.laws.map cI.name))→K (.exit 0) F' H') :
  aC.wp C (.loop AC) K F H:=by
 refine wp_loop (α:=Nat × PV × PH) (fun t=>(((fS f t.2.1 w4 w5 w6 w7 (fQ f.laws nO t.1)).set 67 (.sl 4 (f.laws.map cI.cells))).set 68 (.int .i64 (f.laws.length:Nat))).set 69 (.int .i64 t.1)) (fun t=>t.2.2)
  (fun t=>t.1≤f.laws.length∧bA t.2.2 1 t.2.1 (dX ((f.laws.map cI.name).take t.1))) (fun t=>f.laws.length-t.1) (0,.nils,.nil) ⟨baR _,.nil⟩ ?_ PH.nil_le ?_
 ·unfold fS
  (repeat' (first|exact PF.nil_le|refine PF.aA ?_ ?_))<;>first|(simp -implicitDefEqProofs only[go_sem,hv.a1,hv.a3,hv.a4,hv.a5,hv.a6,hv.a7,hv.a8,h67,h68,h69,oT]<;>rfl)|rfl
 rintro⟨k,v,H0⟩ ⟨hk,hO⟩
 simp only at hk hO ⊢
 simp -implicitDefEqProofs only[go_sem,γ,AC,azT,fS]
 by_cases hlt:k<f.laws.length
 ·have hlt':(k:Int)<(f.laws.length:Nat):=by omega
  have hr:(f.laws.map cI.cells)[k]?=some (f.laws[k]).cells:=by simp[hlt]
  have hsn:=rM (f.laws.map cI.name) (k:=k) (by simpa using hlt)
  rw[bbW] at hsn
  simp -implicitDefEqProofs only[go_sem,δ,γ,hlt',azU,hr]
  refine aP fun o ho=>?_
  simp -implicitDefEqProofs only[go_sem,υ,δ,γ,η,θ,ζ,azV]
  refine jY hO ho (oJ (by simp; omega)) fun v' H' hO' ho'=>?_
  rw[hsn] at hO'
  have hstep:=oS f.laws nO hlt
  cases hb:fQ f.laws nO k with
  | false =>
   rw[hb,baT] at hstep
   simp -implicitDefEqProofs only[go_sem,γ,reduceCtorEq,XJ,ho',OB,aL (show k<9223372036854775807 by omega)]
   refine aH (k+1,v',H') ⟨hlt,hO'⟩ (by simp only; omega) ?_ PH.le_refl
   simp only[hstep]
   (repeat' (first|exact PF.nil_le|refine PF.aA ?_ ?_))<;>first|(simp -implicitDefEqProofs only[go_sem,γ]<;>rfl)|rfl
  | true =>
   rw[hb,bbC] at hstep
   simp -implicitDefEqProofs only[go_sem,δ,γ,XJ,ho']
   refine aB (L.law _ (hf.law _ (baN hlt))) (by simp -implicitDefEqProofs only[go_sem,γ]<;>rfl) ?_
   simp -implicitDefEqProofs only[go_sem,γ,OB,aL (show k<9223372036854775807 by omega)]
   refine aH (k+1,v',H') ⟨hlt,hO'⟩ (by simp only; omega) ?_ PH.le_refl
   simp only[hstep]
   (repeat' (first|exact PF.nil_le|refine PF.aA ?_ ?_))<;>first|(simp -implicitDefEqProofs only[go_sem,γ]<;>rfl)|rfl
 ·have hlt':¬ (k:Int)<(f.laws.length:Nat):=by omega
  have:k=f.laws.length:=by omega
  subst this
  rw[baS (by simp)] at hO
  rw[qY]
  simp -implicitDefEqProofs only[go_sem,hlt']
  exact hK v _ _ ⟨by simp -implicitDefEqProofs only[go_sem,γ],by simp -implicitDefEqProofs only[go_sem,γ],by simp -implicitDefEqProofs only[go_sem,γ],by simp -implicitDefEqProofs only[go_sem,γ],by simp -implicitDefEqProofs only[go_sem,γ],by simp -implicitDefEqProofs only[go_sem,γ],by simp -implicitDefEqProofs only[go_sem,γ]⟩ hO
theorem vT {n:Nat} (h:n≤1000):IntKind.i64.wrap ((n:Int)-1)=(n:Int)-1:=wrap_i64 (by omega) (by omega)
theorem aFK {C:Ctx} (L:gQ C) (f:aI) (hs:f.models.length≤4) (hl:f.laws.length≤4) (b0:Bool) (w3 w5 w6 w7:PV) (K:cD) (F:PF) (H:PH) (hv:gW F f w3 .nils w5 w6 w7 b0)
  (h67:F 85=some (.sl 4 (f.models.map cQ.cells))) (h68:F 86=some (.int .i64 (f.models.length:Nat))) (h69:F 87=some (.int .i64 0))
  (hK:∀ v F' H',gW F' f w3 v w5 w6 w7 (b0&&f.models.all (jM f))→bA H' 1 v (dX (f.models.map cQ.name))→K (.exit 2) F' H') :
  aC.wp C (.loop AD) K F H:=by
 refine wp_loop (α:=Nat × PV × PH) (fun t=>(((fS f w3 t.2.1 w5 w6 w7 (b0&&fQ f.models (jM f) t.1)).set 85 (.sl 4 (f.models.map cQ.cells))).set 86 (.int .i64 (f.models.length:Nat))).set 87 (.int .i64 t.1)) (fun t=>t.2.2)
  (fun t=>t.1≤f.models.length∧bA t.2.2 1 t.2.1 (dX ((f.models.map cQ.name).take t.1))) (fun t=>f.models.length-t.1) (0,.nils,.nil) ⟨baR _,.nil⟩ ?_ PH.nil_le ?_
 ·unfold fS
  (repeat' (first|exact PF.nil_le|refine PF.aA ?_ ?_))<;>first|(simp -implicitDefEqProofs only[go_sem,hv.a1,hv.a3,hv.a4,hv.a5,hv.a6,hv.a7,hv.a8,h67,h68,h69,oT,bcY]<;>rfl)|rfl
 rintro⟨k,v,H0⟩ ⟨hk,hO⟩
 simp only at hk hO ⊢
 simp -implicitDefEqProofs only[go_sem,γ,AD,amC,fS]
 by_cases hlt:k<f.models.length
 ·have hlt':(k:Int)<(f.models.length:Nat):=by omega
  have hr:(f.models.map cQ.cells)[k]?=some (f.models[k]).cells:=by simp[hlt]
  have hsn:=rM (f.models.map cQ.name) (k:=k) (by simpa using hlt)
  rw[bbW] at hsn
  simp -implicitDefEqProofs only[go_sem,δ,γ,hlt',amD,hr]
  refine aP fun o ho=>?_
  simp -implicitDefEqProofs only[go_sem,υ,δ,γ,η,θ,ζ,amE]
  refine jY hO ho (oJ (by simp; omega)) fun v' H' hO' ho'=>?_
  rw[hsn] at hO'
  have hstep:=oS f.models (jM f) hlt
  have fin:∀ (c:Bool) (F':PF),c=(b0&&fQ f.models (jM f) (k+1))→((((fS f w3 v' w5 w6 w7 c).set 85 (.sl 4 (f.models.map cQ.cells))).set 86 (.int .i64 (f.models.length:Nat))).set 87 (.int .i64 (k+1:Nat))).le F' →
    fV (fun (t:Nat × PV × PH)=>(((fS f w3 t.2.1 w5 w6 w7 (b0&&fQ f.models (jM f) t.1)).set 85 (.sl 4 (f.models.map cQ.cells))).set 86 (.int .i64 (f.models.length:Nat))).set 87 (.int .i64 t.1)) (fun (t:Nat × PV × PH)=>t.2.2)  (fun (t:Nat × PV × PH)=>t.1≤f.models.length∧bA t.2.2 1 t.2.1 (dX ((f.models.map cQ.name).take t.1))) (fun (t:Nat × PV × PH)=>f.models.length-t.1) (f.models.length-k) K .normal F' H':=by
   intro c F' hc hle
   refine aH (α:=Nat × PV × PH) (k+1,v',H') ⟨hlt,hO'⟩ (by simp only; omega) ?_ PH.le_refl
   rw[hc] at hle
   exact hle
  unfold fS at fin
  rw[hstep,← Bool.and_assoc] at fin
  have hm:jM f f.models[k]=(within (f.models[k]).extents 1 16&&within (f.models[k]).port 1 64&&within (f.models[k]).law 0 ((f.laws.length:Int)-1)):=rfl
  cases hb:(b0&&fQ f.models (jM f) k) with
  | false =>
   rw[hb,baT] at fin
   simp -implicitDefEqProofs only[go_sem,γ,reduceCtorEq,OD,ho',tP,aL (show k<9223372036854775807 by omega)]
   refine fin false _ rfl ?_
   (repeat' (first|exact PF.nil_le|refine PF.aA ?_ ?_))<;>first|(simp -implicitDefEqProofs only[go_sem,γ]<;>rfl)|rfl
  | true =>
   rw[hb,bbC] at fin
   simp -implicitDefEqProofs only[go_sem,δ,γ,θ,OD,ho']
   refine aB (L.inn _ 1 16) (by simp -implicitDefEqProofs only[go_sem,γ]<;>rfl) ?_
   cases e1:within (f.models[k]).extents 1 16 with
   | false =>
    simp -implicitDefEqProofs only[go_sem,γ,reduceCtorEq,tP,aL (show k<9223372036854775807 by omega)]
    refine fin false _ (by rw[hm,e1]; simp only[baT]) ?_
    (repeat' (first|exact PF.nil_le|refine PF.aA ?_ ?_))<;>first|(simp -implicitDefEqProofs only[go_sem,γ]<;>rfl)|rfl
   | true =>
    simp -implicitDefEqProofs only[go_sem,δ,γ,θ,ho']
    refine aB (L.inn _ 1 64) (by simp -implicitDefEqProofs only[go_sem,γ]<;>rfl) ?_
    cases e2:within (f.models[k]).port 1 64 with
    | false =>
     simp -implicitDefEqProofs only[go_sem,γ,reduceCtorEq,tP,aL (show k<9223372036854775807 by omega)]
     refine fin false _ (by rw[hm,e1,e2]; simp only[baT,bbV]) ?_
     (repeat' (first|exact PF.nil_le|refine PF.aA ?_ ?_))<;>first|(simp -implicitDefEqProofs only[go_sem,γ]<;>rfl)|rfl
    | true =>
     simp -implicitDefEqProofs only[go_sem,δ,γ,θ,ho',baF,vT (show f.laws.length≤1000 by omega)]
     refine aB (L.inn _ 0 _) (by simp -implicitDefEqProofs only[go_sem,γ]<;>rfl) ?_
     simp -implicitDefEqProofs only[go_sem,γ,tP,aL (show k<9223372036854775807 by omega)]
     refine fin (within (f.models[k]).law 0 ((f.laws.length:Int)-1)) _ (by rw[hm,e1,e2]; simp only[bbC]) ?_
     (repeat' (first|exact PF.nil_le|refine PF.aA ?_ ?_))<;>first|(simp -implicitDefEqProofs only[go_sem,γ]<;>rfl)|rfl
 ·have hlt':¬ (k:Int)<(f.models.length:Nat):=by omega
  have:k=f.models.length:=by omega
  subst this
  rw[baS (by simp)] at hO
  rw[qY]
  simp -implicitDefEqProofs only[go_sem,hlt']
  exact hK v _ _ ⟨by simp -implicitDefEqProofs only[go_sem,γ],by simp -implicitDefEqProofs only[go_sem,γ],by simp -implicitDefEqProofs only[go_sem,γ],by simp -implicitDefEqProofs only[go_sem,γ],by simp -implicitDefEqProofs only[go_sem,γ],by simp -implicitDefEqProofs only[go_sem,γ],by simp -implicitDefEqProofs only[go_sem,γ]⟩ hO
theorem aFL {C:Ctx} (L:gQ C) (f:aI) (t:List cG) (hs:t.length≤40) (b0:Bool) (w3 w4 w6 w7:PV) (K:cD) (F:PF) (H:PH) (hv:gW F f w3 w4 .nils w6 w7 b0)
  (h67:F 119=some (.sl 7 (t.map cG.cells))) (h68:F 120=some (.int .i64 (t.length:Nat))) (h69:F 121=some (.int .i64 0))
  (hK:∀ v F' H',gW F' f w3 w4 v w6 w7 b0→bA H' 1 v (dX (t.map cG.name))→K (.exit 4) F' H') :
  aC.wp C (.loop AE) K F H:=by
 refine wp_loop (α:=Nat × PV × PH) (fun a=>(((fS f w3 w4 a.2.1 w6 w7 b0).set 119 (.sl 7 (t.map cG.cells))).set 120 (.int .i64 (t.length:Nat))).set 121 (.int .i64 a.1)) (fun a=>a.2.2)
  (fun a=>a.1≤t.length∧bA a.2.2 1 a.2.1 (dX ((t.map cG.name).take a.1))) (fun a=>t.length-a.1) (0,.nils,.nil) ⟨baR _,.nil⟩ ?_ PH.nil_le ?_
 ·unfold fS
  (repeat' (first|exact PF.nil_le|refine PF.aA ?_ ?_))<;>first|(simp -implicitDefEqProofs only[go_sem,hv.a1,hv.a3,hv.a4,hv.a5,hv.a6,hv.a7,hv.a8,h67,h68,h69]<;>rfl)|rfl
 rintro⟨k,v,H0⟩ ⟨hk,hO⟩
 simp only at hk hO ⊢
 simp -implicitDefEqProofs only[go_sem,γ,AE,amF,fS]
 by_cases hlt:k<t.length
 ·have hlt':(k:Int)<(t.length:Nat):=by omega
  have hr:(t.map cG.cells)[k]?=some (t[k]).cells:=by simp[hlt]
  have hsn:=rM (t.map cG.name) (k:=k) (by simpa using hlt)
  rw[bbW] at hsn
  simp -implicitDefEqProofs only[go_sem,δ,γ,hlt',amG,hr]
  refine aP fun o ho=>?_
  simp -implicitDefEqProofs only[go_sem,υ,δ,γ,η,θ,ζ,amH]
  refine jY hO ho (oJ (by simp; omega)) fun v' H' hO' ho'=>?_
  rw[hsn] at hO'
  simp -implicitDefEqProofs only[go_sem,γ,amI,aL (show k<9223372036854775807 by omega)]
  refine aH (k+1,v',H') ⟨hlt,hO'⟩ (by simp only; omega) ?_ PH.le_refl
  (repeat' (first|exact PF.nil_le|refine PF.aA ?_ ?_))<;>first|(simp -implicitDefEqProofs only[go_sem,γ]<;>rfl)|rfl
 ·have hlt':¬ (k:Int)<(t.length:Nat):=by omega
  have:k=t.length:=by omega
  subst this
  rw[baS (by simp)] at hO
  simp -implicitDefEqProofs only[go_sem,hlt']
  exact hK v _ _ ⟨by simp -implicitDefEqProofs only[go_sem,γ],by simp -implicitDefEqProofs only[go_sem,γ],by simp -implicitDefEqProofs only[go_sem,γ],by simp -implicitDefEqProofs only[go_sem,γ],by simp -implicitDefEqProofs only[go_sem,γ],by simp -implicitDefEqProofs only[go_sem,γ],by simp -implicitDefEqProofs only[go_sem,γ]⟩ hO
theorem aFM {C:Ctx} (L:gQ C) (f:aI) (names:List (List UInt8)) (hn:names.length≤40) (hs:f.drives.length≤24) (hm:f.models.length≤4) (hd:f.domains.length≤40) (b0:Bool) (w3 w4 v0 w6 w7:PV) (K:cD) (F:PF) (H:PH) (hv:gW F f w3 w4 v0 w6 w7 b0)
  (h0:bA H 1 v0 (dX names))
  (h67:F 132=some (.sl 3 (f.drives.map cM.cells))) (h68:F 133=some (.int .i64 (f.drives.length:Nat))) (h69:F 134=some (.int .i64 0))
  (hK:∀ v F' H',gW F' f w3 w4 v w6 w7 (b0&&f.drives.all (gR f))→bA H' 1 v (dX (names++f.drives.map cM.name))→K (.exit 6) F' H') :
  aC.wp C (.loop AF) K F H:=by
 refine wp_loop (α:=Nat × PV × PH) (fun t=>(((fS f w3 w4 t.2.1 w6 w7 (b0&&fQ f.drives (gR f) t.1)).set 132 (.sl 3 (f.drives.map cM.cells))).set 133 (.int .i64 (f.drives.length:Nat))).set 134 (.int .i64 t.1)) (fun t=>t.2.2)
  (fun t=>t.1≤f.drives.length∧bA t.2.2 1 t.2.1 (dX (names++(f.drives.map cM.name).take t.1))) (fun t=>f.drives.length-t.1) (0,v0,H) ⟨baR _,by rw[List.take_zero,bbY]; exact h0⟩ ?_ PH.le_refl ?_
 ·unfold fS
  (repeat' (first|exact PF.nil_le|refine PF.aA ?_ ?_))<;>first|(simp -implicitDefEqProofs only[go_sem,hv.a1,hv.a3,hv.a4,hv.a5,hv.a6,hv.a7,hv.a8,h67,h68,h69,oT,bcY]<;>rfl)|rfl
 rintro⟨k,v,H0⟩ ⟨hk,hO⟩
 simp only at hk hO ⊢
 simp -implicitDefEqProofs only[go_sem,γ,AF,amJ,fS]
 by_cases hlt:k<f.drives.length
 ·have hlt':(k:Int)<(f.drives.length:Nat):=by omega
  have hr:(f.drives.map cM.cells)[k]?=some (f.drives[k]).cells:=by simp[hlt]
  have hsn:dX (names++(f.drives.map cM.name).take k)++[[.str (f.drives[k]).name]]=dX (names++(f.drives.map cM.name).take (k+1)):=by
   rw[bcO (by simpa using hlt),← bbJ,bbW]
   unfold dX
   simp only[bcA,bbK,bcM]
  simp -implicitDefEqProofs only[go_sem,δ,γ,hlt',amK,hr]
  refine aP fun o ho=>?_
  simp -implicitDefEqProofs only[go_sem,υ,δ,γ,η,θ,ζ,amL]
  refine jY hO ho (oJ (by simp; omega)) fun v' H' hO' ho'=>?_
  rw[hsn] at hO'
  have hstep:=oS f.drives (gR f) hlt
  have fin:∀ (c:Bool) (F':PF),c=(b0&&fQ f.drives (gR f) (k+1))→((((fS f w3 w4 v' w6 w7 c).set 132 (.sl 3 (f.drives.map cM.cells))).set 133 (.int .i64 (f.drives.length:Nat))).set 134 (.int .i64 (k+1:Nat))).le F' →
    fV (fun (t:Nat × PV × PH)=>(((fS f w3 w4 t.2.1 w6 w7 (b0&&fQ f.drives (gR f) t.1)).set 132 (.sl 3 (f.drives.map cM.cells))).set 133 (.int .i64 (f.drives.length:Nat))).set 134 (.int .i64 t.1)) (fun (t:Nat × PV × PH)=>t.2.2)  (fun (t:Nat × PV × PH)=>t.1≤f.drives.length∧bA t.2.2 1 t.2.1 (dX (names++(f.drives.map cM.name).take t.1))) (fun (t:Nat × PV × PH)=>f.drives.length-t.1) (f.drives.length-k) K .normal F' H':=by
   intro c F' hc hle
   refine aH (α:=Nat × PV × PH) (k+1,v',H') ⟨hlt,hO'⟩ (by simp only; omega) ?_ PH.le_refl
   rw[hc] at hle
   exact hle
  unfold fS at fin
  rw[hstep,← Bool.and_assoc] at fin
  have hmd:gR f f.drives[k]=(within (f.drives[k]).model 0 ((f.models.length:Int)-1)&&within (f.drives[k]).machine 0 ((f.domains.length:Int)-1)&&decide ((f.domains.map cG.level).getD (f.drives[k]).machine.toNat 0=4)):=rfl
  cases hb:(b0&&fQ f.drives (gR f) k) with
  | false =>
   rw[hb,baT] at fin
   simp -implicitDefEqProofs only[go_sem,γ,reduceCtorEq,OG,ho',pY,aL (show k<9223372036854775807 by omega)]
   refine fin false _ rfl ?_
   (repeat' (first|exact PF.nil_le|refine PF.aA ?_ ?_))<;>first|(simp -implicitDefEqProofs only[go_sem,γ]<;>rfl)|rfl
  | true =>
   rw[hb,bbC] at fin
   simp -implicitDefEqProofs only[go_sem,δ,γ,θ,OG,ho',baF,vT (show f.models.length≤1000 by omega)]
   refine aB (L.inn _ 0 _) (by simp -implicitDefEqProofs only[go_sem,γ]<;>rfl) ?_
   cases e1:within (f.drives[k]).model 0 ((f.models.length:Int)-1) with
   | false =>
    simp -implicitDefEqProofs only[go_sem,γ,reduceCtorEq,pY,aL (show k<9223372036854775807 by omega)]
    refine fin false _ (by rw[hmd,e1]; simp only[baT]) ?_
    (repeat' (first|exact PF.nil_le|refine PF.aA ?_ ?_))<;>first|(simp -implicitDefEqProofs only[go_sem,γ]<;>rfl)|rfl
   | true =>
    simp -implicitDefEqProofs only[go_sem,δ,γ,θ,ho',baF,vT (show f.domains.length≤1000 by omega)]
    refine aB (L.inn _ 0 _) (by simp -implicitDefEqProofs only[go_sem,γ]<;>rfl) ?_
    cases e2:within (f.drives[k]).machine 0 ((f.domains.length:Int)-1) with
    | false =>
     simp -implicitDefEqProofs only[go_sem,γ,reduceCtorEq,pY,aL (show k<9223372036854775807 by omega)]
     refine fin false _ (by rw[hmd,e1,e2]; simp only[baT,bbV]) ?_
     (repeat' (first|exact PF.nil_le|refine PF.aA ?_ ?_))<;>first|(simp -implicitDefEqProofs only[go_sem,γ]<;>rfl)|rfl
    | true =>
     obtain⟨i1,i2⟩:=within_iff.1 e2
     have i3:(f.drives[k]).machine.toNat<f.domains.length:=by omega
     have hpr:(f.domains.map cG.cells)[(f.drives[k]).machine.toNat]?=some (f.domains[(f.drives[k]).machine.toNat]).cells:=by simp[i3]
     have hlv:(f.domains.map cG.level).getD (f.drives[k]).machine.toNat 0=(f.domains[(f.drives[k]).machine.toNat]).level:=by simp[i3]
     rw[hlv] at hmd
     by_cases e3:(f.domains[(f.drives[k]).machine.toNat]).level=4
     ·simp -implicitDefEqProofs only[go_sem,δ,γ,θ,ho',i1,hpr,bS e3,pY,aL (show k<9223372036854775807 by omega)]
      refine fin true _ (by rw[hmd,e1,e2,decide_eq_true e3]; rfl) ?_
      (repeat' (first|exact PF.nil_le|refine PF.aA ?_ ?_))<;>first|(simp -implicitDefEqProofs only[go_sem,γ]<;>rfl)|rfl
     ·simp -implicitDefEqProofs only[go_sem,δ,γ,θ,ho',i1,hpr,bE e3,pY,aL (show k<9223372036854775807 by omega)]
      refine fin false _ (by rw[hmd,e1,e2,decide_eq_false e3]; rfl) ?_
      (repeat' (first|exact PF.nil_le|refine PF.aA ?_ ?_))<;>first|(simp -implicitDefEqProofs only[go_sem,γ]<;>rfl)|rfl
 ·have hlt':¬ (k:Int)<(f.drives.length:Nat):=by omega
  have:k=f.drives.length:=by omega
  subst this
  rw[baS (by simp)] at hO
  rw[qY]
  simp -implicitDefEqProofs only[go_sem,hlt']
  exact hK v _ _ ⟨by simp -implicitDefEqProofs only[go_sem,γ],by simp -implicitDefEqProofs only[go_sem,γ],by simp -implicitDefEqProofs only[go_sem,γ],by simp -implicitDefEqProofs only[go_sem,γ],by simp -implicitDefEqProofs only[go_sem,γ],by simp -implicitDefEqProofs only[go_sem,γ],by simp -implicitDefEqProofs only[go_sem,γ]⟩ hO
theorem aFN {C:Ctx} (L:gQ C) (f:aI) (hf:f.Ok) (hs:f.policies.length≤4) (hm:f.models.length≤4) (b0:Bool) (w3 w4 w5 w7:PV) (K:cD) (F:PF) (H:PH) (hv:gW F f w3 w4 w5 .nils w7 b0)
  (h67:F 174=some (.sl 17 (f.policies.map cJ.cells))) (h68:F 175=some (.int .i64 (f.policies.length:Nat))) (h69:F 176=some (.int .i64 0))
  (hK:∀ v F' H',gW F' f w3 w4 w5 v w7 (b0&&f.policies.all (gO f.models.length))→bA H' 1 v (dX (f.policies.map cJ.name))→K (.exit 8) F' H') :
  aC.wp C (.loop AG) K F H:=by
 refine wp_loop (α:=Nat × PV × PH) (fun t=>(((fS f w3 w4 w5 t.2.1 w7 (b0&&fQ f.policies (gO f.models.length) t.1)).set 174 (.sl 17 (f.policies.map cJ.cells))).set 175 (.int .i64 (f.policies.length:Nat))).set 176 (.int .i64 t.1)) (fun t=>t.2.2)
  (fun t=>t.1≤f.policies.length∧bA t.2.2 1 t.2.1 (dX ((f.policies.map cJ.name).take t.1))) (fun t=>f.policies.length-t.1) (0,.nils,.nil) ⟨baR _,.nil⟩ ?_ PH.nil_le ?_
 ·unfold fS
  (repeat' (first|exact PF.nil_le|refine PF.aA ?_ ?_))<;>first|(simp -implicitDefEqProofs only[go_sem,hv.a1,hv.a3,hv.a4,hv.a5,hv.a6,hv.a7,hv.a8,h67,h68,h69,oT,bcY]<;>rfl)|rfl
 rintro⟨k,v,H0⟩ ⟨hk,hO⟩
 simp only at hk hO ⊢
 simp -implicitDefEqProofs only[go_sem,γ,AG,amM,fS]
 by_cases hlt:k<f.policies.length
 ·have hlt':(k:Int)<(f.policies.length:Nat):=by omega
  have hr:(f.policies.map cJ.cells)[k]?=some (f.policies[k]).cells:=by simp[hlt]
  have hsn:=rM (f.policies.map cJ.name) (k:=k) (by simpa using hlt)
  rw[bbW] at hsn
  simp -implicitDefEqProofs only[go_sem,δ,γ,hlt',amN,hr]
  refine aP fun o ho=>?_
  simp -implicitDefEqProofs only[go_sem,υ,δ,γ,η,θ,ζ,amO]
  refine jY hO ho (oJ (by simp; omega)) fun v' H' hO' ho'=>?_
  rw[hsn] at hO'
  have hstep:=oS f.policies (gO f.models.length) hlt
  have fin:∀ (c:Bool) (F':PF),c=(b0&&fQ f.policies (gO f.models.length) (k+1))→((((fS f w3 w4 w5 v' w7 c).set 174 (.sl 17 (f.policies.map cJ.cells))).set 175 (.int .i64 (f.policies.length:Nat))).set 176 (.int .i64 (k+1:Nat))).le F' →
    fV (fun (t:Nat × PV × PH)=>(((fS f w3 w4 w5 t.2.1 w7 (b0&&fQ f.policies (gO f.models.length) t.1)).set 174 (.sl 17 (f.policies.map cJ.cells))).set 175 (.int .i64 (f.policies.length:Nat))).set 176 (.int .i64 t.1)) (fun (t:Nat × PV × PH)=>t.2.2)  (fun (t:Nat × PV × PH)=>t.1≤f.policies.length∧bA t.2.2 1 t.2.1 (dX ((f.policies.map cJ.name).take t.1))) (fun (t:Nat × PV × PH)=>f.policies.length-t.1) (f.policies.length-k) K .normal F' H':=by
   intro c F' hc hle
   refine aH (α:=Nat × PV × PH) (k+1,v',H') ⟨hlt,hO'⟩ (by simp only; omega) ?_ PH.le_refl
   rw[hc] at hle
   exact hle
  unfold fS at fin
  rw[hstep,← Bool.and_assoc] at fin
  cases hb:(b0&&fQ f.policies (gO f.models.length) k) with
  | false =>
   rw[hb,baT] at fin
   simp -implicitDefEqProofs only[go_sem,γ,reduceCtorEq,OI,ho',OJ,aL (show k<9223372036854775807 by omega)]
   refine fin false _ rfl ?_
   (repeat' (first|exact PF.nil_le|refine PF.aA ?_ ?_))<;>first|(simp -implicitDefEqProofs only[go_sem,γ]<;>rfl)|rfl
  | true =>
   rw[hb,bbC] at fin
   simp -implicitDefEqProofs only[go_sem,δ,γ,θ,OI,ho',baF]
   refine aB (L.pol _ _ (hf.policy _ (baN hlt)) hm) (by simp -implicitDefEqProofs only[go_sem,γ]<;>rfl) ?_
   simp -implicitDefEqProofs only[go_sem,γ,OJ,aL (show k<9223372036854775807 by omega)]
   refine fin _ _ rfl ?_
   (repeat' (first|exact PF.nil_le|refine PF.aA ?_ ?_))<;>first|(simp -implicitDefEqProofs only[go_sem,γ]<;>rfl)|rfl
 ·have hlt':¬ (k:Int)<(f.policies.length:Nat):=by omega
  have:k=f.policies.length:=by omega
  subst this
  rw[baS (by simp)] at hO
  rw[qY]
  simp -implicitDefEqProofs only[go_sem,hlt']
  exact hK v _ _ ⟨by simp -implicitDefEqProofs only[go_sem,γ],by simp -implicitDefEqProofs only[go_sem,γ],by simp -implicitDefEqProofs only[go_sem,γ],by simp -implicitDefEqProofs only[go_sem,γ],by simp -implicitDefEqProofs only[go_sem,γ],by simp -implicitDefEqProofs only[go_sem,γ],by simp -implicitDefEqProofs only[go_sem,γ]⟩ hO
theorem aFO {C:Ctx} (L:gQ C) (f:aI) (hs:f.volumes.length≤12) (hl:f.policies.length≤4) (b0:Bool) (w3 w4 w5 w6:PV) (K:cD) (F:PF) (H:PH) (hv:gW F f w3 w4 w5 w6 .nils b0)
  (h67:F 195=some (.sl 2 (f.volumes.map fF.cells))) (h68:F 196=some (.int .i64 (f.volumes.length:Nat))) (h69:F 197=some (.int .i64 0))
  (hK:∀ v F' H',gW F' f w3 w4 w5 w6 v (b0&&f.volumes.all (kY f))→bA H' 1 v (dX (f.volumes.map fF.name))→K (.exit 10) F' H') :
  aC.wp C (.loop AH) K F H:=by
 refine wp_loop (α:=Nat × PV × PH) (fun t=>(((fS f w3 w4 w5 w6 t.2.1 (b0&&fQ f.volumes (kY f) t.1)).set 195 (.sl 2 (f.volumes.map fF.cells))).set 196 (.int .i64 (f.volumes.length:Nat))).set 197 (.int .i64 t.1)) (fun t=>t.2.2)
  (fun t=>t.1≤f.volumes.length∧bA t.2.2 1 t.2.1 (dX ((f.volumes.map fF.name).take t.1))) (fun t=>f.volumes.length-t.1) (0,.nils,.nil) ⟨baR _,.nil⟩ ?_ PH.nil_le ?_
 ·unfold fS
  (repeat' (first|exact PF.nil_le|refine PF.aA ?_ ?_))<;>first|(simp -implicitDefEqProofs only[go_sem,hv.a1,hv.a3,hv.a4,hv.a5,hv.a6,hv.a7,hv.a8,h67,h68,h69,oT,bcY]<;>rfl)|rfl
 rintro⟨k,v,H0⟩ ⟨hk,hO⟩
 simp only at hk hO ⊢
 simp -implicitDefEqProofs only[go_sem,γ,AH,amP,fS]
 by_cases hlt:k<f.volumes.length
 ·have hlt':(k:Int)<(f.volumes.length:Nat):=by omega
  have hr:(f.volumes.map fF.cells)[k]?=some (f.volumes[k]).cells:=by simp[hlt]
  have hsn:=rM (f.volumes.map fF.name) (k:=k) (by simpa using hlt)
  rw[bbW] at hsn
  simp -implicitDefEqProofs only[go_sem,δ,γ,hlt',amQ,hr]
  refine aP fun o ho=>?_
  simp -implicitDefEqProofs only[go_sem,υ,δ,γ,η,θ,ζ,amR]
  refine jY hO ho (oJ (by simp; omega)) fun v' H' hO' ho'=>?_
  rw[hsn] at hO'
  have hstep:=oS f.volumes (kY f) hlt
  have fin:∀ (c:Bool) (F':PF),c=(b0&&fQ f.volumes (kY f) (k+1))→((((fS f w3 w4 w5 w6 v' c).set 195 (.sl 2 (f.volumes.map fF.cells))).set 196 (.int .i64 (f.volumes.length:Nat))).set 197 (.int .i64 (k+1:Nat))).le F' →
    fV (fun (t:Nat × PV × PH)=>(((fS f w3 w4 w5 w6 t.2.1 (b0&&fQ f.volumes (kY f) t.1)).set 195 (.sl 2 (f.volumes.map fF.cells))).set 196 (.int .i64 (f.volumes.length:Nat))).set 197 (.int .i64 t.1)) (fun (t:Nat × PV × PH)=>t.2.2)  (fun (t:Nat × PV × PH)=>t.1≤f.volumes.length∧bA t.2.2 1 t.2.1 (dX ((f.volumes.map fF.name).take t.1))) (fun (t:Nat × PV × PH)=>f.volumes.length-t.1) (f.volumes.length-k) K .normal F' H':=by
   intro c F' hc hle
   refine aH (α:=Nat × PV × PH) (k+1,v',H') ⟨hlt,hO'⟩ (by simp only; omega) ?_ PH.le_refl
   rw[hc] at hle
   exact hle
  unfold fS at fin
  rw[hstep,← Bool.and_assoc] at fin
  have hm:kY f f.volumes[k]=within (f.volumes[k]).policy 0 ((f.policies.length:Int)-1):=rfl
  cases hb:(b0&&fQ f.volumes (kY f) k) with
  | false =>
   rw[hb,baT] at fin
   simp -implicitDefEqProofs only[go_sem,γ,reduceCtorEq,OL,ho',OM,aL (show k<9223372036854775807 by omega)]
   refine fin false _ rfl ?_
   (repeat' (first|exact PF.nil_le|refine PF.aA ?_ ?_))<;>first|(simp -implicitDefEqProofs only[go_sem,γ]<;>rfl)|rfl
  | true =>
   rw[hb,bbC,hm] at fin
   simp -implicitDefEqProofs only[go_sem,δ,γ,θ,OL,ho',baF,vT (show f.policies.length≤1000 by omega)]
   refine aB (L.inn _ 0 _) (by simp -implicitDefEqProofs only[go_sem,γ]<;>rfl) ?_
   simp -implicitDefEqProofs only[go_sem,γ,OM,aL (show k<9223372036854775807 by omega)]
   refine fin _ _ rfl ?_
   (repeat' (first|exact PF.nil_le|refine PF.aA ?_ ?_))<;>first|(simp -implicitDefEqProofs only[go_sem,γ]<;>rfl)|rfl
 ·have hlt':¬ (k:Int)<(f.volumes.length:Nat):=by omega
  have:k=f.volumes.length:=by omega
  subst this
  rw[baS (by simp)] at hO
  rw[qY]
  simp -implicitDefEqProofs only[go_sem,hlt']
  exact hK v _ _ ⟨by simp -implicitDefEqProofs only[go_sem,γ],by simp -implicitDefEqProofs only[go_sem,γ],by simp -implicitDefEqProofs only[go_sem,γ],by simp -implicitDefEqProofs only[go_sem,γ],by simp -implicitDefEqProofs only[go_sem,γ],by simp -implicitDefEqProofs only[go_sem,γ],by simp -implicitDefEqProofs only[go_sem,γ]⟩ hO
end Go.PM
namespace Go.PM
open Go Go.Na
theorem kF {f:aI} (h:¬ (f.laws.length≤4∧f.models.length≤4∧f.domains.length≤40∧f.drives.length≤24∧f.policies.length≤4∧f.volumes.length≤12)):lY f=false:=by
 rw[← Bool.not_eq_true]
 intro hs
 simp only[lY,bbB,decide_eq_true_eq] at hs
 omega
theorem awO {f:aI} (h:f.laws.length≤4∧f.models.length≤4∧f.domains.length≤40∧f.drives.length≤24∧f.policies.length≤4∧f.volumes.length≤12):lY f=within f.extent 1 4:=by
 obtain⟨h1,h2,h3,h4,h5,h6⟩:=h
 simp[lY,h1,h2,h3,h4,h5,h6]
theorem fI {t:Nat} {n m:Int} {F:PF} {H:PH} (h:F t=some (.int .i64 n)) (e:n=m):aZ [.tmp t] (bW (.int .i64 m)) .ret F H:=by
 subst e
 exact aY (.inr rfl) .nil (vs:=[.int .i64 n]) (by rw[jR,kW,h,mQ]) PH.nil_le ⟨.refl _,rfl⟩
def DD (f:aI):Int:=if cL f then 0 else 1
theorem aHT {f:aI} (h:cL f=false):DD f=1:=by rw[DD,h]; rfl
theorem pQ {C:Ctx} {F:PF} {H:PH} {name t s:Nat} {v r:PV} {rows:List (List PV)} {d:Option Nat} {K:PF→PH→Prop} (h:aJ C name [.sl s rows] .nil (aK r)) (hO:bA H s v rows) (ht:F t=some v)
  (hK:∀ (F1:PF) (H1:PH),(∀ i u,F i=some u→Pure u→F1 i=some u)→K (F1.put d r) H1):gT C name [.tmp t] [] d K F H:=by
 rcases hO with ⟨rfl,rfl⟩ | ⟨q,rs,rfl,h1,h2,h3⟩
 ·refine aB (h.aHB (.inl ⟨rfl,rfl⟩)) (by rw[zL,RJ,ht,JN]) ?_
  exact hK F H fun i u hi _=>hi
 ·rw[← h3] at h
  refine mT (k:=rows.length) h ht h1 h2 (hK _ _ fun i u hi hp=>?_)
  rw[rF,hi,bbN,hp q s rs]
theorem Seen.pure {s:Nat} {v:PV} {rows:List (List PV)} (h:Seen s v rows):Pure v:=by
 rcases h with ⟨_,rfl⟩ | rfl
 ·exact fun _ _ _=>rfl
 ·exact fun _ _ _=>rfl
def bI (b:Bool):Int:=if b then 0 else 1
abbrev KI (f:aI):List (List UInt8):=(f.domains.drop 1).map cG.name++f.drives.map cM.name
def qW (f:aI):Bool:=distinct (f.laws.map cI.name)&&distinct (f.models.map cQ.name)&&distinct (KI f)&&distinct (f.policies.map cJ.name)&&distinct (f.volumes.map fF.name)
structure Small (f:aI):Prop where
 laws:f.laws.length≤4
 models:f.models.length≤4
 domains:f.domains.length≤40
 drives:f.drives.length≤24
 policies:f.policies.length≤4
 volumes:f.volumes.length≤12
theorem uY {C:Ctx} (L:gQ C) {v:PV} {l:List (List UInt8)} (h:Seen 1 v (dX l)) (hl:l.length≤1000):aJ C 110 [v] .nil (aK (.bool (distinct l))) :=
 (L.uniq l (show l.length≤9223372036854775807 by omega)).aHB h
theorem aPJ {C:Ctx} (L:gQ C) (f:aI) (hs:Small f) (w3 w4 w5 w6 w7:PV) (ok:Bool) (F:PF) (H:PH) (hv:gW F f w3 w4 w5 w6 w7 ok)
  (h3:Seen 1 w3 (dX (f.laws.map cI.name))) (h4:Seen 1 w4 (dX (f.models.map cQ.name))) (h5:Seen 1 w5 (dX (KI f))) (h6:Seen 1 w6 (dX (f.policies.map cJ.name))) (h7:bA H 1 w7 (dX (f.volumes.map fF.name))) :
  aC.wp C (.seq (.seq (.region tQ) (.cond (.tmp 243) (.seq (.region kL) .ret) .skip)) (.seq (.region AI) .ret)) (aZ [.tmp 2] (bW (.int .i64 (bI (ok&&qW f))))) F H:=by
 obtain⟨s1,s2,s3,s4,s5,s6⟩:=hs
 have l3:(f.laws.map cI.name).length≤1000:=by simp; omega
 have l4:(f.models.map cQ.name).length≤1000:=by simp; omega
 have l5:(KI f).length≤1000:=by simp; omega
 have l6:(f.policies.map cJ.name).length≤1000:=by simp; omega
 have l7:(f.volumes.map fF.name).length≤9223372036854775807:=by simp; omega
 cases ok with
 | false =>
  simp -implicitDefEqProofs only[go_sem,γ,tQ,hv.a8,kL]
  exact fI rfl rfl
 | true =>
  simp -implicitDefEqProofs only[go_sem,γ,tQ,hv.a8,hv.a3]
  refine aB (uY L h3 l3) rfl ?_
  unfold qW
  cases c1:distinct (f.laws.map cI.name) with
  | false =>
   simp -implicitDefEqProofs only[go_sem,γ,reduceCtorEq,kL,baZ]
   exact fI rfl rfl
  | true =>
   simp -implicitDefEqProofs only[go_sem,γ,reduceCtorEq,hv.a4,baM]
   refine aB (uY L h4 l4) rfl ?_
   cases c2:distinct (f.models.map cQ.name) with
   | false =>
    simp -implicitDefEqProofs only[go_sem,γ,reduceCtorEq,kL,baZ]
    exact fI rfl rfl
   | true =>
    simp -implicitDefEqProofs only[go_sem,γ,reduceCtorEq,hv.a5,baM]
    refine aB (uY L h5 l5) rfl ?_
    cases c3:distinct (KI f) with
    | false =>
     simp -implicitDefEqProofs only[go_sem,γ,reduceCtorEq,kL,baZ]
     exact fI rfl rfl
    | true =>
     simp -implicitDefEqProofs only[go_sem,γ,reduceCtorEq,hv.a6,baM]
     refine aB (uY L h6 l6) rfl ?_
     cases c4:distinct (f.policies.map cJ.name) with
     | false =>
      simp -implicitDefEqProofs only[go_sem,γ,reduceCtorEq,kL,baZ]
      exact fI rfl rfl
     | true =>
      simp -implicitDefEqProofs only[go_sem,γ,reduceCtorEq,hv.a7,baM]
      refine pQ (L.uniq _ l7) h7 rfl fun F1 H1 hp=>?_
      have g:F1 239=some (.bool false):=hp 239 _ rfl fun _ _ _=>rfl
      cases c5:distinct (f.volumes.map fF.name) with
      | false =>
       simp -implicitDefEqProofs only[go_sem,γ,reduceCtorEq,kL,baZ,g]
       exact fI rfl rfl
      | true =>
       simp -implicitDefEqProofs only[go_sem,γ,reduceCtorEq,AI,baM,g]
       exact fI rfl rfl
abbrev YZ (b:Bool):cD:=aZ [.tmp 2] (bW (.int .i64 (bI b)))
def ahY:aC:=.seq (.seq (.region OK) (.block 10 (.loop AH))) (.seq (.seq (.region tQ) (.cond (.tmp 243) (.seq (.region kL) .ret) .skip)) (.seq (.region AI) .ret))
def ahX:aC:=.seq (.seq (.region OH) (.block 8 (.loop AG))) ahY
def ahW:aC:=.seq (.seq (.region OF) (.block 6 (.loop AF))) ahX
def ahV:aC:=.seq (.seq (.region OE) (.block 4 (.loop AE))) ahW
def ahU:aC:=.seq (.seq (.region OC) (.block 2 (.loop AD))) ahV
def aHS:aC:=.seq (.seq (.region XI) (.block 0 (.loop AC))) ahU
theorem aUR {C:Ctx} (L:gQ C) (f:aI) (hs:Small f) (w3 w4 w5 w6:PV) (ok:Bool) (F:PF) (H:PH) (hv:gW F f w3 w4 w5 w6 .nils ok)
  (h3:Seen 1 w3 (dX (f.laws.map cI.name))) (h4:Seen 1 w4 (dX (f.models.map cQ.name))) (h5:Seen 1 w5 (dX (KI f))) (h6:bA H 1 w6 (dX (f.policies.map cJ.name))) :
  aC.wp C ahY (YZ (ok&&f.volumes.all (kY f)&&qW f)) F H:=by
 unfold ahY
 simp -implicitDefEqProofs only[go_sem,γ,OK,hv.a1,baF]
 refine mV h6 fun v1 hv1 F1 H1 ht hp=>?_
 refine aFO L f hs.volumes hs.policies ok w3 w4 w5 v1 _ F1 H1 ⟨hp 1 _ (by simp -implicitDefEqProofs only[go_sem,γ,hv.a1]) fun _ _ _=>rfl,hp 3 _ (by simp -implicitDefEqProofs only[go_sem,γ,hv.a3]) h3.pure,hp 4 _ (by simp -implicitDefEqProofs only[go_sem,γ,hv.a4]) h4.pure,hp 5 _ (by simp -implicitDefEqProofs only[go_sem,γ,hv.a5]) h5.pure,ht 6 (by simp -implicitDefEqProofs only[go_sem,γ,hv.a6]),hp 7 _ (by simp -implicitDefEqProofs only[go_sem,γ,hv.a7]) fun _ _ _=>rfl,hp 8 _ (by simp -implicitDefEqProofs only[go_sem,γ,hv.a8]) fun _ _ _=>rfl⟩
  (hp 195 _ rfl fun _ _ _=>rfl) (hp 196 _ rfl fun _ _ _=>rfl) (hp 197 _ rfl fun _ _ _=>rfl) fun v F' H' hv' hO=>?_
 have e:=aPJ L f hs w3 w4 w5 v1 v _ F' H' hv' h3 h4 h5 hv1 hO
 simp only[aC.wp,go_sem] at e
 simp -implicitDefEqProofs only[go_sem]
 exact e
theorem aUQ {C:Ctx} (L:gQ C) (f:aI) (hf:f.Ok) (hs:Small f) (w3 w4 w5:PV) (ok:Bool) (F:PF) (H:PH) (hv:gW F f w3 w4 w5 .nils .nils ok)
  (h3:Seen 1 w3 (dX (f.laws.map cI.name))) (h4:Seen 1 w4 (dX (f.models.map cQ.name))) (h5:bA H 1 w5 (dX (KI f))) :
  aC.wp C ahX (YZ (ok&&f.policies.all (gO f.models.length)&&f.volumes.all (kY f)&&qW f)) F H:=by
 unfold ahX
 simp -implicitDefEqProofs only[go_sem,δ,γ,θ,OH,hv.a1,baF]
 refine mV h5 fun v1 hv1 F1 H1 ht hp=>?_
 refine aFN L f hf hs.policies hs.models ok w3 w4 v1 .nils _ F1 H1 ⟨hp 1 _ (by simp -implicitDefEqProofs only[go_sem,γ,hv.a1]) fun _ _ _=>rfl,hp 3 _ (by simp -implicitDefEqProofs only[go_sem,γ,hv.a3]) h3.pure,hp 4 _ (by simp -implicitDefEqProofs only[go_sem,γ,hv.a4]) h4.pure,ht 5 (by simp -implicitDefEqProofs only[go_sem,γ,hv.a5]),hp 6 _ (by simp -implicitDefEqProofs only[go_sem,γ,hv.a6]) fun _ _ _=>rfl,hp 7 _ (by simp -implicitDefEqProofs only[go_sem,γ,hv.a7]) fun _ _ _=>rfl,hp 8 _ (by simp -implicitDefEqProofs only[go_sem,γ,hv.a8]) fun _ _ _=>rfl⟩
  (hp 174 _ rfl fun _ _ _=>rfl) (hp 175 _ rfl fun _ _ _=>rfl) (hp 176 _ rfl fun _ _ _=>rfl) fun v F' H' hv' hO=>?_
 simp -implicitDefEqProofs only[go_sem]
 exact aUR L f hs w3 w4 v1 v _ F' H' hv' h3 h4 hv1 hO
theorem aUP {C:Ctx} (L:gQ C) (f:aI) (hf:f.Ok) (hs:Small f) (w3 w4 w5:PV) (ok:Bool) (F:PF) (H:PH) (hv:gW F f w3 w4 w5 .nils .nils ok)
  (h3:Seen 1 w3 (dX (f.laws.map cI.name))) (h4:Seen 1 w4 (dX (f.models.map cQ.name))) (h5:bA H 1 w5 (dX ((f.domains.drop 1).map cG.name))) :
  aC.wp C ahW (YZ (ok&&f.drives.all (gR f)&&f.policies.all (gO f.models.length)&&f.volumes.all (kY f)&&qW f)) F H:=by
 unfold ahW
 simp -implicitDefEqProofs only[go_sem,δ,γ,θ,OF,hv.a1,baF]
 refine aFM L f ((f.domains.drop 1).map cG.name) (by have:=hs.domains; simp; omega) hs.drives hs.models hs.domains ok w3 w4 w5 .nils .nils _ _ H ⟨by simp -implicitDefEqProofs only[go_sem,γ,hv.a1],by simp -implicitDefEqProofs only[go_sem,γ,hv.a3],by simp -implicitDefEqProofs only[go_sem,γ,hv.a4],by simp -implicitDefEqProofs only[go_sem,γ,hv.a5],by simp -implicitDefEqProofs only[go_sem,γ,hv.a6],by simp -implicitDefEqProofs only[go_sem,γ,hv.a7],by simp -implicitDefEqProofs only[go_sem,γ,hv.a8]⟩ h5
  rfl rfl rfl fun v F' H' hv' hO=>?_
 simp -implicitDefEqProofs only[go_sem]
 exact aUQ L f hf hs w3 w4 v _ F' H' hv' h3 h4 hO
theorem aUO {C:Ctx} (L:gQ C) (f:aI) (hf:f.Ok) (hs:Small f) (hd:0<f.domains.length) (w3 w4:PV) (ok:Bool) (F:PF) (H:PH) (hv:gW F f w3 w4 .nils .nils .nils ok)
  (h3:Seen 1 w3 (dX (f.laws.map cI.name))) (h4:bA H 1 w4 (dX (f.models.map cQ.name))) :
  aC.wp C ahV (YZ (ok&&f.drives.all (gR f)&&f.policies.all (gO f.models.length)&&f.volumes.all (kY f)&&qW f)) F H:=by
 unfold ahV
 have hsl:(1:Int)≤(f.domains.length:Nat):=by omega
 have hsd:=hs.domains
 have hdrop:((f.domains.map cG.cells).take f.domains.length).drop 1=(f.domains.drop 1).map cG.cells:=by
  rw[baS (by simp),List.map_drop]
 simp -implicitDefEqProofs only[go_sem,κ,ν,δ,γ,θ,reduceCtorEq,OE,hv.a1,baF,hsl,bdD,hdrop]
 refine mV h4 fun v1 hv1 F1 H1 ht hp=>?_
 refine aFL L f (f.domains.drop 1) (by simp; omega) ok w3 v1 .nils .nils _ F1 H1 ⟨hp 1 _ (by simp -implicitDefEqProofs only[go_sem,γ,hv.a1]) fun _ _ _=>rfl,hp 3 _ (by simp -implicitDefEqProofs only[go_sem,γ,hv.a3]) h3.pure,ht 4 (by simp -implicitDefEqProofs only[go_sem,γ,hv.a4]),hp 5 _ (by simp -implicitDefEqProofs only[go_sem,γ,hv.a5]) fun _ _ _=>rfl,hp 6 _ (by simp -implicitDefEqProofs only[go_sem,γ,hv.a6]) fun _ _ _=>rfl,hp 7 _ (by simp -implicitDefEqProofs only[go_sem,γ,hv.a7]) fun _ _ _=>rfl,hp 8 _ (by simp -implicitDefEqProofs only[go_sem,γ,hv.a8]) fun _ _ _=>rfl⟩
  (hp 119 _ rfl fun _ _ _=>rfl) (hp 120 _ rfl fun _ _ _=>rfl) (hp 121 _ rfl fun _ _ _=>rfl) fun v F' H' hv' hO=>?_
 simp -implicitDefEqProofs only[go_sem]
 exact aUP L f hf hs w3 v1 v _ F' H' hv' h3 hv1 hO
theorem aUN {C:Ctx} (L:gQ C) (f:aI) (hf:f.Ok) (hs:Small f) (hd:0<f.domains.length) (w3:PV) (ok:Bool) (F:PF) (H:PH) (hv:gW F f w3 .nils .nils .nils .nils ok)
  (h3:bA H 1 w3 (dX (f.laws.map cI.name))) :
  aC.wp C ahU (YZ (ok&&f.models.all (jM f)&&f.drives.all (gR f)&&f.policies.all (gO f.models.length)&&f.volumes.all (kY f)&&qW f)) F H:=by
 unfold ahU
 simp -implicitDefEqProofs only[go_sem,δ,γ,θ,OC,hv.a1,baF]
 refine mV h3 fun v1 hv1 F1 H1 ht hp=>?_
 refine aFK L f hs.models hs.laws ok v1 .nils .nils .nils _ F1 H1 ⟨hp 1 _ (by simp -implicitDefEqProofs only[go_sem,γ,hv.a1]) fun _ _ _=>rfl,ht 3 (by simp -implicitDefEqProofs only[go_sem,γ,hv.a3]),hp 4 _ (by simp -implicitDefEqProofs only[go_sem,γ,hv.a4]) fun _ _ _=>rfl,hp 5 _ (by simp -implicitDefEqProofs only[go_sem,γ,hv.a5]) fun _ _ _=>rfl,hp 6 _ (by simp -implicitDefEqProofs only[go_sem,γ,hv.a6]) fun _ _ _=>rfl,hp 7 _ (by simp -implicitDefEqProofs only[go_sem,γ,hv.a7]) fun _ _ _=>rfl,hp 8 _ (by simp -implicitDefEqProofs only[go_sem,γ,hv.a8]) fun _ _ _=>rfl⟩
  (hp 85 _ rfl fun _ _ _=>rfl) (hp 86 _ rfl fun _ _ _=>rfl) (hp 87 _ rfl fun _ _ _=>rfl) fun v F' H' hv' hO=>?_
 simp -implicitDefEqProofs only[go_sem]
 exact aUO L f hf hs hd v1 v _ F' H' hv' hv1 hO
theorem aUM {C:Ctx} (L:gQ C) (f:aI) (hf:f.Ok) (hs:Small f) (hd:0<f.domains.length) (F:PF) (H:PH) (hv:gW F f .nils .nils .nils .nils .nils true) :
  aC.wp C aHS (YZ (f.laws.all nO&&f.models.all (jM f)&&f.drives.all (gR f)&&f.policies.all (gO f.models.length)&&f.volumes.all (kY f)&&qW f)) F H:=by
 unfold aHS
 simp -implicitDefEqProofs only[go_sem,δ,γ,θ,XI,hv.a1,baF]
 refine aFJ L f hf hs.laws .nils .nils .nils .nils _ _ H ⟨by simp -implicitDefEqProofs only[go_sem,γ,hv.a1],by simp -implicitDefEqProofs only[go_sem,γ,hv.a3],by simp -implicitDefEqProofs only[go_sem,γ,hv.a4],by simp -implicitDefEqProofs only[go_sem,γ,hv.a5],by simp -implicitDefEqProofs only[go_sem,γ,hv.a6],by simp -implicitDefEqProofs only[go_sem,γ,hv.a7],by simp -implicitDefEqProofs only[go_sem,γ,hv.a8]⟩ rfl rfl rfl fun v F' H' hv' hO=>?_
 simp -implicitDefEqProofs only[go_sem]
 exact aUN L f hf hs hd v _ F' H' hv' hO
theorem aUK {C:Ctx} (L:gQ C) (f:aI) (hf:f.Ok):FC.wp C (aZ amB.res (bW (.int .i64 (DD f)))) (PF.args [.agg f.cells]) .nil:=by
 have he:cL f=(lY f&&lD f&&(f.laws.all nO&&f.models.all (jM f)&&f.drives.all (gR f)&&f.policies.all (gO f.models.length)&&f.volumes.all (kY f))&&qW f):=rfl
 simp -implicitDefEqProofs only[go_sem,δ,γ,θ,FC,azP,azQ,amB]
 refine aB (L.inn f.extent 1 4) rfl ?_
 have bad:∀ (F:PF) (H:PH),cL f=false→F 2=some (.int .i64 1)→aZ [.tmp 2] (bW (.int .i64 (DD f))) .ret F H:=fun F H h1 h2=>fI h2 (aHT h1).symm
 cases e0:within f.extent 1 4 with
 | false =>
  have:lY f=false:=by simp[lY,e0]
  simp -implicitDefEqProofs only[go_sem,γ,baZ,mJ]
  exact bad _ _ (by rw[he,this]; simp only[baT]) rfl
 | true =>
  by_cases s1:f.laws.length≤4
  ·have s1':¬ ((f.laws.length:Nat):Int)>4:=by omega
   by_cases s2:f.models.length≤4
   ·have s2':¬ ((f.models.length:Nat):Int)>4:=by omega
    by_cases s3:f.domains.length≤40
    ·have s3':¬ ((f.domains.length:Nat):Int)>40:=by omega
     by_cases s4:f.drives.length≤24
     ·have s4':¬ ((f.drives.length:Nat):Int)>24:=by omega
      by_cases s5:f.policies.length≤4
      ·have s5':¬ ((f.policies.length:Nat):Int)>4:=by omega
       by_cases s6:f.volumes.length≤12
       ·have s6':¬ ((f.volumes.length:Nat):Int)>12:=by omega
        have hsz:=awO ⟨s1,s2,s3,s4,s5,s6⟩
        rw[e0] at hsz
        simp -implicitDefEqProofs only[go_sem,δ,γ,θ,reduceCtorEq,baM,baF,s1',s2',s3',s4',s5',s6']
        refine aB (L.doms f hf) rfl ?_
        cases e1:lD f with
        | false =>
         simp -implicitDefEqProofs only[go_sem,γ,reduceCtorEq,baZ,mJ]
         exact bad _ _ (by rw[he,e1]; simp only[bbV,baT]) rfl
        | true =>
         have hd:0<f.domains.length:=by
          rcases bcB f.domains.length with h | h
          ·have:f.domains=[]:=List.eq_nil_of_length_eq_zero h
           rw[lD,this] at e1
           cases e1
          ·exact h
         have hz:DD f=bI (f.laws.all nO&&f.models.all (jM f)&&f.drives.all (gR f)&&f.policies.all (gO f.models.length)&&f.volumes.all (kY f)&&qW f):=by
          rw[DD,he,hsz,e1]; rfl
         rw[hz]
         simp -implicitDefEqProofs only[go_sem,γ,reduceCtorEq,baM,azR,azS]
         have e:=fun F H hv=>aUM L f hf ⟨s1,s2,s3,s4,s5,s6⟩ hd F H hv
         simp only[aHS,ahU,ahV,ahW,ahX,ahY,aC.wp,go_sem] at e
         exact e _ _ ⟨by simp -implicitDefEqProofs only[go_sem,γ],by simp -implicitDefEqProofs only[go_sem,γ],by simp -implicitDefEqProofs only[go_sem,γ],by simp -implicitDefEqProofs only[go_sem,γ],by simp -implicitDefEqProofs only[go_sem,γ],by simp -implicitDefEqProofs only[go_sem,γ],by simp -implicitDefEqProofs only[go_sem,γ]⟩
       ·have s6':((f.volumes.length:Nat):Int)>12:=by omega
        simp -implicitDefEqProofs only[go_sem,δ,γ,θ,reduceCtorEq,baM,baF,s1',s2',s3',s4',s5',s6',mJ]
        exact bad _ _ (by rw[he,kF (by omega)]; simp only[baT]) rfl
      ·have s5':((f.policies.length:Nat):Int)>4:=by omega
       simp -implicitDefEqProofs only[go_sem,δ,γ,θ,reduceCtorEq,baM,baF,s1',s2',s3',s4',s5',mJ]
       exact bad _ _ (by rw[he,kF (by omega)]; simp only[baT]) rfl
     ·have s4':((f.drives.length:Nat):Int)>24:=by omega
      simp -implicitDefEqProofs only[go_sem,δ,γ,θ,reduceCtorEq,baM,baF,s1',s2',s3',s4',mJ]
      exact bad _ _ (by rw[he,kF (by omega)]; simp only[baT]) rfl
    ·have s3':((f.domains.length:Nat):Int)>40:=by omega
     simp -implicitDefEqProofs only[go_sem,δ,γ,θ,reduceCtorEq,baM,baF,s1',s2',s3',mJ]
     exact bad _ _ (by rw[he,kF (by omega)]; simp only[baT]) rfl
   ·have s2':((f.models.length:Nat):Int)>4:=by omega
    simp -implicitDefEqProofs only[go_sem,δ,γ,θ,reduceCtorEq,baM,baF,s1',s2',mJ]
    exact bad _ _ (by rw[he,kF (by omega)]; simp only[baT]) rfl
  ·have s1':((f.laws.length:Nat):Int)>4:=by omega
   simp -implicitDefEqProofs only[go_sem,δ,γ,θ,reduceCtorEq,baM,baF,s1',mJ]
   exact bad _ _ (by rw[he,kF (by omega)]; simp only[baT]) rfl
end Go.PM
namespace Go.PM
open Go Go.Na
def lvl (f:aI) (i:Nat):Int:=(f.domains.map cG.level).getD i 0
def par (f:aI) (i:Nat):Int:=(f.domains.map cG.parent).getD i 0
def tY (f:aI) (i:Nat):Nat:=(par f i).toNat
def fC (f:aI) (d:Nat):Nat:=((f.drives.map cM.machine).getD d 0).toNat
def mdl (f:aI) (d:Nat):Nat:=((f.drives.map cM.model).getD d 0).toNat
def ext (f:aI) (d:Nat):Int:=(f.models.map cQ.extents).getD (mdl f d) 0
def HI (f:aI) (v:Nat):Nat:=((f.volumes.map fF.policy).getD v 0).toNat
def a1N:cJ:=⟨[],0,0,0,0,0,0,0,0,[],[],⟨false,[],[]⟩,⟨false,[],[]⟩⟩
def jA (f:aI) (v:Nat):cJ:=f.policies.getD (HI f v) a1N
def upN (f:aI):Nat→Nat→Nat
 | 0,i=>i
 | k+1,i=>tY f (upN f k i)
theorem getD_at {α β:Type} {l:List α} {g:α→β} {i:Nat} {b:β} (h:i<l.length):(l.map g).getD i b=g l[i]:=by
 simp[bbI,h]
structure VF (f:aI):Prop where
 small:Small f
 root:0<f.domains.length∧lvl f 0=0∧par f 0=-1
 dom:∀ i,0<i→i<f.domains.length→0≤par f i∧tY f i<i∧lvl f (tY f i)=lvl f i-1∧1≤lvl f i∧lvl f i≤4
 drive:∀ d (h:d<f.drives.length),0≤(f.drives[d]).model∧mdl f d<f.models.length∧0≤(f.drives[d]).machine∧fC f d<f.domains.length∧lvl f (fC f d)=4
 policy:∀ p∈f.policies,1≤p.k∧p.k≤6∧0≤p.m∧p.m≤4∧p.k+p.m≤8∧p.s0=0∧(∀ l,0≤p.spread l∧p.spread l≤8)∧∀ m∈p.models,0≤m∧m<f.models.length
 volume:∀ v (h:v<f.volumes.length),0≤(f.volumes[v]).policy∧HI f v<f.policies.length
 model:∀ m∈f.models,1≤m.extents∧m.extents≤16
theorem aVW {p:cJ} {n:Nat} (h:gO n p=true):∀ m∈p.models,0≤m∧m<n:=by
 intro m hm
 simp only[gO,bbB] at h
 obtain⟨i,hi,rfl⟩:=bbX hm
 have:=bbQ.1 h.2 i (bcF.2 hi)
 rw[bbB] at this
 have h1:=within_iff.1 this.1
 simp only[bbI,baQ hi,bcX] at h1
 omega
theorem WS {x:Int} (h1:1≤x) (h2:x≤4):IntKind.i64.wrap (x-1)=x-1:=wrap_i64 (by omega) (by omega)
theorem VF.of {f:aI} (h:cL f=true):VF f:=by
 simp only[cL,bbB] at h
 obtain⟨⟨⟨hs,hd⟩,⟨⟨⟨hlaw,hmod⟩,hdrv⟩,hpol⟩,hvol⟩,-⟩:=h
 simp only[lY,bbB,decide_eq_true_eq] at hs
 obtain⟨⟨⟨⟨⟨⟨s0,s1⟩,s2⟩,s3⟩,s4⟩,s5⟩,s6⟩:=hs
 cases hdm:f.domains with
 | nil=>rw[lD,hdm] at hd; cases hd
 | cons r t =>
  rw[lD,hdm] at hd
  simp only[JL,bbB,decide_eq_true_eq] at hd
  obtain⟨⟨⟨⟨⟨⟨r1,r2⟩,r3⟩,r4⟩,r5⟩,r6⟩,hall⟩:=hd
  have hlen:f.domains.length=t.length+1:=by rw[hdm]; rfl
  refine⟨⟨s1,s2,s3,s4,s5,s6⟩,⟨by omega,by rw[lvl,hdm]; exact r2,by rw[par,hdm]; exact r3⟩,?_,?_,?_,?_,?_⟩
  ·intro i h0 hi
   obtain⟨k,rfl⟩:∃ k,i=k+1:=⟨i-1,by omega⟩
   have hk:k<t.length:=by omega
   have:=bbQ.1 hall k (bcF.2 hk)
   rw[baQ hk] at this
   simp only[NL,bbB,decide_eq_true_eq] at this
   obtain⟨⟨⟨⟨d1,d2⟩,d3⟩,d4⟩,d5⟩:=this
   obtain⟨p0,p1⟩:=within_iff.1 d1
   obtain⟨l1,l4⟩:=within_iff.1 d3
   have e1:par f (k+1)=(t[k]).parent:=by rw[par,hdm]; simp[bbI,hk]
   have e2:lvl f (k+1)=(t[k]).level:=by rw[lvl,hdm]; simp[bbI,hk]
   rw[WS l1 l4] at d2
   have e3:lvl f (t[k]).parent.toNat=(t[k]).level-1:=d2
   refine⟨by rw[e1]; exact p0,?_,?_,by rw[e2]; exact l1,by rw[e2]; exact l4⟩
   ·rw[tY,e1]; omega
   ·rw[tY,e1,e2]; exact e3
  ·intro d hd
   have:=bbQ.1 hdrv _ (baN hd)
   simp only[gR,bbB,decide_eq_true_eq] at this
   obtain⟨⟨d1,d2⟩,d3⟩:=this
   have a1:=within_iff.1 d1
   have a2:=within_iff.1 d2
   have e1:mdl f d=(f.drives[d]).model.toNat:=by rw[mdl,getD_at hd]
   have e2:fC f d=(f.drives[d]).machine.toNat:=by rw[fC,getD_at hd]
   refine⟨a1.1,by rw[e1]; omega,a2.1,by rw[e2]; omega,by rw[e2]; exact d3⟩
  ·intro p hp
   have h1:=bbQ.1 hpol p hp
   have h2:=aVW h1
   simp only[gO,QA,bbB,decide_eq_true_eq,List.all_cons,List.all_nil,bcY] at h1
   obtain⟨⟨⟨⟨⟨⟨⟨⟨k1,m1⟩,km⟩,q1⟩,z0⟩,sp⟩,-⟩,-⟩,-⟩:=h1
   obtain⟨g0,g1,g2,g3,g4⟩:=sp
   have b1:=within_iff.1 k1
   have b2:=within_iff.1 m1
   have b3:=within_iff.1 g0
   have b4:=within_iff.1 g1
   have b5:=within_iff.1 g2
   have b6:=within_iff.1 g3
   have b7:=within_iff.1 g4
   refine⟨b1.1,b1.2,b2.1,b2.2,km,z0,fun l=>?_,h2⟩
   unfold cJ.spread
   split<;>omega
  ·intro v hv
   have:=bbQ.1 hvol _ (baN hv)
   have a1:=within_iff.1 this
   have e1:HI f v=(f.volumes[v]).policy.toNat:=by rw[HI,getD_at hv]
   exact⟨a1.1,by rw[e1]; omega⟩
  ·intro m hm
   have:=bbQ.1 hmod m hm
   simp only[jM,bbB] at this
   exact within_iff.1 this.1.1
theorem JA {f:aI} (h:VF f) {d:Nat} (hd:d<f.drives.length):∀ {k:Nat},k≤4→upN f k (fC f d)<f.domains.length∧lvl f (upN f k (fC f d))=4-(k:Int)
 | 0,_=>⟨(h.drive d hd).2.2.2.1,by rw[upN,(h.drive d hd).2.2.2.2]; rfl⟩
 | k+1,hk=>by
  obtain⟨h1,h2⟩:=JA h hd (k:=k) (by omega)
  have hne:0<upN f k (fC f d):=by
   rcases bcB (upN f k (fC f d)) with e | e
   ·rw[e,h.root.2.1] at h2; omega
   ·exact e
  obtain⟨g1,g2,g3,g4,g5⟩:=h.dom _ hne h1
  refine⟨by rw[upN]; omega,?_⟩
  rw[upN,g3,h2]; omega
def cB (f:aI) (d:Nat) (level:Int):Nat:=upN f (4-level.toNat) (fC f d)
def JT (f:aI) (v:Nat):Int:=(jA f v).k+(jA f v).m
end Go.PM
namespace Go.PM
open Go Go.Na
def aD (l:List Nat) (n a:Nat):Nat × Nat:=if l.length≤a∨n<2 then (0,a) else (l.getD a 0%n,a+1)
theorem bT (l:List Nat) {n:Nat} (h:0<n) (a:Nat):(aD l n a).1<n:=by
 unfold aD
 split
 ·exact h
 ·exact bbM _ h
theorem bH (l:List Nat) (n:Nat) {a:Nat} (h:a≤l.length):(aD l n a).2≤l.length:=by
 unfold aD
 split
 ·exact h
 ·simp only; omega
def eG (l:List Nat) (a:Nat):RF × Nat :=
 let x:=aD l 6 a
 let y:=aD l 8 x.2
 (mkT ((1+x.1:Nat):Int) ((1+y.1:Nat):Int),y.2)
abbrev gL:RF:=mkT 0 1
def fR (l:List Nat) (i j a:Nat):RF × Nat :=
 if j=i+1 then eG l a
 else if j=i then (gL,a)
 else let t:=aD l 3 a
  if t.1=0 then eG l t.2 else (gL,t.2)
def cP (l:List Nat) (i a:Nat):Nat→List RF × Nat
 | 0=>([],a)
 | j+1=>let s:=cP l i a j
  let z:=fR l i j s.2
  (s.1++[z.1],z.2)
structure vX where
 start:List RF
 exit:List RF
 rates:List (List RF)
 left:Nat
 a:Nat
def cO (l:List Nat) (n i:Nat) (s:vX):Nat × Nat:=if i+1<n then aD l (s.left+1) s.a else (s.left,s.a)
def dT (l:List Nat) (n i a:Nat):RF × Nat :=
 let e:=eG l a
 if i+1<n then (let t:=aD l 3 e.2; (if t.1=0 then gL else e.1,t.2)) else e
def eP (l:List Nat) (n a:Nat):Nat→vX
 | 0=>⟨[],[],[],8,a⟩
 | i+1=>let s:=eP l n a i
  let k:=cO l n i s
  let e:=dT l n i k.2
  let r:=cP l i e.2 n
  ⟨s.start++[mkT (k.1:Nat) 8],s.exit++[e.1],s.rates++[r.1],s.left-k.1,r.2⟩
def mX (l:List Nat) (dV a:Nat):cI × Nat :=
 let t:=aD l dV a
 let s:=eP l (1+t.1) t.2 (1+t.1)
 (⟨[],s.start,s.rates,s.exit⟩,s.a)
def gK (l:List Nat) (a:Nat):Nat→List RF × Nat
 | 0=>([],a)
 | k+1=>let s:=gK l a k
  let z:=eG l s.2
  (s.1++[z.1],z.2)
abbrev bM (n:Nat):List UInt8:=Lib.decDigits n
def fL (l:List Nat) (a:Nat):Nat→List cI × Nat
 | 0=>([],a)
 | k+1=>let s:=fL l a k
  let z:=mX l 2 s.2
  (s.1++[{ z.1 with name:=[108,97,119]++bM k }],z.2)
def dD (l:List Nat) (laws a:Nat):Nat→List cQ × Nat
 | 0=>([],a)
 | k+1=>let s:=dD l laws a k
  let x:=aD l 4 s.2
  let y:=aD l 8 x.2
  let z:=aD l laws y.2
  (s.1++[⟨[109]++bM k,(1+x.1:Nat),(1+y.1:Nat),(z.1:Nat)⟩],z.2)
structure GS where
 doms:List cG
 drvs:List cM
 a:Nat
def gA (l:List Nat) (mc drives domain:Nat) (s:GS):Nat→GS
 | 0=>s
 | i+1=>let s:=gA l mc drives domain s i
  if s.drvs.length<drives then
   let t:=aD l mc s.a
   { s with drvs:=s.drvs++[⟨[100]++bM s.drvs.length,(t.1:Nat),(domain:Nat)⟩],a:=t.2 }
  else s
def iK (level:Nat):UInt8:=match level with
 | 0=>45
 | 1=>115
 | 2=>114
 | 3=>107
 | _=>109
def kA (l:List Nat) (level domain:Nat) (s:GS):GS :=
 let u:=aD l 16 s.a
 let t:=aD l 3 u.2
 let k:=aD l 6 t.2
 let sh:RF × Nat:=if t.1=0 then (mkT 1 ((2+k.1:Nat):Int),k.2) else (gL,t.2)
 { s with doms:=s.doms++[⟨[iK level]++bM s.doms.length,(level:Nat),(domain:Nat),(1+u.1:Nat),sh.1⟩],a:=sh.2 }
def mI (drives:Nat) (s:GS):Bool:=decide (drives≤s.drvs.length)||decide (35≤s.doms.length)
def eY (l:List Nat) (level drives domain:Nat) (rec:Nat→GS→GS) (s:GS):Nat→GS
 | 0=>s
 | i+1=>let s:=eY l level drives domain rec s i
  if mI drives s then s else (let s':=kA l level domain s; rec (s'.doms.length-1) s')
def dS (l:List Nat) (mc drives:Nat):Nat→Nat→GS→GS
 | 0,domain,s=>let t:=aD l 2 s.a
  gA l mc drives domain { s with a:=t.2 } (1+t.1)
 | k+1,domain,s=>let t:=aD l 2 s.a
  eY l (4-k) drives domain (dS l mc drives k) { s with a:=t.2 } (if 4-k=2 then 1 else 1+t.1)
def jV:cG:=⟨[],0,-1,0,gL⟩
def fG (l:List Nat) (a:Nat):Int × Nat :=
 let t:=aD l 3 a
 let k:=aD l 3 t.2
 if t.1=0 then ((1+k.1:Nat),k.2) else (0,t.2)
def jF (l:List Nat) (models i a:Nat):cJ × Nat :=
 let k:=aD l 2 a
 let m:=aD l 3 k.2
 let h:=aD l 4 m.2
 let q:=aD l (m.1+1) h.2
 let r:=gK l q.2 (max m.1 1)
 let g:=aD l 9 r.2
 let s1:=fG l g.2
 let s2:=fG l s1.2
 let s3:=fG l s2.2
 let s4:=fG l s3.2
 let f:=aD l models s4.2
 let b:=aD l 2 f.2
 let ms:List Int × Nat:=if 1<models then (if b.1=0 then ([(f.1:Int),1-(f.1:Int)],b.2) else ([(f.1:Int)],b.2)) else ([(f.1:Int)],f.2)
 (⟨[112]++bM i,(1+k.1:Nat),(m.1:Nat),(1+k.1+q.1:Nat),0,s1.1,s2.1,s3.1,s4.1,ms.1,r.1,mkT (g.1:Nat) 8,mkT ((1+h.1:Nat):Int) 1⟩,ms.2)
def cR (l:List Nat) (models a:Nat):Nat→List cJ × Nat
 | 0=>([],a)
 | k+1=>let s:=cR l models a k
  let z:=jF l models k s.2
  (s.1++[z.1],z.2)
def dJ (l:List Nat) (pols a:Nat):Nat→List fF × Nat
 | 0=>([],a)
 | k+1=>let s:=dJ l pols a k
  let z:=aD l pols s.2
  (s.1++[⟨[118]++bM k,(z.1:Nat)⟩],z.2)
def fT (l:List Nat) (drives volumes a:Nat):aI × Nat :=
 let e:=aD l 2 a
 let lw:=aD l 2 e.2
 let laws:=fL l lw.2 (1+lw.1)
 let md:=aD l 2 laws.2
 let models:=dD l (1+lw.1) md.2 (1+md.1)
 let g:=dS l (1+md.1) drives 4 0 ⟨[jV],[],models.2⟩
 let pl:=aD l 2 g.a
 let pols:=cR l (1+md.1) pl.2 (1+pl.1)
 let vo:=aD l (volumes+1) pols.2
 let vols:=dJ l (1+pl.1) vo.2 vo.1
 (⟨(1+e.1:Nat),laws.1,models.1,g.doms,g.drvs,pols.1,vols.1⟩,vols.2)
end Go.PM
namespace Go.PM
open Go Go.Na
theorem aVB (a b:Nat):mkT (a:Int) (b:Int)=⟨false,aG (a/baG a b),aG (b/baG a b)⟩:=by
 have h1:decide ((a:Int)<0)=false:=decide_eq_false (by omega)
 have h2:decide ((b:Int)<0)=false:=decide_eq_false (by omega)
 unfold mkT wH FV.rf
 rw[h1,h2,Int.natAbs_natCast,Int.natAbs_natCast]
 rfl
structure SmF (x:RF) (p q:Nat):Prop where
 eq:x=⟨false,aG (p/baG p q),aG (q/baG p q)⟩
 a:p≤64
 b:q≤64
 pos:0<q
theorem SmF.mk' {a b:Nat} (ha:a≤64) (hb:b≤64) (h:0<b):SmF (mkT (a:Int) (b:Int)) a b:=⟨aVB a b,ha,hb,h⟩
theorem SmF.num {x:RF} {a b:Nat} (h:SmF x a b):val x.num=a/baG a b:=by rw[h.eq,aV]
theorem SmF.den {x:RF} {a b:Nat} (h:SmF x a b):val x.den=b/baG a b:=by rw[h.eq,aV]
theorem SmF.v {x:RF} {a b:Nat} (h:SmF x a b):x.v=(false,a/baG a b,b/baG a b):=by
 unfold RF.v
 rw[h.num,h.den,h.eq]
theorem SmF.arA {x:RF} {a b:Nat} (_:SmF x a b):a/baG a b≤a:=bdC ..
theorem SmF.aiV {x:RF} {a b:Nat} (_:SmF x a b):b/baG a b≤b:=bdC ..
theorem SmF.den_pos {x:RF} {a b:Nat} (h:SmF x a b):0<b/baG a b:=Nat.div_pos (Nat.le_of_dvd h.pos (Nat.gcd_dvd_right a b)) (Nat.gcd_pos_of_pos_right a h.pos)
theorem sU {n:Nat} (h:n≤4096):bY n≤32:=(jE n 32).2 (by omega)
theorem avT {n:Nat} (h:0<n):0<bY n:=by
 rcases bcB (bY n) with e | e
 ·rw[gG] at e; omega
 ·exact e
theorem pP {a b:Nat} (ha:a≤4096) (hb:b≤4096) (h:0<b):dC a b=true:=by
 have h1:=sU ha
 have h2:=sU hb
 have h3:=avT h
 unfold dC
 rw[decide_eq_true h3,decide_eq_true (show bY b≤4096 by omega),decide_eq_true (show bY a≤4096 by omega)]
 rfl
theorem azY {n:Bool} {a b:Nat} (ha:a≤4096) (hb:b≤4096):jD n a b=.ok (n&&decide (a/baG a b≠0),a/baG a b,b/baG a b):=by
 have h1:=sU (bcP (bdC a (baG a b)) ha)
 have h2:=sU (bcP (bdC b (baG a b)) hb)
 unfold jD
 rw[if_neg (by omega)]
theorem SmF.lim {x:RF} {a b:Nat} (h:SmF x a b):fB x=true:=by
 have h1:=h.arA
 have h2:=h.aiV
 have h3:=h.den_pos
 have:=h.a
 have:=h.b
 have hn:x.neg=false:=by rw[h.eq]
 unfold fB xB
 rw[h.num,h.den,hn,pP (by omega) (by omega) h3,if_pos rfl,azY (by omega) (by omega)]
 have e1:=bdC (a/baG a b) (baG (a/baG a b) (b/baG a b))
 have e2:=bdC (b/baG a b) (baG (a/baG a b) (b/baG a b))
 simp only[baT,baZ,bbC,bbB,decide_eq_true_eq]
 exact⟨sU (by omega),sU (by omega)⟩
theorem SmF.lC {x:RF} {a b:Nat} (h:SmF x a b) (ha:0<a):bP x=true:=by
 unfold bP
 rw[h.num]
 exact decide_eq_true (Nat.ne_of_gt (Nat.div_pos (Nat.le_of_dvd ha (Nat.gcd_dvd_left a b)) (Nat.gcd_pos_of_pos_right a h.pos)))
theorem SmF.zero {x:RF} {b:Nat} (h:SmF x 0 b):bP x=false:=by
 unfold bP
 rw[h.num,Nat.zero_div]
 rfl
theorem SmF.one {x:RF} {a b:Nat} (h:SmF x a b) (hab:a≤b):QC x=true:=by
 have h1:=h.arA
 have h2:=h.aiV
 have h3:=h.den_pos
 have:=h.a
 have:=h.b
 have hn:x.neg=false:=by rw[h.eq]
 unfold QC
 rw[h.num,h.den,hn,pP (by omega) (by omega) h3]
 have:a/baG a b≤b/baG a b:=Nat.div_le_div_right hab
 show (true&&decide (dB (a/baG a b*1) (1*(b/baG a b))≤0))=true
 rw[Nat.mul_one,Nat.one_mul,bbC]
 refine decide_eq_true ?_
 unfold dB
 split
 ·decide
 ·split
  ·omega
  ·decide
theorem SmF.ok {x:RF} {a b:Nat} (h:SmF x a b):x.Ok:=by
 have h1:=h.arA
 have h2:=h.aiV
 have:=h.a
 have:=h.b
 have k1:nl (a/baG a b)≤1:=(gB _ _).2 (by omega)
 have k2:nl (b/baG a b)≤1:=(gB _ _).2 (by omega)
 rw[h.eq]
 refine⟨bB _,bB _,?_,?_⟩
 ·show (aG _).length≤_
  rw[bG]; omega
 ·show (aG _).length≤_
  rw[bG]; omega
theorem aTK:∀ c:Fin 9,∀ k:Fin 9,c.val+k.val≤8 →
  (c.val/baG c.val 8*(8/baG k.val 8)+k.val/baG k.val 8*(8/baG c.val 8))/baG (c.val/baG c.val 8*(8/baG k.val 8)+k.val/baG k.val 8*(8/baG c.val 8)) (8/baG c.val 8*(8/baG k.val 8))=(c.val+k.val)/baG (c.val+k.val) 8 ∧
  8/baG c.val 8*(8/baG k.val 8)/baG (c.val/baG c.val 8*(8/baG k.val 8)+k.val/baG k.val 8*(8/baG c.val 8)) (8/baG c.val 8*(8/baG k.val 8))=8/baG (c.val+k.val) 8:=by decide +kernel
abbrev eV (c:Nat):FV:=(false,c/baG c 8,8/baG c 8)
theorem KV (c:Nat):0<8/baG c 8:=Nat.div_pos (Nat.le_of_dvd (by decide) (Nat.gcd_dvd_right c 8)) (Nat.gcd_pos_of_pos_right c (by decide))
theorem aiL {c k:Nat} (h:c+k≤8):gX (eV c) (eV k)=.ok (eV (c+k)):=by
 obtain⟨e1,e2⟩:=aTK ⟨c,by omega⟩ ⟨k,by omega⟩ h
 simp only at e1 e2
 have a1:=bdC c (baG c 8)
 have a2:=bdC k (baG k 8)
 have a3:=bdC 8 (baG c 8)
 have a4:=bdC 8 (baG k 8)
 have p1:=KV c
 have p2:=KV k
 simp only[gX]
 rw[pP (by omega) (by omega) p1,pP (by omega) (by omega) p2,Bool.and_self,if_pos rfl,if_pos trivial]
 have b1:c/baG c 8*(8/baG k 8)≤8*8:=Nat.mul_le_mul (by omega) a4
 have b2:k/baG k 8*(8/baG c 8)≤8*8:=Nat.mul_le_mul (by omega) a3
 have b3:8/baG c 8*(8/baG k 8)≤8*8:=Nat.mul_le_mul a3 a4
 rw[azY (by omega) (by omega),e1,e2]
 rfl
theorem HS:∀ (l:List Nat) (c:Nat),c+l.sum≤8→(l.map eV).foldlM gX (eV c)=.ok (eV (c+l.sum))
 | [],c,_=>rfl
 | k::l,c,h=>by
  rw[List.sum_cons] at h
  rw[bbK,List.foldlM_cons,aiL (by omega),List.sum_cons,← bcG]
  exact HS l (c+k) (by omega)
theorem aTJ:eV 0=(false,0,1):=by decide +kernel
theorem aOK:eV 8=(false,1,1):=by decide +kernel
theorem aWF (l:List Nat) (h:l.sum=8):(match nS (l.map eV) with
  | .ok (n,a,b)=>decide (tW n a b false 1 1=0)
  | .error _=>false)=true:=by
 unfold nS
 rw[← aTJ,HS l 0 (by omega),bbF,h,aOK]
 rfl
def dig (k:Nat):List UInt8:=if k<10 then [UInt8.ofNat (48+k)] else [UInt8.ofNat (48+k/10),UInt8.ofNat (48+k%10)]
def KN:List UInt8→Nat
 | [a]=>a.toNat-48
 | [a,b]=>(a.toNat-48)*10+(b.toNat-48)
 | _=>0
theorem FF {k:Nat} (h:k<100):bM k=dig k:=by
 unfold bM dig
 by_cases h1:k<10
 ·rw[if_pos h1]; exact Lib.decDigits_one h1
 ·rw[if_neg h1]; exact Lib.decDigits_two h1 h
theorem aiX:∀ k:Fin 100,KN (dig k.val)=k.val∧(dig k.val).length≤2∧((dig k.val).all fun c=>fO c.toNat)=true:=by decide +kernel
theorem XZ {p:List UInt8} {c:UInt8} {t:List UInt8} (e:p=c::t) (hc:fP c.toNat=true) (ht:(t.all fun c=>fO c.toNat)=true) (hl:p.length≤8) {k:Nat} (hk:k<100):isName (p++bM k)=true:=by
 obtain⟨-,h2,h3⟩:=aiX ⟨k,hk⟩
 simp only at h2 h3
 subst e
 rw[FF hk]
 show (decide ((c::t++dig k).length≤16)&&fP c.toNat&&(c::t++dig k).all fun c=>fO c.toNat)=true
 have hi:fO c.toNat=true:=by unfold fO; rw[hc]; rfl
 rw[decide_eq_true (by rw[baI]; omega),hc,List.all_append,h3,List.all_cons,ht,hi]
 rfl
theorem KU {l:List (List UInt8)} (h1:∀ x∈l,isName x=true) (h2:l.Nodup):distinct l=true:=by
 unfold distinct
 rw[bbQ]
 intro i hi
 rw[bcF] at hi
 have e:l.getD i []=l[i]:=by simp[bbI,hi]
 rw[e,h1 _ (baN hi),bbC]
 have:¬ l[i]∈l.take i:=by
  intro hm
  obtain⟨j,hj,e⟩:=bbX hm
  rw[baV] at hj
  rw[List.getElem_take] at e
  have:=(List.nodup_iff_pairwise_ne.1 h2)
  rw[List.pairwise_iff_getElem] at this
  exact this j i (by omega) hi (by omega) e
 simp[this]
theorem GN {l:List (List UInt8)} {g:List UInt8→Nat} (h:∀ i (hi:i<l.length),g l[i]=i):l.Nodup:=by
 rw[List.nodup_iff_pairwise_ne,List.pairwise_iff_getElem]
 intro i j hi hj hlt e
 have h1:=h i hi
 have h2:=h j hj
 rw[e] at h1
 omega
theorem oW {l:List (List UInt8)} {p:List UInt8} {c:UInt8} {t:List UInt8} (e:p=c::t) (hc:fP c.toNat=true) (ht:(t.all fun c=>fO c.toNat)=true) (hl:p.length≤8) (hn:l.length≤100) (h:∀ i (hi:i<l.length),l[i]=p++bM i):distinct l=true:=by
 refine KU ?_ (GN (g:=fun s=>KN (s.drop p.length)) ?_)
 ·intro x hx
  obtain⟨i,hi,rfl⟩:=bbX hx
  rw[h i hi]
  exact XZ e hc ht hl (by omega)
 ·intro i hi
  rw[h i hi]
  simp only[List.drop_left]
  rw[FF (by omega)]
  exact (aiX ⟨i,by omega⟩).1
end Go.PM
namespace Go.PM
open Go Go.Na
structure oP (x:RF):Prop where
 lim:fB x=true
 ok:x.Ok
theorem SmF.o {x:RF} {a b:Nat} (h:SmF x a b):oP x:=⟨h.lim,h.ok⟩
theorem mB:SmF gL 0 1:=SmF.mk' (a:=0) (b:=1) (by decide) (by decide) (by decide)
theorem nN (l:List Nat) (a:Nat):oP (eG l a).1∧bP (eG l a).1=true:=by
 have h1:=bT l (show 0<6 by decide) a
 have h2:=bT l (show 0<8 by decide) (aD l 6 a).2
 have:=SmF.mk' (a:=1+(aD l 6 a).1) (b:=1+(aD l 8 (aD l 6 a).2).1) (by omega) (by omega) (by omega)
 exact⟨this.o,this.lC (by omega)⟩
theorem aOB (l:List Nat) (i j a:Nat):oP (fR l i j a).1∧(j=i→bP (fR l i j a).1=false)∧(j=i+1→bP (fR l i j a).1=true):=by
 unfold fR
 by_cases h1:j=i+1
 ·rw[if_pos h1]
  exact⟨(nN l a).1,fun h=>by omega,fun _=>(nN l a).2⟩
 ·rw[if_neg h1]
  by_cases h2:j=i
  ·rw[if_pos h2]
   exact⟨mB.o,fun _=>mB.zero,fun h=>absurd h h1⟩
  ·rw[if_neg h2]
   simp only
   split
   ·exact⟨(nN l _).1,fun h=>absurd h h2,fun h=>absurd h h1⟩
   ·exact⟨mB.o,fun h=>absurd h h2,fun h=>absurd h h1⟩
theorem aCP (l:List Nat) (i a:Nat):∀ n,(cP l i a n).1.length=n∧∀ j (hj:j<(cP l i a n).1.length),oP (cP l i a n).1[j]∧(j=i→bP (cP l i a n).1[j]=false)∧(j=i+1→bP (cP l i a n).1[j]=true)
 | 0=>⟨rfl,fun j hj=>absurd hj (by simp[cP])⟩
 | n+1=>by
  obtain⟨h1,h2⟩:=aCP l i a n
  have e:(cP l i a (n+1)).1=(cP l i a n).1++[(fR l i n (cP l i a n).2).1]:=rfl
  rw[e]
  refine⟨by simp[h1],fun j hj=>?_⟩
  by_cases hlt:j<(cP l i a n).1.length
  ·rw[List.getElem_append_left hlt]; exact h2 j hlt
  ·rw[baI,baL] at hj
   have:j=n:=by omega
   subst this
   rw[List.getElem_append_right (by omega)]
   simp only[List.getElem_singleton]
   exact aOB l i j _
theorem aCO (l:List Nat) (a:Nat):∀ n,(gK l a n).1.length=n∧∀ x∈(gK l a n).1,oP x∧bP x=true
 | 0=>⟨rfl,fun x hx=>by cases hx⟩
 | n+1=>by
  obtain⟨h1,h2⟩:=aCO l a n
  have e:(gK l a (n+1)).1=(gK l a n).1++[(eG l (gK l a n).2).1]:=rfl
  rw[e]
  refine⟨by simp[h1],fun x hx=>?_⟩
  rw[bcE,List.mem_singleton] at hx
  rcases hx with hx | rfl
  ·exact h2 x hx
  ·exact nN l _
theorem aOO (l:List Nat) (n i a:Nat):oP (dT l n i a).1∧(i+1=n→bP (dT l n i a).1=true):=by
 unfold dT
 by_cases h:i+1<n
 ·simp only[if_pos h]
  refine⟨?_,fun h2=>by omega⟩
  split
  ·exact mB.o
  ·exact (nN l a).1
 ·simp only[if_neg h]
  exact⟨(nN l a).1,fun _=>(nN l a).2⟩
def aXW (n:Nat) (rates:List (List RF)):Prop:=∀ i (hi:i<rates.length),rates[i].length=n∧∀ j (hj:j<rates[i].length),oP rates[i][j]∧(j=i→bP rates[i][j]=false)∧(j=i+1→bP rates[i][j]=true)
def aXU (n:Nat) (exit:List RF):Prop:=∀ i (hi:i<exit.length),oP exit[i]∧(i+1=n→bP exit[i]=true)
structure a3J (n i:Nat) (s:vX) (cs:List Nat):Prop where
 start:s.start=cs.map fun c=>mkT ((c:Nat):Int) ((8:Nat):Int)
 lens:s.exit.length=i∧s.rates.length=i∧cs.length=i
 left:cs.sum+s.left=8∧(i=n→0<n→s.left=0)
 exit:aXU n s.exit
 rates:aXW n s.rates
theorem nP {α:Type} {P:Nat→α→Prop} {xs:List α} {x:α} (h:∀ i (hi:i<xs.length),P i xs[i]) (hx:P xs.length x):∀ i (hi:i<(xs++[x]).length),P i (xs++[x])[i]:=by
 intro i hi
 by_cases hlt:i<xs.length
 ·rw[List.getElem_append_left hlt]; exact h i hlt
 ·rw[baI,baL] at hi
  have:i=xs.length:=by omega
  subst this
  rw[List.getElem_append_right (by omega)]
  simpa using hx
theorem aaA (l:List Nat) (n a:Nat):∀ i,i≤n→∃ cs,a3J n i (eP l n a i) cs
 | 0,_=>⟨[],rfl,⟨rfl,rfl,rfl⟩,⟨rfl,fun h h2=>by omega⟩,fun i hi=>absurd hi (by simp[eP]),fun i hi=>absurd hi (by simp[eP])⟩
 | i+1,hi=>by
  obtain⟨cs,h1,⟨h2,h3,h4⟩,⟨h5,-⟩,h6,h7⟩:=aaA l n a i (by omega)
  generalize hs:eP l n a i=s at *
  have e:eP l n a (i+1)=⟨s.start++[mkT ((cO l n i s).1:Nat) 8],s.exit++[(dT l n i (cO l n i s).2).1],s.rates++[(cP l i (dT l n i (cO l n i s).2).2 n).1],s.left-(cO l n i s).1,(cP l i (dT l n i (cO l n i s).2).2 n).2⟩:=by
   simp only[eP,hs]
  rw[e]
  have hk:(cO l n i s).1≤s.left∧(i+1=n→(cO l n i s).1=s.left):=by
   unfold cO
   split
   ·exact⟨by have:=bT l (show 0<s.left+1 by omega) s.a; omega,fun h=>by omega⟩
   ·exact⟨baJ _,fun _=>rfl⟩
  refine⟨cs++[(cO l n i s).1],?_,⟨by simp[h2],by simp[h3],by simp[h4]⟩,⟨?_,fun h _=>?_⟩,?_,?_⟩
  ·simp only[h1,bcA,bbK,bcM]; rfl
  ·simp only[List.sum_append,List.sum_cons,List.sum_nil]; omega
  ·have:=hk.2 h
   simp only; omega
  ·refine nP (P:=fun i x=>oP x∧(i+1=n→bP x=true)) h6 ?_
   rw[h2]; exact aOO l n i _
  ·refine nP (P:=fun i (r:List RF)=>r.length=n∧∀ j (hj:j<r.length),oP r[j]∧(j=i→bP r[j]=false)∧(j=i+1→bP r[j]=true)) h7 ?_
   rw[h3]; exact aCP l i _ n
theorem aOM {x:cI} {e r:RF} (h1:x.exit=[e]) (h2:x.rates=[[r]]) (h3:bP e=true):oZ x=true:=by
 unfold oZ
 rw[h1]
 show ((fH x 2).all id)=true
 simp only[fH,dW,iY,cV,h1,h2,bcN,bcL,List.getD_cons_zero,bbK,bcM,h3]
 cases bP r<;>rfl
theorem HJ {x:cI} {e0 e1 r00 r01 r10 r11:RF} (h1:x.exit=[e0,e1]) (h2:x.rates=[[r00,r01],[r10,r11]]) (h3:bP e1=true) (h4:bP r01=true) (a b:Bool) :
  ∃ c,dW x [a,b] 2=[c,true]∧(b=true→c=true)∧(a=true→c=true):=by
 have q1:iY x [a,b] 0=[((a||bP e0)||bP r00&&(a||bP e0))||b,b]:=by
  unfold iY
  rw[h1,h2]
  simp only[List.getD_cons_zero,bbK,List.set_cons_zero]
  generalize (a||bP e0)=c
  show cV [c,b] 0 [r00,r01] 2=_
  have:cV [c,b] 0 [r00,r01] 1=[c||bP r00&&c,b]:=rfl
  show (let R':=cV [c,b] 0 [r00,r01] 1; R'.set 0 (R'.getD 0 false||([r00,r01].map bP).getD 1 false&&R'.getD 1 false))=_
  rw[this]
  show [(c||bP r00&&c)||(bP r01&&b),b]=_
  rw[h4,bbC]
 have q2:∀ c,iY x [c,b] 1=[c,true]:=by
  intro c
  unfold iY
  rw[h1,h2]
  have:cV [c,true] 1 [r10,r11] 1=[c,true||bP r10&&c]:=rfl
  show cV [c,b||bP e1] 1 [r10,r11] 2=_
  rw[h3,Bool.or_true]
  show (let R':=cV [c,true] 1 [r10,r11] 1; R'.set 1 (R'.getD 1 false||([r10,r11].map bP).getD 1 false&&R'.getD 1 false))=_
  rw[this,Bool.true_or]
  show [c,true||bP r11&&true]=_
  rw[Bool.true_or]
 refine⟨_,by rw[show dW x [a,b] 2=iY x (iY x [a,b] 0) 1 from rfl,q1,q2],?_,?_⟩
 ·rintro rfl; rw[Bool.or_true]
 ·rintro rfl; simp
theorem aON {x:cI} {e0 e1 r00 r01 r10 r11:RF} (h1:x.exit=[e0,e1]) (h2:x.rates=[[r00,r01],[r10,r11]]) (h3:bP e1=true) (h4:bP r01=true):oZ x=true:=by
 unfold oZ
 rw[h1]
 show ((fH x 3).all id)=true
 have e:∀ r,fH x (r+1)=dW x (fH x r) 2:=fun r=>by rw[fH,h1]; rfl
 have e0:fH x 0=[false,false]:=by rw[fH,h1]; rfl
 obtain⟨c1,k1,-,-⟩:=HJ h1 h2 h3 h4 false false
 obtain⟨c2,k2,k3,-⟩:=HJ h1 h2 h3 h4 c1 true
 obtain⟨c3,k4,k5,-⟩:=HJ h1 h2 h3 h4 c2 true
 rw[e,e,e,e0,k1,k2,k4,k5 rfl]
 rfl
theorem amY {c:Nat}:∀ {cs:List Nat},c∈cs→c≤cs.sum
 | k::t,h=>by
  rw[List.sum_cons]
  rcases baP.1 h with rfl | h
  ·omega
  ·have:=amY h; omega
theorem KB {α:Type} {l:List α} (h:l.length=2):∃ a b,l=[a,b]:=by
 match l,h with
 | [a,b],_=>exact⟨a,b,rfl⟩
theorem aZB (cs:List Nat) (h:cs.sum=8):(match nS ((cs.map fun c=>mkT ((c:Nat):Int) ((8:Nat):Int)).map RF.v) with
  | .ok (n,a,b)=>decide (tW n a b false 1 1=0)
  | .error _=>false)=true:=by
 have hle:∀ c∈cs,c≤8:=fun c hc=>by
  have:=amY hc
  omega
 have e:((cs.map fun c=>mkT ((c:Nat):Int) ((8:Nat):Int)).map RF.v)=cs.map eV:=by
  rw[List.map_map]
  refine List.map_congr_left fun c hc=>?_
  have:=hle c hc
  exact (SmF.mk' (a:=c) (b:=8) (by omega) (by decide) (by decide)).v
 rw[e]
 exact aWF cs h
theorem sT {α:Type} {p:α→Bool} {l:List α} (h:∀ i (hi:i<l.length),p l[i]=true):l.all p=true:=by
 rw[bbQ]
 intro x hx
 obtain⟨i,hi,rfl⟩:=bbX hx
 exact h i hi
theorem aFT (l:List Nat) (a:Nat) (nm:List UInt8):nO { (mX l 2 a).1 with name:=nm }=true∧({ (mX l 2 a).1 with name:=nm }:cI).Ok:=by
 obtain⟨n,hn⟩:∃ n,n=1+(aD l 2 a).1:=⟨_,rfl⟩
 have hn2:n=1∨n=2:=by have:=bT l (show 0<2 by decide) a; omega
 obtain⟨cs,h1,⟨h2,h3,h4⟩,⟨h5,h5'⟩,h6,h7⟩:=aaA l n (aD l 2 a).2 n (baJ _)
 generalize hs:eP l n (aD l 2 a).2 n=s at *
 have e:({ (mX l 2 a).1 with name:=nm }:cI)=⟨nm,s.start,s.rates,s.exit⟩:=by
  simp only[mX,← hn,hs]
 rw[e]
 have hsum:cs.sum=8:=by have:=h5' rfl (by omega); omega
 have hle:∀ c∈cs,c≤8:=fun c hc=>by
  have:=amY hc
  omega
 have hstart:∀ x∈s.start,oP x:=by
  intro x hx
  rw[h1] at hx
  obtain⟨c,hc,rfl⟩:=bbL.1 hx
  have:=hle c hc
  exact (SmF.mk' (a:=c) (b:=8) (by omega) (by decide) (by decide)).o
 have hsl:s.start.length=n:=by rw[h1,baF,h4]
 have hends:oZ ⟨nm,s.start,s.rates,s.exit⟩=true:=by
  rcases hn2 with rfl | rfl
  ·obtain⟨e,he⟩:=List.length_eq_one_iff.1 h2
   obtain⟨rw_,hr⟩:=List.length_eq_one_iff.1 h3
   have hrl:=(h7 0 (by omega)).1
   obtain⟨r,hr2⟩:=List.length_eq_one_iff.1 hrl
   have hx:=(h6 0 (by omega)).2 rfl
   simp only[hr,List.getElem_cons_zero] at hr2
   simp only[he,List.getElem_cons_zero] at hx
   exact aOM he (by rw[hr,hr2]) hx
  ·obtain⟨e0,e1,he⟩:=KB h2
   obtain⟨r0,r1,hr⟩:=KB h3
   have hr0:=(h7 0 (by omega)).1
   have hr1:=(h7 1 (by omega)).1
   have hx:=(h6 1 (by omega)).2 rfl
   have hy:=((h7 0 (by omega)).2 1 (by omega)).2.2 rfl
   simp only[he,List.getElem_cons_succ,List.getElem_cons_zero] at hx
   simp only[hr,List.getElem_cons_succ,List.getElem_cons_zero] at hr0 hr1 hy
   obtain⟨r00,r01,h00⟩:=KB hr0
   obtain⟨r10,r11,h10⟩:=KB hr1
   simp only[h00,List.getElem_cons_succ,List.getElem_cons_zero] at hy
   exact aON he (by rw[hr,h00,h10]) hx hy
 constructor
 ·unfold nO
  simp only[bbB]
  refine⟨⟨⟨⟨⟨⟨⟨?_,?_⟩,?_⟩,?_⟩,?_⟩,?_⟩,?_⟩,hends⟩
  ·rw[within_iff]; omega
  ·exact decide_eq_true (by omega)
  ·exact decide_eq_true (by omega)
  ·exact bbQ.2 fun x hx=>(hstart x hx).lim
  ·exact sT fun i hi=>(h6 i hi).1.lim
  ·rw[bbQ]
   intro i hi
   rw[bcF] at hi
   obtain⟨k1,k2⟩:=h7 i hi
   have eg:s.rates.getD i []=s.rates[i]:=by simp[bbI,hi]
   rw[eg,bbB,bbB]
   refine⟨⟨decide_eq_true (by omega),sT fun j hj=>(k2 j hj).1.lim⟩,?_⟩
   have hij:i<s.rates[i].length:=by omega
   rw[getD_at hij,(k2 i hij).2.1 rfl]
   rfl
  ·rw[h1]; exact aZB cs hsum
 ·have hf:∀ m:Nat,m≤2→m≤9223372036854775807:=fun m hm=>by omega
  have hnl:n≤2:=by omega
  refine⟨⟨?_,fun x hx=>(hstart x hx).ok⟩,⟨?_,fun x hx=>?_⟩,?_,fun r hr=>⟨?_,fun x hx=>?_⟩⟩
  ·exact hf s.start.length (by omega)
  ·exact hf s.exit.length (by omega)
  ·obtain⟨i,hi,rfl⟩:=bbX hx
   exact (h6 i hi).1.ok
  ·exact hf s.rates.length (by omega)
  ·obtain⟨i,hi,rfl⟩:=bbX hr
   have:=(h7 i hi).1
   exact hf (s.rates[i]'hi).length (by omega)
  ·obtain⟨i,hi,rfl⟩:=bbX hr
   obtain⟨j,hj,rfl⟩:=bbX hx
   exact ((h7 i hi).2 j hj).1.ok
theorem KZ (l:List Nat) (a:Nat):∀ n,(fL l a n).1.length=n∧∀ i (hi:i<(fL l a n).1.length),(fL l a n).1[i].name=[108,97,119]++bM i∧nO (fL l a n).1[i]=true∧(fL l a n).1[i].Ok
 | 0=>⟨rfl,fun i hi=>absurd hi (by simp[fL])⟩
 | n+1=>by
  obtain⟨h1,h2⟩:=KZ l a n
  have e:(fL l a (n+1)).1=(fL l a n).1++[{ (mX l 2 (fL l a n).2).1 with name:=[108,97,119]++bM n }]:=rfl
  rw[e]
  refine⟨by simp[h1],nP (P:=fun i (x:cI)=>x.name=[108,97,119]++bM i∧nO x=true∧x.Ok) h2 ?_⟩
  rw[h1]
  exact⟨rfl,aFT l _ _⟩
theorem DO (l:List Nat) (laws:Nat) (hl:0<laws) (a:Nat):∀ n,(dD l laws a n).1.length=n∧∀ i (hi:i<(dD l laws a n).1.length),(dD l laws a n).1[i].name=[109]++bM i∧∃ e p w:Nat,(dD l laws a n).1[i].extents=e∧1≤e∧e≤4∧(dD l laws a n).1[i].port=p∧1≤p∧p≤8∧(dD l laws a n).1[i].law=w∧w<laws
 | 0=>⟨rfl,fun i hi=>absurd hi (by simp[dD])⟩
 | n+1=>by
  obtain⟨h1,h2⟩:=DO l laws hl a n
  obtain⟨s,hs⟩:∃ s,s=dD l laws a n:=⟨_,rfl⟩
  have e:(dD l laws a (n+1)).1=(dD l laws a n).1++[⟨[109]++bM n,(1+(aD l 4 s.2).1:Nat),(1+(aD l 8 (aD l 4 s.2).2).1:Nat),((aD l laws (aD l 8 (aD l 4 s.2).2).2).1:Nat)⟩]:=by rw[hs]; rfl
  rw[e]
  refine⟨by simp[h1],nP (P:=fun i (x:cQ)=>x.name=[109]++bM i∧∃ e p w:Nat,x.extents=e∧1≤e∧e≤4∧x.port=p∧1≤p∧p≤8∧x.law=w∧w<laws) h2 ?_⟩
  rw[h1]
  have k1:=bT l (show 0<4 by decide) s.2
  have k2:=bT l (show 0<8 by decide) (aD l 4 s.2).2
  have k3:=bT l hl (aD l 8 (aD l 4 s.2).2).2
  exact⟨rfl,_,_,_,rfl,by omega,by omega,rfl,by omega,by omega,rfl,k3⟩
end Go.PM
namespace Go.PM
open Go Go.Na
theorem sM (l:List Nat) (a:Nat):∃ n:Nat,(fG l a).1=n∧n≤3:=by
 have h:=bT l (show 0<3 by decide) (aD l 3 a).2
 unfold fG
 simp only
 split
 ·exact⟨1+(aD l 3 (aD l 3 a).2).1,rfl,by omega⟩
 ·exact⟨0,rfl,by omega⟩
theorem dK {n lo hi:Int} (h1:lo≤n) (h2:n≤hi):within n lo hi=true:=within_iff.2 ⟨h1,h2⟩
theorem aYS {nm:List UInt8} {k m q s1 s2 s3 s4 g h:Nat} {ms:List Int} {rp:List RF} {mc:Nat} (hk1:1≤k) (hk2:k≤2) (hm:m≤2) (hq1:k≤q) (hq2:q≤k+m) (h1:s1≤3) (h2:s2≤3) (h3:s3≤3) (h4:s4≤3) (hg:g≤8) (hh:h≤4)
  (hrl:rp.length=max m 1) (hrp:∀ x∈rp,oP x∧bP x=true)
  (hmc:mc≤2) (hms:∃ f:Nat,f<mc∧(ms=[(f:Int)]∨mc=2∧ms=[(f:Int),1-(f:Int)])) :
  gO mc ⟨nm,(k:Nat),(m:Nat),(q:Nat),0,(s1:Nat),(s2:Nat),(s3:Nat),(s4:Nat),ms,rp,mkT (g:Nat) ((8:Nat):Int),mkT (h:Nat) ((1:Nat):Int)⟩=true ∧
  (⟨nm,(k:Nat),(m:Nat),(q:Nat),0,(s1:Nat),(s2:Nat),(s3:Nat),(s4:Nat),ms,rp,mkT (g:Nat) ((8:Nat):Int),mkT (h:Nat) ((1:Nat):Int)⟩:cJ).Ok:=by
 have G:=SmF.mk' (a:=g) (b:=8) (by omega) (by decide) (by decide)
 have Z:=SmF.mk' (a:=h) (b:=1) (by omega) (by decide) (by decide)
 obtain⟨f,hf,hms⟩:=hms
 constructor
 ·unfold gO QA KJ
  simp only[bbB,List.all_cons,List.all_nil,bcY]
  refine⟨⟨⟨⟨⟨⟨⟨⟨dK (by omega) (by omega),dK (by omega) (by omega)⟩,decide_eq_true (by omega)⟩,dK (by omega) (by omega)⟩,rfl⟩,dK (by omega) (by omega),dK (by omega) (by omega),dK (by omega) (by omega),dK (by omega) (by omega),dK (by omega) (by omega)⟩,?_⟩,⟨⟨⟨⟨decide_eq_true (by rw[hrl]; omega),?_⟩,G.lim⟩,G.one (by omega)⟩,Z.lim⟩⟩,?_⟩
  ·rcases hms with e | ⟨-,e⟩<;>rw[e]<;>rfl
  ·rw[bbQ]
   intro x hx
   rw[(hrp x hx).1.lim,(hrp x hx).2]
   rfl
  ·rw[bbQ]
   rcases hms with rfl | ⟨rfl,rfl⟩
   ·intro j hj
    simp only[bcN,bcL,bcF] at hj
    have:j=0:=by omega
    subst this
    rw[bbB]
    exact⟨dK (by simp) (by simp; omega),by simp⟩
   ·intro j hj
    simp only[bcN,bcL,bcF] at hj
    have:j=0∨j=1:=by omega
    rcases this with rfl | rfl
    ·rw[bbB]
     exact⟨dK (by simp) (by simp; omega),by simp⟩
    ·rw[bbB]
     refine⟨dK (by simp; omega) (by simp; omega),?_⟩
     have:¬ (1-(f:Int)=f):=by omega
     simp[this]
 ·refine⟨by unfold dQ; constructor<;>simp only<;>omega,by unfold dQ; constructor<;>simp only<;>omega,by unfold dQ; constructor<;>simp only<;>omega,?_,?_,⟨?_,fun x hx=>(hrp x hx).1.ok⟩,G.ok,Z.ok⟩
  ·show ms.length≤_
   rcases hms with e | ⟨-,e⟩<;>rw[e]<;>simp
  ·show ∀ x∈ms,dQ x
   unfold dQ
   rcases hms with e | ⟨h2,e⟩<;>rw[e]<;>intro x hx<;>simp only[baP,baY,or_false] at hx
   ·subst hx; omega
   ·rcases hx with rfl | rfl<;>omega
  ·show rp.length≤_
   rw[hrl]; omega
theorem ahG (l:List Nat) {mc:Nat} (h0:0<mc) (h2:mc≤2) (i a:Nat):(jF l mc i a).1.name=[112]++bM i∧gO mc (jF l mc i a).1=true∧(jF l mc i a).1.Ok:=by
 refine⟨rfl,?_⟩
 have hk:=bT l (show 0<2 by decide) a
 have hm:=bT l (show 0<3 by decide) (aD l 2 a).2
 have hh:=bT l (show 0<4 by decide) (aD l 3 (aD l 2 a).2).2
 unfold jF
 simp only
 generalize aD l 2 a=k at *
 generalize aD l 3 k.2=m at *
 generalize aD l 4 m.2=h at *
 have hq:=bT l (show 0<m.1+1 by omega) h.2
 generalize aD l (m.1+1) h.2=q at *
 obtain⟨r1,r2⟩:=aCO l q.2 (max m.1 1)
 generalize gK l q.2 (max m.1 1)=r at *
 have hg:=bT l (show 0<9 by decide) r.2
 generalize aD l 9 r.2=g at *
 obtain⟨n1,e1,b1⟩:=sM l g.2
 generalize fG l g.2=s1 at *
 obtain⟨n2,e2,b2⟩:=sM l s1.2
 generalize fG l s1.2=s2 at *
 obtain⟨n3,e3,b3⟩:=sM l s2.2
 generalize fG l s2.2=s3 at *
 obtain⟨n4,e4,b4⟩:=sM l s3.2
 generalize fG l s3.2=s4 at *
 have hf:=bT l h0 s4.2
 generalize aD l mc s4.2=f at *
 generalize aD l 2 f.2=b at *
 rw[e1,e2,e3,e4]
 refine aYS (by omega) (by omega) (by omega) (by omega) (by omega) b1 b2 b3 b4 (by omega) (by omega) r1 r2 h2 ⟨f.1,hf,?_⟩
 split
 ·rename_i hmc
  split
  ·exact .inr ⟨by omega,rfl⟩
  ·exact .inl rfl
 ·exact .inl rfl
theorem uX (l:List Nat) {mc:Nat} (h0:0<mc) (h2:mc≤2) (a:Nat):∀ n,(cR l mc a n).1.length=n∧∀ i (hi:i<(cR l mc a n).1.length),(cR l mc a n).1[i].name=[112]++bM i∧gO mc (cR l mc a n).1[i]=true∧(cR l mc a n).1[i].Ok
 | 0=>⟨rfl,fun i hi=>absurd hi (by simp[cR])⟩
 | n+1=>by
  obtain⟨k1,k2⟩:=uX l h0 h2 a n
  have e:(cR l mc a (n+1)).1=(cR l mc a n).1++[(jF l mc n (cR l mc a n).2).1]:=rfl
  rw[e]
  refine⟨by simp[k1],nP (P:=fun i (x:cJ)=>x.name=[112]++bM i∧gO mc x=true∧x.Ok) k2 ?_⟩
  rw[k1]
  exact ahG l h0 h2 n _
theorem zB (l:List Nat) {pc:Nat} (h0:0<pc) (a:Nat):∀ n,(dJ l pc a n).1.length=n∧∀ i (hi:i<(dJ l pc a n).1.length),(dJ l pc a n).1[i].name=[118]++bM i∧∃ p:Nat,(dJ l pc a n).1[i].policy=p∧p<pc
 | 0=>⟨rfl,fun i hi=>absurd hi (by simp[dJ])⟩
 | n+1=>by
  obtain⟨k1,k2⟩:=zB l h0 a n
  have e:(dJ l pc a (n+1)).1=(dJ l pc a n).1++[⟨[118]++bM n,((aD l pc (dJ l pc a n).2).1:Nat)⟩]:=rfl
  rw[e]
  refine⟨by simp[k1],nP (P:=fun i (x:fF)=>x.name=[118]++bM i∧∃ p:Nat,x.policy=p∧p<pc) k2 ?_⟩
  rw[k1]
  exact⟨rfl,_,rfl,bT l h0 _⟩
abbrev lvs (ds:List cG):List Int:=ds.map cG.level
def a3I (ds:List cG) (i:Nat) (d:cG):Prop:=∃ lev p u:Nat,d.name=[iK lev]++bM (i+1)∧d.level=lev∧1≤lev∧lev≤4∧d.parent=p∧p≤i∧(lvs ds)[p]?=some ((lev:Int)-1)∧d.uplink=u∧1≤u∧u≤16∧oP d.shock
def aXT (ds:List cG) (mc i:Nat) (d:cM):Prop:=∃ m c:Nat,d.name=[100]++bM i∧d.model=m∧m<mc∧d.machine=c∧(lvs ds)[c]?=some 4
structure GV (mc drives:Nat) (s:GS):Prop where
 len:s.doms.length≤35
 drvs:s.drvs.length≤drives
 root:s.doms[0]?=some jV
 dom:∀ i (hi:i+1<s.doms.length),a3I s.doms i s.doms[i+1]
 drv:∀ i (hi:i<s.drvs.length),aXT s.doms mc i s.drvs[i]
theorem GV.a {mc drives:Nat} {s:GS} (h:GV mc drives s) (x:Nat):GV mc drives { s with a:=x }:=⟨h.len,h.drvs,h.root,h.dom,h.drv⟩
theorem alO (l:List Nat) {mc drives dom:Nat} (hmc:0<mc) {s:GS} (h:GV mc drives s) (hd:(lvs s.doms)[dom]?=some 4):∀ n,GV mc drives (gA l mc drives dom s n)∧(gA l mc drives dom s n).doms=s.doms
 | 0=>⟨h,rfl⟩
 | n+1=>by
  obtain⟨h1,h2⟩:=alO l hmc h hd n
  simp only[gA]
  generalize gA l mc drives dom s n=t at *
  split
  ·rename_i hlt
   refine⟨⟨h1.len,by simp only[baI,baL]; omega,h1.root,h1.dom,?_⟩,h2⟩
   refine nP (P:=fun i d=>aXT t.doms mc i d) h1.drv ?_
   exact⟨_,dom,rfl,rfl,bT l hmc _,rfl,by rw[h2]; exact hd⟩
  ·exact⟨h1,h2⟩
theorem KD {ds:List cG} {p:Nat} {x:Int} {t:List cG} (h:(lvs ds)[p]?=some x):(lvs (ds++t))[p]?=some x:=by
 unfold lvs at *
 rw[bcA,bdA]
 ·exact h
 ·exact (bbR.1 h).1
theorem aTH (l:List Nat) {mc drives dom level:Nat} {s:GS} (h:GV mc drives s) (hl1:1≤level) (hl:level≤4) (hd:(lvs s.doms)[dom]?=some ((level:Int)-1)) (hf:mI drives s=false) :
  GV mc drives (kA l level dom s)∧(∃ t,(kA l level dom s).doms=s.doms++t)∧(kA l level dom s).doms.length=s.doms.length+1∧(lvs (kA l level dom s).doms)[s.doms.length]?=some (level:Int):=by
 unfold mI at hf
 simp only[Bool.or_eq_false_iff,decide_eq_false_iff_not] at hf
 have hdl:dom<s.doms.length:=by
  have:=(bbR.1 hd).1
  rwa [baF] at this
 have hu:=bT l (show 0<16 by decide) s.a
 have hk:=bT l (show 0<6 by decide) (aD l 3 (aD l 16 s.a).2).2
 unfold kA
 simp only
 generalize aD l 16 s.a=u at *
 generalize aD l 3 u.2=t at *
 generalize aD l 6 t.2=k at *
 have hsh:oP (if t.1=0 then (mkT 1 ((2+k.1:Nat):Int),k.2) else (gL,t.2)).1:=by
  split
  ·exact (SmF.mk' (a:=1) (b:=2+k.1) (by omega) (by omega) (by omega)).o
  ·exact mB.o
 generalize (if t.1=0 then (mkT 1 ((2+k.1:Nat):Int),k.2) else (gL,t.2))=sh at *
 refine⟨⟨by simp only[baI,baL]; omega,h.drvs,?_,?_,fun i hi=>?_⟩,⟨_,rfl⟩,by simp,?_⟩
 ·rw[bdA (by omega)]; exact h.root
 ·intro i hi
  simp only[baI,baL] at hi
  by_cases hlt:i+1<s.doms.length
  ·rw[List.getElem_append_left hlt]
   obtain⟨lev,p,v,h1,h2,h3,h4,h5,h6,h7,h8⟩:=h.dom i hlt
   exact⟨lev,p,v,h1,h2,h3,h4,h5,h6,KD h7,h8⟩
  ·have:i+1=s.doms.length:=by omega
   rw[List.getElem_append_right (by omega)]
   simp only[List.getElem_singleton]
   exact⟨level,dom,1+u.1,by rw[this],rfl,hl1,hl,rfl,by omega,KD hd,rfl,by omega,by omega,hsh⟩
 ·obtain⟨m,c,h1,h2,h3,h4,h5⟩:=h.drv i hi
  exact⟨m,c,h1,h2,h3,h4,KD h5⟩
 ·unfold lvs
  rw[bcA,bdE (by rw[baF]; exact baJ _),baF,Nat.sub_self]
  rfl
theorem alP (l:List Nat) {mc drives dom level:Nat} (hl1:1≤level) (hl:level≤4) {rec:Nat→GS→GS}
  (hrec:∀ d t,GV mc drives t→(lvs t.doms)[d]?=some (level:Int)→GV mc drives (rec d t)∧∃ u,(rec d t).doms=t.doms++u) {s:GS} (h:GV mc drives s) (hd:(lvs s.doms)[dom]?=some ((level:Int)-1)) :
  ∀ n,GV mc drives (eY l level drives dom rec s n)∧∃ u,(eY l level drives dom rec s n).doms=s.doms++u
 | 0=>⟨h,[],by simp[eY]⟩
 | n+1=>by
  obtain⟨h1,u,h2⟩:=alP l hl1 hl hrec h hd n
  simp only[eY]
  generalize eY l level drives dom rec s n=t at *
  split
  ·exact⟨h1,u,h2⟩
  ·rename_i hf
   have hdt:(lvs t.doms)[dom]?=some ((level:Int)-1):=by rw[h2]; exact KD hd
   obtain⟨k1,⟨v,k2⟩,k3,k4⟩:=aTH l h1 hl1 hl hdt (by simpa using hf)
   obtain⟨m1,w,m2⟩:=hrec ((kA l level dom t).doms.length-1) (kA l level dom t) k1 (by rw[k3,Nat.add_sub_cancel]; exact k4)
   exact⟨m1,u++(v++w),by rw[m2,k2,h2]; simp⟩
theorem alQ (l:List Nat) {mc drives:Nat} (hmc:0<mc):∀ (k:Nat),k≤4→∀ (dom:Nat) {s:GS},GV mc drives s→(lvs s.doms)[dom]?=some (4-(k:Int))→GV mc drives (dS l mc drives k dom s)∧∃ u,(dS l mc drives k dom s).doms=s.doms++u
 | 0,_,dom,s,h,hd=>by
  simp only[dS]
  obtain⟨h1,h2⟩:=alO l hmc (h.a (aD l 2 s.a).2) hd (1+(aD l 2 s.a).1)
  exact⟨h1,[],by rw[h2]; simp⟩
 | k+1,hk,dom,s,h,hd=>by
  simp only[dS]
  refine alP l (by omega) (by omega) (fun d t ht hdt=>alQ l hmc k (by omega) d ht ?_) (h.a (aD l 2 s.a).2) ?_ _
  ·rw[hdt]; congr 1; omega
  ·rw[hd]; congr 1; omega
end Go.PM
namespace Go.PM
open Go Go.Na
theorem aaF (lev:Nat) (h1:1≤lev) (h4:lev≤4):fP (iK lev).toNat=true∧iK lev≠100:=by
 have:lev=1∨lev=2∨lev=3∨lev=4:=by omega
 rcases this with rfl | rfl | rfl | rfl<;>decide
theorem WC (c:UInt8) {k:Nat} (hk:k<100):KN (([c]++bM k).drop 1)=k:=by
 show KN (bM k)=k
 rw[FF hk]
 exact (aiX ⟨k,hk⟩).1
theorem awD {mc drives:Nat} {s:GS} (h:GV mc drives s) (hd:drives≤60):distinct ((s.doms.drop 1).map cG.name++s.drvs.map cM.name)=true:=by
 have hA:∀ i (hi:i<((s.doms.drop 1).map cG.name).length),∃ lev:Nat,1≤lev∧lev≤4∧((s.doms.drop 1).map cG.name)[i]=[iK lev]++bM (i+1):=by
  intro i hi
  rw[baF,bbZ] at hi
  obtain⟨lev,p,u,h1,-,h3,h4,-⟩:=h.dom i (by omega)
  refine⟨lev,h3,h4,?_⟩
  rw[bbW,List.getElem_drop]
  simp only[Nat.add_comm 1 i]
  exact h1
 have hB:∀ i (hi:i<(s.drvs.map cM.name).length),(s.drvs.map cM.name)[i]=[100]++bM i:=by
  intro i hi
  rw[baF] at hi
  obtain⟨m,c,h1,-⟩:=h.drv i hi
  rw[bbW]; exact h1
 have lA:((s.doms.drop 1).map cG.name).length≤40:=by rw[baF,bbZ]; have:=h.len; omega
 have lB:(s.drvs.map cM.name).length≤60:=by rw[baF]; have:=h.drvs; omega
 generalize (s.doms.drop 1).map cG.name=A at *
 generalize s.drvs.map cM.name=B at *
 refine KU ?_ ?_
 ·intro x hx
  rcases bcE.1 hx with hx | hx
  ·obtain⟨i,hi,rfl⟩:=bbX hx
   obtain⟨lev,h1,h4,e⟩:=hA i hi
   rw[e]
   exact XZ rfl (aaF lev h1 h4).1 rfl (by simp) (by omega)
  ·obtain⟨i,hi,rfl⟩:=bbX hx
   rw[hB i hi]
   exact XZ rfl (by decide) rfl (by simp) (by omega)
 ·rw[bcU]
  refine⟨?_,?_,?_⟩
  ·refine GN (g:=fun s=>KN (s.drop 1)-1) fun i hi=>?_
   obtain⟨lev,-,-,e⟩:=hA i hi
   rw[e,WC _ (by omega)]
   omega
  ·refine GN (g:=fun s=>KN (s.drop 1)) fun i hi=>?_
   rw[hB i hi]
   exact WC _ (by omega)
  ·intro x hx y hy e
   obtain⟨i,hi,rfl⟩:=bbX hx
   obtain⟨j,hj,rfl⟩:=bbX hy
   obtain⟨lev,h1,h4,e1⟩:=hA i hi
   rw[e1,hB j hj] at e
   exact (aaF lev h1 h4).2 (List.cons.inj e).1
theorem aQY {mc drives a:Nat}:GV mc drives ⟨[jV],[],a⟩ :=
 ⟨by simp,baR _,rfl,fun i hi=>absurd hi (by simp),fun i hi=>absurd hi (by simp)⟩
theorem aUJ {mc drives:Nat} {s:GS} (h:GV mc drives s) (f:aI) (hf:f.domains=s.doms):lD f=true:=by
 have hr:=h.root
 have hdom:=h.dom
 unfold lD
 rw[hf]
 cases hdm:s.doms with
 | nil=>rw[hdm] at hr; cases hr
 | cons r t =>
  rw[hdm] at hr
  have:r=jV:=by simpa using hr
  subst this
  show JL f jV t=true
  unfold JL
  simp only[bbB]
  refine⟨⟨⟨⟨⟨⟨rfl,rfl⟩,rfl⟩,rfl⟩,mB.lim⟩,by rw[show jV.shock=gL from rfl,mB.zero]; rfl⟩,?_⟩
  rw[bbQ]
  intro i hi
  rw[bcF] at hi
  rw[baQ hi]
  obtain⟨lev,p,u,h1,h2,h3,h4,h5,h6,h7,h8,h9,h10,h11⟩:=hdom i (by rw[hdm]; simp; omega)
  have e:s.doms[i+1]'(by rw[hdm]; simp; omega)=t[i]:=by simp[hdm]
  rw[e] at h1 h2 h5 h8 h11
  show NL f i t[i]=true
  unfold NL
  simp only[bbB]
  refine⟨⟨⟨⟨?_,?_⟩,?_⟩,?_⟩,h11.lim⟩
  ·rw[h5]; exact dK (by omega) (by omega)
  ·rw[h5,h2,hf,bdD,bbI,h7,WS (by omega) (by omega)]
   exact decide_eq_true rfl
  ·rw[h2]; exact dK (by omega) (by omega)
  ·rw[h8]; exact dK (by omega) (by omega)
theorem tJ (l:List Nat) (drives volumes a:Nat) (hd:drives≤24) (hv:volumes≤12) :
  cL (fT l drives volumes a).1=true∧(fT l drives volumes a).1.Ok:=by
 unfold fT
 simp only
 have he:=bT l (show 0<2 by decide) a
 generalize aD l 2 a=e at *
 have hlw:=bT l (show 0<2 by decide) e.2
 generalize aD l 2 e.2=lw at *
 obtain⟨w1,w2⟩:=KZ l lw.2 (1+lw.1)
 generalize fL l lw.2 (1+lw.1)=laws at *
 have hmd:=bT l (show 0<2 by decide) laws.2
 generalize aD l 2 laws.2=md at *
 obtain⟨m1,m2⟩:=DO l (1+lw.1) (by omega) md.2 (1+md.1)
 generalize dD l (1+lw.1) md.2 (1+md.1)=models at *
 obtain⟨G,-⟩:=alQ l (mc:=1+md.1) (drives:=drives) (by omega) 4 (by decide) 0 (s:=⟨[jV],[],models.2⟩) aQY rfl
 generalize dS l (1+md.1) drives 4 0 ⟨[jV],[],models.2⟩=g at *
 have hpl:=bT l (show 0<2 by decide) g.a
 generalize aD l 2 g.a=pl at *
 obtain⟨p1,p2⟩:=uX l (mc:=1+md.1) (by omega) (by omega) pl.2 (1+pl.1)
 generalize cR l (1+md.1) pl.2 (1+pl.1)=pols at *
 have hvo:=bT l (show 0<volumes+1 by omega) pols.2
 generalize aD l (volumes+1) pols.2=vo at *
 obtain⟨v1,v2⟩:=zB l (pc:=1+pl.1) (by omega) vo.2 vo.1
 generalize dJ l (1+pl.1) vo.2 vo.1=vols at *
 have g1:=G.len
 have g2:=G.drvs
 have hdp:∀ f:aI,f.domains=g.doms→lD f=true:=fun f hf=>aUJ G f hf
 have hfit:∀ n:Nat,n≤1000→n≤9223372036854775807:=fun n h=>by omega
 have hdrv:∀ x∈g.drvs,∃ m c:Nat,x.model=m∧m<1+md.1∧x.machine=c∧c<g.doms.length∧(lvs g.doms)[c]?=some 4:=by
  intro x hx
  obtain⟨i,hi,rfl⟩:=bbX hx
  obtain⟨m,c,-,h2,h3,h4,h5⟩:=G.drv i hi
  refine⟨m,c,h2,h3,h4,?_,h5⟩
  have:=(bbR.1 h5).1
  rwa [baF] at this
 constructor
 ·unfold cL
  rw[hdp _ rfl]
  simp only[bbB,bcY]
  refine⟨⟨?_,⟨⟨⟨⟨?_,?_⟩,?_⟩,?_⟩,?_⟩⟩,⟨⟨⟨?_,?_⟩,awD G (by omega)⟩,?_⟩,?_⟩
  ·unfold lY
   simp only[bbB]
   exact⟨⟨⟨⟨⟨⟨dK (by omega) (by omega),decide_eq_true (by omega)⟩,decide_eq_true (by omega)⟩,decide_eq_true (by omega)⟩,decide_eq_true (by omega)⟩,decide_eq_true (by omega)⟩,decide_eq_true (by omega)⟩
  ·exact sT fun i hi=>(w2 i hi).2.1
  ·refine sT fun i hi=>?_
   obtain⟨-,x,y,z,e1,e2,e3,e4,e5,e6,e7,e8⟩:=m2 i hi
   unfold jM
   simp only[bbB]
   rw[e1,e4,e7,w1]
   exact⟨⟨dK (by omega) (by omega),dK (by omega) (by omega)⟩,dK (by omega) (by omega)⟩
  ·rw[bbQ]
   intro x hx
   obtain⟨m,c,e1,e2,e3,e4,e5⟩:=hdrv x hx
   unfold gR
   simp only[bbB]
   rw[e1,e3,m1,bdD,bbI,e5]
   exact⟨⟨dK (by omega) (by omega),dK (by omega) (by omega)⟩,rfl⟩
  ·refine sT fun i hi=>?_
   rw[m1]; exact (p2 i hi).2.1
  ·refine sT fun i hi=>?_
   obtain⟨-,p,e1,e2⟩:=v2 i hi
   unfold kY
   rw[e1,p1]
   exact dK (by omega) (by omega)
  ·refine oW (p:=[108,97,119]) rfl (by decide) (by decide) (by decide) (by rw[baF]; omega) fun i hi=>?_
   rw[bbW]; exact (w2 i (by simpa using hi)).1
  ·refine oW (p:=[109]) rfl (by decide) (by decide) (by decide) (by rw[baF]; omega) fun i hi=>?_
   rw[bbW]; exact (m2 i (by simpa using hi)).1
  ·refine oW (p:=[112]) rfl (by decide) (by decide) (by decide) (by rw[baF]; omega) fun i hi=>?_
   rw[bbW]; exact (p2 i (by simpa using hi)).1
  ·refine oW (p:=[118]) rfl (by decide) (by decide) (by decide) (by rw[baF]; omega) fun i hi=>?_
   rw[bbW]; exact (v2 i (by simpa using hi)).1
 ·refine⟨hfit laws.1.length (by omega),hfit models.1.length (by omega),hfit g.doms.length (by omega),hfit g.drvs.length (by omega),hfit pols.1.length (by omega),hfit vols.1.length (by omega),?_,?_,?_,?_,?_⟩
  ·intro x hx
   obtain⟨i,hi,rfl⟩:=bbX hx
   exact (w2 i hi).2.2
  ·intro x hx
   obtain⟨i,hi,rfl⟩:=bbX hx
   rcases bcB i with rfl | hp
   ·have:g.doms[0]=jV:=by have:=G.root; rw[baQ hi] at this; exact bcJ.inj this
    rw[this]
    exact⟨mB.ok,by unfold dQ; decide,by unfold dQ; decide⟩
   ·obtain⟨k,rfl⟩:∃ k,i=k+1:=⟨i-1,by omega⟩
    obtain⟨lev,p,u,h1,h2,h3,h4,h5,h6,h7,h8,h9,h10,h11⟩:=G.dom k hi
    have hi':k+1<g.doms.length:=hi
    rw[h2,h5]
    exact⟨h11.ok,by unfold dQ; omega,by unfold dQ; omega⟩
  ·intro x hx
   obtain⟨m,c,e1,e2,e3,e4,e5⟩:=hdrv x hx
   rw[e1,e3]
   unfold dQ; omega
  ·intro x hx
   obtain⟨i,hi,rfl⟩:=bbX hx
   exact (p2 i hi).2.2
  ·intro x hx
   obtain⟨i,hi,rfl⟩:=bbX hx
   obtain⟨-,p,e1,e2⟩:=v2 i hi
   rw[e1]
   unfold dQ; omega
end Go.PM
namespace Go.PM
open Go
def aeT:Rg:=[iA 1 (.box true (Tm 0)),iA 2 (.mv (.const (.bool false)))]
def aeU:Rg:=[iA 3 (.load (some 7) (Tm 1)),iA 4 (.call 96 [(Tm 3)]),iC 5 .eql 4 0,iM 2 5]
def xJ:aC:=(.seq (.region aeT) (.seq (.region aeU) .ret))
def aMV:List Nat:=[1]
def ID:bD:=⟨1,6,xJ,[.tmp 2]⟩
def asI:Rg:=[iA 2 (.box true (Tm 0)),iI 4 0]
def asJ:Rd:=[(iF 6 5 2,false),(iL 7 6,false),(iF 8 6 2,false),(iL 9 8,false),(iM 10 1,false),(iX 11 2 9 10,false),(iF 12 1 11,false),(iL 13 12,false),(iX 14 17 7 13,false),(iA 15 (.load (some 17) (Tm 14)),false),(iA 5 (.alloc [(.str []),(.int .i64 0),(.int .i64 0),(.int .i64 0),(.int .i64 0),(.int .i64 0),(.int .i64 0),(.int .i64 0),(.int .i64 0),.nils,.nils,(.bool false),.nils,.nils,(.bool false),.nils,.nils]),true),(iS 17 5 15,true)]
def asK:Rg:=[iF 16 1 5,iL 17 16,iF 18 2 5,iL 19 18,iB 20 .add 17 19,iM 4 20]
def CH:aC:=(.seq (.region asI) (.seq (.draw asJ) (.seq (.region asK) .ret)))
def aRH:List Nat:=[2]
def VH:bD:=⟨2,21,CH,[.tmp 4]⟩
def adO:Rg:=[iA 3 (.box true (Tm 0)),iI 6 0]
def adP:Rg:=[iF 8 4 3,iL 9 8,iM 10 1,iX 11 3 9 10,iF 12 2 11,iL 13 12,iM 7 13]
def adQ:Rg:=[iF 14 3 3,iL 15 14,iM 16 7,iX 17 7 15 16,iF 18 1 17,iL 19 18,iM 20 2,iB 21 .gtr 19 20]
def adR:Rg:=[iF 22 3 3,iL 23 22,iM 24 7,iX 25 7 23 24,iF 26 2 25,iL 27 26,iM 7 27]
def adN:aC:=(.seq (.seq (.region adQ) (.cond (Tm 21) .skip (.exit 0))) (.block 1 (.region adR)))
def adS:Rg:=[iM 28 7,iM 6 28]
def xE:aC:=(.seq (.region adO) (.seq (.region adP) (.seq (.block 0 (.loop adN)) (.seq (.region adS) .ret))))
def aMA:List Nat:=[3]
def HU:bD:=⟨3,29,xE,[.tmp 6]⟩
def asN:Rg:=[iA 2 (.box true (Tm 0)),iA 4 (.mv (.const .nils))]
def asO:Rg:=[iA 7 (.load (some 7) (Tm 2)),iA 8 (.call 161 [(Tm 7)]),iA 9 (.un .not (Tm 8))]
def asP:Rg:=[iA 4 (.mv (.const .nils))]
def asQ:Rg:=[iF 10 4 2,iL 11 10,iN 12 11,iA 13 (.mkslice 1 8 [(.int .i64 0)] (Tm 12) (Tm 12)),iM 5 13]
def asR:Rg:=[iM 14 5,iN 15 14,iI 16 0]
def asS:Rg:=[iB 17 .lss 16 15]
def asT:Rg:=[iM 18 16,iM 6 18]
def asU:Rd:=[(iM 19 5,false),(iM 20 6,false),(iF 21 2 2,false),(iL 22 21,false),(iF 23 4 2,false),(iL 24 23,false),(iM 25 6,false),(iX 26 3 24 25,false),(iF 27 1 26,false),(iL 28 27,false),(iX 29 4 22 28,false),(iF 30 1 29,false),(iL 31 30,false),(iX 32 1 19 20,false),(iS 1 32 31,true)]
def asV:Rg:=[iM 33 1,iN 34 33,iM 35 5,iN 36 35,iB 37 .eql 34 36]
def asW:Rd:=[(iM 38 5,false),(iM 39 6,false),(iM 40 1,false),(iM 41 6,false),(iX 42 1 40 41,false),(iL 43 42,false),(iA 44 (.minmax true (Tm 43) (Ci 0)),false),(iM 45 5,false),(iM 46 6,false),(iX 47 1 45 46,false),(iL 48 47,false),(iA 49 (.minmax false (Tm 44) (Tm 48)),false),(iX 50 1 38 39,false),(iS 1 50 49,true)]
def IB:Rg:=[iC 51 .add 16 1,iM 16 51]
def aeK:aC:=(.seq (.region asS) (.seq (.cond (Tm 17) .skip (.exit 0)) (.seq (.block 1 (.seq (.region asT) (.seq (.draw asU) (.seq (.region asV) (.cond (Tm 37) (.draw asW) .skip))))) (.region IB))))
def aeL:Rg:=[iM 52 5,iM 4 52]
def CK:aC:=(.seq (.region asN) (.seq (.seq (.region asO) (.cond (Tm 9) (.seq (.region asP) .ret) .skip)) (.seq (.region asQ) (.seq (.seq (.region asR) (.block 0 (.loop aeK))) (.seq (.region aeL) .ret)))))
def aRL:List Nat:=[2]
def VN:bD:=⟨2,53,CK,[.tmp 4]⟩
def aMB:Rg:=[iA 3 (.box true (Tm 0)),iI 6 0]
def aMC:Rg:=[iA 7 (.load (some 7) (Tm 3)),iA 8 (.call 161 [(Tm 7)]),iA 9 (.un .not (Tm 8)),iM 10 9,iG 11 (.mv (Tm 1)) 10 false,iG 12 (.bin .lss (Tm 11) (Ci 0)) 10 false,iA 13 (.pick (Tm 10) (.const (.bool true)) (Tm 12)),iM 14 13,iG 15 (.mv (Tm 1)) 14 false,iG 16 (.fieldA 4 (Tm 3)) 14 false,iG 17 (.load none (Tm 16)) 14 false,iG 18 (.len (Tm 17)) 14 false,iG 19 (.bin .geq (Tm 15) (Tm 18)) 14 false,iA 20 (.pick (Tm 14) (.const (.bool true)) (Tm 19)),iM 21 20,iG 22 (.mv (Tm 2)) 21 false,iG 23 (.bin .lss (Tm 22) (Ci 0)) 21 false,iA 24 (.pick (Tm 21) (.const (.bool true)) (Tm 23)),iM 25 24,iG 26 (.mv (Tm 2)) 25 false,iG 27 (.bin .geq (Tm 26) (Ci 5)) 25 false,iA 28 (.pick (Tm 25) (.const (.bool true)) (Tm 27))]
def yW:Rg:=[iI 6 (-1)]
def aMD:Rg:=[iA 29 (.load (some 7) (Tm 3)),iM 30 1,iM 31 2,iA 32 (.call 155 [(Tm 29),(Tm 30),(Tm 31)]),iM 6 32]
def QK:aC:=(.seq (.region aMB) (.seq (.seq (.region aMC) (.cond (Tm 28) (.seq (.region yW) .ret) .skip)) (.seq (.region aMD) .ret)))
def aZD:List Nat:=[3]
def tat:bD:=⟨3,33,QK,[.tmp 6]⟩
def UY:Rg:=[iA 2 (.box true (Tm 0)),iA 4 (.mv (.const .nils))]
def UZ:Rg:=[iA 5 (.mv (.const .nils))]
def VA:Rg:=[iA 7 (.load (some 7) (Tm 2)),iA 8 (.call 161 [(Tm 7)]),iA 9 (.un .not (Tm 8)),iM 10 9,iG 11 (.mv (Tm 1)) 10 false,iG 12 (.bin .lss (Tm 11) (Ci 0)) 10 false,iA 13 (.pick (Tm 10) (.const (.bool true)) (Tm 12)),iM 14 13,iG 15 (.mv (Tm 1)) 14 false,iG 16 (.fieldA 3 (Tm 2)) 14 false,iG 17 (.load none (Tm 16)) 14 false,iG 18 (.len (Tm 17)) 14 false,iG 19 (.bin .geq (Tm 15) (Tm 18)) 14 false,iA 20 (.pick (Tm 14) (.const (.bool true)) (Tm 19))]
def sN:Rg:=[iM 21 5,iM 4 21]
def VB:Rg:=[iF 22 4 2,iL 23 22,iN 24 23,iI 25 0]
def VC:Rg:=[iB 26 .lss 25 24]
def VD:Rg:=[iM 27 25,iM 6 27]
def VE:Rd:=[(iA 28 (.load (some 7) (Tm 2)),false),(iM 29 6,false),(iF 30 3 2,false),(iL 31 30,false),(iM 32 1,false),(iX 33 7 31 32,false),(iF 34 1 33,false),(iL 35 34,false),(iA 36 (.call 155 [(Tm 28),(Tm 29),(Tm 35)]),true),(iM 37 1,true),(iB 38 .eql 36 37,false)]
def VG:Rg:=[iM 39 5,iM 40 6,iA 41 (.bslice true 1 1 [(.int .i64 0)] [(0,(Tm 40))]),iA 42 (.append 1 8 (Tm 39) (Tm 41)),iM 5 42]
def CG:Rg:=[iC 43 .add 25 1,iM 25 43]
def MN:aC:=(.seq (.region VC) (.seq (.cond (Tm 26) .skip (.exit 0)) (.seq (.block 1 (.seq (.region VD) (.seq (.draw VE) (.cond (Tm 38) (.region VG) .skip)))) (.region CG))))
def MO:Rg:=[iM 44 5,iM 4 44]
def uE:aC:=(.seq (.region UY) (.seq (.region UZ) (.seq (.seq (.region VA) (.cond (Tm 20) (.seq (.region sN) .ret) .skip)) (.seq (.seq (.region VB) (.block 0 (.loop MN))) (.seq (.region MO) .ret)))))
def aHK:List Nat:=[2,41]
def yX:bD:=⟨2,45,uE,[.tmp 4]⟩
def adT:Rg:=[iA 2 (.box true (Tm 0)),iA 4 (.mv (.const .nils))]
def adU:Rg:=[iA 5 (.mv (.const .nils))]
def adV:Rg:=[iA 8 (.load (some 7) (Tm 2)),iA 9 (.call 161 [(Tm 8)]),iA 10 (.un .not (Tm 9)),iM 11 10,iG 12 (.mv (Tm 1)) 11 false,iG 13 (.bin .lss (Tm 12) (Ci 0)) 11 false,iA 14 (.pick (Tm 11) (.const (.bool true)) (Tm 13))]
def HW:Rg:=[iM 15 5,iM 4 15]
def adW:Rg:=[iF 16 3 2,iL 17 16,iN 18 17,iI 19 0]
def adX:Rg:=[iB 20 .lss 19 18]
def adY:Rg:=[iM 21 19,iX 22 7 17 19,iA 23 (.load (some 7) (Tm 22)),iA 7 (.alloc [(.str []),(.int .i64 0),(.int .i64 0),(.int .i64 0),(.bool false),.nils,.nils]),iM 6 21,iS 7 7 23]
def HX:Rg:=[iF 24 2 7,iL 25 24,iM 26 1,iB 27 .eql 25 26]
def adZ:Rg:=[iM 28 5,iM 29 6,iA 30 (.bslice true 1 1 [(.int .i64 0)] [(0,(Tm 29))]),iA 31 (.append 1 8 (Tm 28) (Tm 30)),iM 5 31]
def HY:Rg:=[iC 32 .add 19 1,iM 19 32]
def UW:aC:=(.seq (.region adX) (.seq (.cond (Tm 20) .skip (.exit 0)) (.seq (.block 1 (.seq (.region adY) (.seq (.region HX) (.cond (Tm 27) (.region adZ) .skip)))) (.region HY))))
def UX:Rg:=[iM 33 5,iM 4 33]
def xF:aC:=(.seq (.region adT) (.seq (.region adU) (.seq (.seq (.region adV) (.cond (Tm 14) (.seq (.region HW) .ret) .skip)) (.seq (.seq (.region adW) (.block 0 (.loop UW))) (.seq (.region UX) .ret)))))
def aMF:List Nat:=[2,30]
def HV:bD:=⟨2,34,xF,[.tmp 4]⟩
def aeC:Rg:=[iA 2 (.box true (Tm 0)),iA 4 (.mv (.const .nils))]
def aeD:Rg:=[iF 10 4 2,iL 11 10,iN 12 11,iA 13 (.mkslice 1 8 [(.int .i64 0)] (Tm 12) (Tm 12)),iM 5 13]
def aeE:Rg:=[iM 14 1,iN 15 14,iI 16 0]
def aeF:Rg:=[iB 17 .lss 16 15]
def aeG:Rg:=[iX 18 1 14 16,iL 19 18,iM 7 19]
def aeH:Rg:=[iM 20 7,iN 21 20,iI 22 0]
def aeI:Rg:=[iB 23 .lss 22 21]
def vD:Rg:=[iX 24 1 20 22,iL 25 24,iM 9 25]
def vE:Rg:=[iM 26 9,iC 27 .geq 26 0,iM 28 27,iG 29 (.mv (Tm 9)) 28 true,iG 30 (.mv (Tm 5)) 28 true,iG 31 (.len (Tm 30)) 28 true,iG 32 (.bin .lss (Tm 29) (Tm 31)) 28 true,iA 33 (.pick (Tm 28) (Tm 32) (.const (.bool false)))]
def aeJ:Rg:=[iM 34 5,iM 35 9,iX 36 1 34 35,iL 37 36,iC 38 .add 37 1,iX 39 1 34 35,iS 1 39 38]
def sO:Rg:=[iC 40 .add 22 1,iM 22 40]
def VI:aC:=(.seq (.region aeI) (.seq (.cond (Tm 23) .skip (.exit 2)) (.seq (.block 3 (.seq (.region vD) (.seq (.region vE) (.cond (Tm 33) (.region aeJ) .skip)))) (.region sO))))
def CI:Rg:=[iC 41 .add 16 1,iM 16 41]
def VJ:aC:=(.seq (.region aeF) (.seq (.cond (Tm 17) .skip (.exit 0)) (.seq (.block 1 (.seq (.region aeG) (.seq (.region aeH) (.block 2 (.loop VI))))) (.region CI))))
def CJ:Rg:=[iM 42 5,iM 4 42]
def xH:aC:=(.seq (.region aeC) (.seq (.region aeD) (.seq (.seq (.region aeE) (.block 0 (.loop VJ))) (.seq (.region CJ) .ret))))
def aMK:List Nat:=[2]
def IA:bD:=⟨2,43,xH,[.tmp 4]⟩
def adJ:Rg:=[iA 2 (.box true (Tm 0)),iA 4 (.mv (.const .nils))]
def adK:Rg:=[iA 5 (.load (some 7) (Tm 2)),iA 6 (.call 161 [(Tm 5)]),iA 7 (.un .not (Tm 6))]
def adL:Rg:=[iA 4 (.mv (.const .nils))]
def adM:Rg:=[iA 8 (.load (some 7) (Tm 2)),iM 9 1,iA 10 (.call 157 [(Tm 8),(Tm 9)]),iM 4 10]
def xD:aC:=(.seq (.region adJ) (.seq (.seq (.region adK) (.cond (Tm 7) (.seq (.region adL) .ret) .skip)) (.seq (.region adM) .ret)))
def aLY:List Nat:=[2]
def HT:bD:=⟨2,11,xD,[.tmp 4]⟩
def aeN:Rg:=[iA 3 (.box true (Tm 0)),iA 6 (.alloc [(.int .i64 0),(.int .i64 0),(.int .i64 0)]),iA 7 (.mv (.const (.bool false)))]
def aeO:Rd:=[(iM 10 1,true),(iM 11 2,true),(iX 12 1 10 11,true),(iL 13 12,true),(iN 14 13,true),(iA 15 (.load (some 7) (Tm 3)),false),(iM 16 2,false),(iA 17 (.call 156 [(Tm 15),(Tm 16)]),true),(iB 18 .neq 14 17,false)]
def aeP:Rg:=[iM 19 2,iM 20 1,iM 21 2,iX 22 1 20 21,iL 23 22,iN 24 23,iA 25 (.build [(.int .i64 0),(.int .i64 0),(.int .i64 0)] [(0,1,(Ci 1)),(1,1,(Tm 19)),(2,1,(Tm 24))]),iS 3 6 25,iA 7 (.mv (.const (.bool true)))]
def aeQ:Rg:=[iM 26 1,iM 27 2,iX 28 1 26 27,iL 29 28,iN 30 29,iI 31 0]
def aeR:Rg:=[iB 32 .lss 31 30]
def vF:Rg:=[iM 33 31,iX 34 1 29 31,iL 35 34,iM 8 33,iM 9 35]
def vG:Rg:=[iM 36 9,iC 37 .lss 36 (-1),iM 38 37,iG 39 (.mv (Tm 9)) 38 false,iG 40 (.fieldA 4 (Tm 3)) 38 false,iG 41 (.load none (Tm 40)) 38 false,iG 42 (.len (Tm 41)) 38 false,iG 43 (.bin .geq (Tm 39) (Tm 42)) 38 false,iA 44 (.pick (Tm 38) (.const (.bool true)) (Tm 43))]
def IC:Rg:=[iM 45 2,iM 46 8,iA 47 (.build [(.int .i64 0),(.int .i64 0),(.int .i64 0)] [(0,1,(Ci 1)),(1,1,(Tm 45)),(2,1,(Tm 46))]),iS 3 6 47,iA 7 (.mv (.const (.bool true)))]
def aeS:Rg:=[iC 48 .add 31 1,iM 31 48]
def aeM:aC:=(.seq (.region aeR) (.seq (.cond (Tm 32) .skip (.exit 0)) (.seq (.block 1 (.seq (.region vF) (.seq (.region vG) (.cond (Tm 44) (.seq (.region IC) .ret) .skip)))) (.region aeS))))
def VO:Rg:=[iA 49 (.build [(.int .i64 0),(.int .i64 0),(.int .i64 0)] []),iS 3 6 49,iA 7 (.mv (.const (.bool false)))]
def xI:aC:=(.seq (.region aeN) (.seq (.seq (.draw aeO) (.cond (Tm 18) (.seq (.region aeP) .ret) .skip)) (.seq (.seq (.region aeQ) (.block 0 (.loop aeM))) (.seq (.region VO) .ret))))
def aMT:List Nat:=[3]
def uF:bD:=⟨3,50,xI,[.cell 6 (some 3),.tmp 7]⟩
def UN:Rg:=[iA 2 (.box true (Tm 0)),iA 4 (.mv (.const (.bool false)))]
def UO:Rg:=[iA 8 (.load (some 7) (Tm 2)),iA 9 (.call 161 [(Tm 8)]),iA 10 (.un .not (Tm 9)),iM 11 10,iG 12 (.mv (Tm 1)) 11 false,iG 13 (.len (Tm 12)) 11 false,iG 14 (.fieldA 6 (Tm 2)) 11 false,iG 15 (.load none (Tm 14)) 11 false,iG 16 (.len (Tm 15)) 11 false,iG 17 (.bin .neq (Tm 13) (Tm 16)) 11 false,iA 18 (.pick (Tm 11) (.const (.bool true)) (Tm 17))]
def CD:Rg:=[iA 4 (.mv (.const (.bool false)))]
def UP:Rg:=[iM 19 1,iN 20 19,iI 21 0]
def UQ:Rg:=[iB 22 .lss 21 20]
def UR:Rg:=[iM 23 21,iM 5 23]
def US:Rg:=[iA 25 (.load (some 7) (Tm 2)),iM 26 1,iM 27 5,iA 28 (.call 160 [(Tm 25),(Tm 26),(Tm 27)]),iM 24 28,iA 29 (.extract (Tm 24) 0),iA 30 (.extract (Tm 24) 1),iA 6 (.alloc [(.int .i64 0),(.int .i64 0),(.int .i64 0)]),iS 3 6 29,iM 7 30]
def CE:Rg:=[iM 31 7]
def UT:Rg:=[iA 4 (.mv (.const (.bool false)))]
def UU:Rg:=[iC 32 .add 21 1,iM 21 32]
def ML:aC:=(.seq (.region UQ) (.seq (.cond (Tm 22) .skip (.exit 0)) (.seq (.block 1 (.seq (.region UR) (.seq (.region US) (.seq (.region CE) (.cond (Tm 31) (.seq (.region UT) .ret) .skip))))) (.region UU))))
def MM:Rg:=[iA 4 (.mv (.const (.bool true)))]
def uD:aC:=(.seq (.region UN) (.seq (.seq (.region UO) (.cond (Tm 18) (.seq (.region CD) .ret) .skip)) (.seq (.seq (.region UP) (.block 0 (.loop ML))) (.seq (.region MM) .ret))))
def aHI:List Nat:=[2]
def yV:bD:=⟨2,33,uD,[.tmp 4]⟩
def afF:Rg:=[iA 5 (.alloc [(.int .i64 0),(.int .i64 0),(.int .i64 0)])]
def afG:Rg:=[iM 6 0,iL 7 2,iM 8 1,iA 9 (.build [(.int .i64 0),(.int .i64 0),(.int .i64 0)] [(0,1,(Tm 6)),(1,1,(Tm 7)),(2,1,(Tm 8))]),iS 3 5 9]
def xK:aC:=(.seq (.region afF) (.seq (.region afG) .ret))
def aMX:List Nat:=[]
def II:bD:=⟨2,10,xK,[.cell 5 (some 3)]⟩
def atH:Rg:=[iA 3 (.box true (Tm 0)),iA 5 (.box false (Tm 2)),iA 6 (.mv (.const .nils))]
def atI:Rd:=[(iF 25 5 3,false),(iL 26 25,false),(iF 27 6 3,false),(iL 28 27,false),(iL 29 5,false),(iX 30 2 28 29,false),(iF 31 1 30,false),(iL 32 31,false),(iX 33 17 26 32,false),(iA 34 (.load (some 17) (Tm 33)),false),(iA 7 (.alloc [(.str []),(.int .i64 0),(.int .i64 0),(.int .i64 0),(.int .i64 0),(.int .i64 0),(.int .i64 0),(.int .i64 0),(.int .i64 0),.nils,.nils,(.bool false),.nils,.nils,(.bool false),.nils,.nils]),true),(iS 17 7 34,true)]
def atJ:Rg:=[iF 35 2 3,iL 36 35,iN 37 36,iA 38 (.mkslice 1 1 [(.bool false)] (Tm 37) (Tm 37)),iM 8 38]
def atK:Rg:=[iF 39 9 7,iL 40 39,iN 41 40,iI 42 0]
def atL:Rg:=[iB 43 .lss 42 41]
def atM:Rg:=[iX 44 1 40 42,iL 45 44,iM 10 45]
def atN:Rg:=[iM 46 8,iM 47 10,iX 48 1 46 47,⟨none,.store 1 (Tm 48) (.const (.bool true)),none⟩]
def atO:Rg:=[iC 49 .add 42 1,iM 42 49]
def atG:aC:=(.seq (.region atL) (.seq (.cond (Tm 43) .skip (.exit 0)) (.seq (.block 1 (.seq (.region atM) (.region atN))) (.region atO))))
def atQ:Rg:=[iA 50 (.mkfn 159 [(Tm 5)]),iM 11 50]
def afH:Rg:=[iA 12 (.mv (.const .nils)),iA 13 (.mv (.const .nils))]
def afI:Rd:=[(iF 51 4 3,false),(iL 52 51,false),(iN 53 52,false),(iA 54 (.mkslice 1 8 [(.int .i64 0)] (Tm 53) (Tm 53)),true),(iF 55 3 3,false),(iL 56 55,false),(iN 57 56,false),(iA 58 (.mkslice 1 8 [(.int .i64 0)] (Tm 57) (Tm 57)),true),(iM 14 54,false),(iM 15 58,false)]
def afJ:Rg:=[iM 59 1,iL 60 5,iX 61 1 59 60,iL 62 61,iN 63 62,iI 64 0]
def rN:Rg:=[iB 65 .lss 64 63]
def vI:Rg:=[iM 66 64,iX 67 1 62 64,iL 68 67,iM 16 66,iM 17 68]
def vJ:Rg:=[iM 69 17,iC 70 .lss 69 0]
def afK:Rg:=[iM 71 12,iM 72 11,iM 73 16,iA 74 (.callv (Tm 72) [(Ci 2),(Tm 73)]),iA 75 (.bslice true 3 1 [(.int .i64 0),(.int .i64 0),(.int .i64 0)] [(0,(Tm 74))]),iA 76 (.append 3 24 (Tm 71) (Tm 75)),iM 12 76]
def IL:Rg:=[iM 77 8,iF 78 4 3,iL 79 78,iM 80 17,iX 81 3 79 80,iF 82 1 81,iL 83 82,iX 84 1 77 83,iL 85 84,iA 86 (.un .not (Tm 85))]
def afL:Rg:=[iM 87 13,iM 88 11,iM 89 16,iA 90 (.callv (Tm 88) [(Ci 4),(Tm 89)]),iA 91 (.bslice true 3 1 [(.int .i64 0),(.int .i64 0),(.int .i64 0)] [(0,(Tm 90))]),iA 92 (.append 3 24 (Tm 87) (Tm 91)),iM 13 92]
def IM:Rg:=[iM 93 14,iM 94 17,iX 95 1 93 94,iL 96 95,iC 97 .add 96 1,iX 98 1 93 94,iS 1 98 97]
def IN:Rg:=[iF 99 4 3,iL 100 99,iM 101 17,iX 102 3 100 101,iF 103 2 102,iL 104 103,iM 18 104]
def afM:Rg:=[iM 105 18,iC 106 .gtr 105 0]
def afN:Rg:=[iM 113 15,iM 114 18,iX 115 1 113 114,iL 116 115,iC 117 .add 116 1,iX 118 1 113 114,iS 1 118 117]
def afO:Rg:=[iF 107 3 3,iL 108 107,iM 109 18,iX 110 7 108 109,iF 111 2 110,iL 112 111,iM 18 112]
def vH:aC:=(.seq (.seq (.region afM) (.cond (Tm 106) .skip (.exit 4))) (.seq (.block 5 (.region afN)) (.region afO)))
def vK:Rg:=[iC 119 .add 64 1,iM 64 119]
def oK:aC:=(.seq (.region rN) (.seq (.cond (Tm 65) .skip (.exit 2)) (.seq (.block 3 (.seq (.region vI) (.seq (.seq (.region vJ) (.cond (Tm 70) (.seq (.region afK) (.exit 3)) .skip)) (.seq (.seq (.region IL) (.cond (Tm 86) (.region afL) .skip)) (.seq (.region IM) (.seq (.region IN) (.block 4 (.loop vH)))))))) (.region vK))))
def afP:Rg:=[iM 120 12,iM 19 120]
def afQ:Rg:=[iM 121 14,iN 122 121,iI 123 0]
def afR:Rg:=[iB 124 .lss 123 122]
def afS:Rg:=[iM 125 123,iX 126 1 121 123,iL 127 126,iM 20 125,iM 21 127]
def afT:Rg:=[iM 128 21,iC 129 .gtr 128 1]
def afU:Rg:=[iM 130 19,iM 131 11,iM 132 20,iA 133 (.callv (Tm 131) [(Ci 3),(Tm 132)]),iA 134 (.bslice true 3 1 [(.int .i64 0),(.int .i64 0),(.int .i64 0)] [(0,(Tm 133))]),iA 135 (.append 3 24 (Tm 130) (Tm 134)),iM 19 135]
def IP:Rg:=[iC 136 .add 123 1,iM 123 136]
def IJ:aC:=(.seq (.region afR) (.seq (.cond (Tm 124) .skip (.exit 6)) (.seq (.block 7 (.seq (.region afS) (.seq (.region afT) (.cond (Tm 129) (.region afU) .skip)))) (.region IP))))
def afV:Rg:=[iM 137 19,iM 138 13,iA 139 (.append 3 24 (Tm 137) (Tm 138)),iM 19 139]
def afW:Rg:=[iM 140 15,iN 141 140,iI 142 0]
def afX:Rg:=[iB 143 .lss 142 141]
def afY:Rg:=[iM 144 142,iX 145 1 140 142,iL 146 145,iM 22 144,iM 23 146]
def IQ:Rg:=[iF 147 3 3,iL 148 147,iM 149 22,iX 150 7 148 149,iF 151 1 150,iL 152 151,iF 153 4 7,iA 154 (.idxA 5 1 (Tm 153) (Tm 152)),iL 155 154,iM 24 155]
def vL:Rg:=[iM 156 24,iC 157 .gtr 156 0,iM 158 157,iG 159 (.mv (Tm 23)) 158 true,iG 160 (.mv (Tm 24)) 158 true,iG 161 (.bin .gtr (Tm 159) (Tm 160)) 158 true,iA 162 (.pick (Tm 158) (Tm 161) (.const (.bool false)))]
def afZ:Rg:=[iM 163 19,iM 164 11,iM 165 22,iA 166 (.callv (Tm 164) [(Ci 5),(Tm 165)]),iA 167 (.bslice true 3 1 [(.int .i64 0),(.int .i64 0),(.int .i64 0)] [(0,(Tm 166))]),iA 168 (.append 3 24 (Tm 163) (Tm 167)),iM 19 168]
def vM:Rg:=[iC 169 .add 142 1,iM 142 169]
def IK:aC:=(.seq (.region afX) (.seq (.cond (Tm 143) .skip (.exit 8)) (.seq (.block 9 (.seq (.region afY) (.seq (.region IQ) (.seq (.region vL) (.cond (Tm 162) (.region afZ) .skip))))) (.region vM))))
def agA:Rg:=[iM 170 19,iM 6 170]
def CM:aC:=(.seq (.region atH) (.seq (.draw atI) (.seq (.region atJ) (.seq (.seq (.region atK) (.block 0 (.loop atG))) (.seq (.region atQ) (.seq (.region afH) (.seq (.draw afI) (.seq (.seq (.region afJ) (.block 2 (.loop oK))) (.seq (.region afP) (.seq (.seq (.region afQ) (.block 6 (.loop IJ))) (.seq (.region afV) (.seq (.seq (.region afW) (.block 8 (.loop IK))) (.seq (.region agA) .ret)))))))))))))
def aRQ:List Nat:=[3,75,91,134,167]
def ahT:bD:=⟨3,171,CM,[.tmp 6]⟩
def asX:Rg:=[iA 3 (.box true (Tm 0)),iA 6 (.mv (.const .nils))]
def asY:Rg:=[iA 15 (.load (some 7) (Tm 3)),iA 16 (.call 161 [(Tm 15)]),iA 17 (.un .not (Tm 16)),iM 14 17]
def asZ:Rg:=[iA 6 (.mv (.const .nils))]
def QL:Rg:=[iM 19 1,iN 20 19,iF 21 6 3,iL 22 21,iN 23 22,iB 24 .neq 20 23,iM 18 24]
def atA:Rg:=[iM 25 1,iN 26 25,iA 27 (.build [(.int .i64 0),(.int .i64 0),(.int .i64 0)] [(0,1,(Ci 1)),(1,1,(Ci (-1))),(2,1,(Tm 26))]),iA 28 (.bslice true 3 1 [(.int .i64 0),(.int .i64 0),(.int .i64 0)] [(0,(Tm 27))]),iM 6 28]
def atB:Rg:=[iA 7 (.mv (.const .nils))]
def atC:Rg:=[iM 29 1,iN 30 29,iI 31 0]
def atD:Rg:=[iB 32 .lss 31 30]
def atE:Rg:=[iM 33 31,iM 8 33]
def atF:Rg:=[iA 35 (.load (some 7) (Tm 3)),iM 36 1,iM 37 8,iA 38 (.call 160 [(Tm 35),(Tm 36),(Tm 37)]),iM 34 38,iA 39 (.extract (Tm 34) 0),iA 40 (.extract (Tm 34) 1),iA 9 (.alloc [(.int .i64 0),(.int .i64 0),(.int .i64 0)]),iS 3 9 39,iM 10 40]
def IF:Rg:=[iM 41 10]
def aeW:Rg:=[iM 42 7,iA 43 (.load (some 3) (Tm 9)),iA 44 (.bslice true 3 1 [(.int .i64 0),(.int .i64 0),(.int .i64 0)] [(0,(Tm 43))]),iA 45 (.append 3 24 (Tm 42) (Tm 44)),iM 7 45]
def aeX:Rg:=[iM 46 7,iA 47 (.load (some 7) (Tm 3)),iM 48 1,iM 49 8,iA 50 (.call 158 [(Tm 47),(Tm 48),(Tm 49)]),iA 51 (.append 3 24 (Tm 46) (Tm 50)),iM 7 51]
def IG:Rg:=[iC 52 .add 31 1,iM 31 52]
def aeV:aC:=(.seq (.region atD) (.seq (.cond (Tm 32) .skip (.exit 1)) (.seq (.block 2 (.seq (.region atE) (.seq (.seq (.region atF) (.seq (.region IF) (.cond (Tm 41) (.seq (.region aeW) (.exit 2)) .skip))) (.region aeX)))) (.region IG))))
def aeY:Rg:=[iA 53 (.load (some 7) (Tm 3)),iM 54 2,iA 55 (.call 152 [(Tm 53),(Tm 54)]),iM 11 55]
def aeZ:Rg:=[iA 56 (.load (some 7) (Tm 3)),iM 57 1,iA 58 (.call 157 [(Tm 56),(Tm 57)]),iN 59 58,iI 60 0]
def afA:Rg:=[iB 61 .lss 60 59]
def afB:Rg:=[iM 62 60,iX 63 1 58 60,iL 64 63,iM 12 62,iM 13 64]
def afC:Rg:=[iM 65 13,iM 66 11,iM 67 12,iX 68 1 66 67,iL 69 68,iB 70 .gtr 65 69]
def afD:Rg:=[iM 71 7,iM 72 12,iA 73 (.build [(.int .i64 0),(.int .i64 0),(.int .i64 0)] [(0,1,(Ci 6)),(1,1,(Ci (-1))),(2,1,(Tm 72))]),iA 74 (.bslice true 3 1 [(.int .i64 0),(.int .i64 0),(.int .i64 0)] [(0,(Tm 73))]),iA 75 (.append 3 24 (Tm 71) (Tm 74)),iM 7 75]
def IH:Rg:=[iC 76 .add 60 1,iM 60 76]
def IE:aC:=(.seq (.region afA) (.seq (.cond (Tm 61) .skip (.exit 3)) (.seq (.block 4 (.seq (.region afB) (.seq (.region afC) (.cond (Tm 70) (.region afD) .skip)))) (.region IH))))
def afE:Rg:=[iM 77 7,iM 6 77]
def CL:aC:=(.seq (.region asX) (.seq (.block 0 (.seq (.region asY) (.cond (Tm 14) (.seq (.region asZ) .ret) (.seq (.region QL) (.cond (Tm 18) (.seq (.region atA) .ret) .skip))))) (.seq (.region atB) (.seq (.seq (.region atC) (.block 1 (.loop aeV))) (.seq (.region aeY) (.seq (.seq (.region aeZ) (.block 3 (.loop IE))) (.seq (.region afE) .ret)))))))
def aRO:List Nat:=[3,28,44,74]
def VP:bD:=⟨3,78,CL,[.tmp 6]⟩
def aeA:Rg:=[iA 3 (.box true (Tm 0)),iA 6 (.mv (.const (.bool false)))]
def aeB:Rg:=[iA 7 (.load (some 7) (Tm 3)),iA 8 (.call 161 [(Tm 7)]),iM 9 8,iG 10 (.load (some 7) (Tm 3)) 9 true,iG 11 (.mv (Tm 1)) 9 true,iG 12 (.mv (Tm 2)) 9 true,iG 13 (.call 154 [(Tm 10),(Tm 11),(Tm 12)]) 9 true,iG 14 (.len (Tm 13)) 9 true,iG 15 (.bin .eql (Tm 14) (Ci 0)) 9 true,iA 16 (.pick (Tm 9) (Tm 15) (.const (.bool false))),iM 6 16]
def xG:aC:=(.seq (.region aeA) (.seq (.region aeB) .ret))
def aMI:List Nat:=[3]
def HZ:bD:=⟨3,17,xG,[.tmp 6]⟩
end Go.PM
namespace Go.PM
open Go Go.Na
theorem aMU {C:Ctx} (h:∀ f:aI,f.Ok→aJ C 96 [.agg f.cells] .nil (aK (.int .i64 (DD f)))) (f:aI) (hf:f.Ok) :
  xJ.wp C (aZ ID.res (bW (.bool (cL f)))) (PF.args [.agg f.cells]) .nil:=by
 simp -implicitDefEqProofs only[go_sem,δ,γ,xJ,aeT,aeU,ID]
 refine aB (h f hf) rfl ?_
 simp -implicitDefEqProofs only[go_sem,γ]
 refine aS rfl ?_
 unfold DD
 cases cL f<;>rfl
theorem rD {f:aI} {d:Nat} (h:d<f.drives.length):(f.drives.map cM.cells)[d]?=some (f.drives[d]).cells:=by simp[h]
theorem mG {f:aI} {d:Nat} (h:d<f.domains.length):(f.domains.map cG.cells)[d]?=some (f.domains[d]).cells:=by simp[h]
theorem WQ {f:aI} {d:Nat} (h:d<f.volumes.length):(f.volumes.map fF.cells)[d]?=some (f.volumes[d]).cells:=by simp[h]
theorem MI {f:aI} {d:Nat} (h:d<f.policies.length):(f.policies.map cJ.cells)[d]?=some (f.policies[d]).cells:=by simp[h]
theorem aKF {f:aI} {d:Nat} (h:d<f.models.length):(f.models.map cQ.cells)[d]?=some (f.models[d]).cells:=by simp[h]
theorem anW {f:aI} {d:Nat} (h:d<f.domains.length):(f.domains[d]).level=lvl f d:=by rw[lvl,getD_at h]
theorem UE {f:aI} {d:Nat} (h:d<f.domains.length):(f.domains[d]).parent=par f d:=by rw[par,getD_at h]
theorem VF.aAA {f:aI} (h:VF f) {d:Nat} (hd:d<f.drives.length):(f.drives[d]).machine=((fC f d:Nat):Int):=by
 have:=(h.drive d hd).2.2.1
 rw[fC,getD_at hd]; omega
theorem VF.aoB {f:aI} (h:VF f) {d:Nat} (hd:d<f.drives.length):(f.drives[d]).model=((mdl f d:Nat):Int):=by
 have:=(h.drive d hd).1
 rw[mdl,getD_at hd]; omega
theorem VF.aLG {f:aI} (h:VF f) {v:Nat} (hv:v<f.volumes.length):(f.volumes[v]).policy=((HI f v:Nat):Int):=by
 have:=(h.volume v hv).1
 rw[HI,getD_at hv]; omega
theorem VF.aCM {f:aI} (h:VF f) {i:Nat} (h0:0<i) (hi:i<f.domains.length):par f i=((tY f i:Nat):Int):=by
 have:=(h.dom i h0 hi).1
 rw[tY]; omega
theorem arL {f:aI} (h:VF f) {v:Nat} (hv:v<f.volumes.length):∃ hp:HI f v<f.policies.length,f.policies[HI f v]=jA f v:=by
 have hp:=(h.volume v hv).2
 exact⟨hp,by simp[jA,bbI,hp]⟩
theorem aRG {C:Ctx} (f:aI) (hv:VF f) (v:Nat) (h:v<f.volumes.length) :
  CH.wp C (aZ VH.res (bW (.int .i64 (JT f v)))) (PF.args [.agg f.cells,.int .i64 v]) .nil:=by
 obtain⟨hp,he⟩:=arL hv h
 have hpol:=hv.policy _ (baN hp)
 rw[he] at hpol
 have hw:IntKind.i64.wrap ((jA f v).k+(jA f v).m)=(jA f v).k+(jA f v).m:=wrap_i64 (by omega) (by omega)
 simp -implicitDefEqProofs only[go_sem,CH,asI,VH]
 refine cC .nil eE PH.nil_le ?_
 simp -implicitDefEqProofs only[go_sem,δ,γ,θ,asJ,WQ h,hv.aLG h,MI hp,he]
 refine aP fun o ho=>?_
 simp -implicitDefEqProofs only[go_sem,δ,γ,θ,asK,hw]
 refine⟨PH.nil_le,?_⟩
 exact fI (n:=(jA f v).k+(jA f v).m) rfl rfl
def abF (f:aI) (level:Int) (i:Nat):PF:=(((PF.nil.set 3 (.rptr f.cells)).set 2 (.int .i64 level)).set 7 (.int .i64 i))
theorem aLZ {C:Ctx} (f:aI) (hv:VF f) (d:Nat) (h:d<f.drives.length) (level:Int) (h0:0≤level) (h4:level≤4) :
  xE.wp C (aZ HU.res (bW (.int .i64 (cB f d level:Nat)))) (PF.args [.agg f.cells,.int .i64 d,.int .i64 level]) .nil:=by
 simp -implicitDefEqProofs only[go_sem,δ,γ,θ,xE,adO,adP,HU,rD h,hv.aAA h]
 refine wp_loop (α:=Nat) (fun k=>abF f level (upN f k (fC f d))) (fun _=>.nil) (fun k=>k≤4-level.toNat) (fun k=>4-level.toNat-k) 0 (baR _) ?_ PH.nil_le ?_
 ·unfold abF
  (repeat' (first|exact PF.nil_le|refine PF.aA ?_ ?_))<;>first|(simp -implicitDefEqProofs only[go_sem,γ,upN]<;>rfl)|rfl
 intro k hk
 obtain⟨u1,u2⟩:=JA hv h (k:=k) (by omega)
 simp -implicitDefEqProofs only[go_sem,δ,γ,θ,adN,adQ,abF,mG u1,anW u1]
 by_cases hlt:k<4-level.toNat
 ·have hc:lvl f (upN f k (fC f d))>level:=by rw[u2]; omega
  have hne:0<upN f k (fC f d):=by
   rcases bcB (upN f k (fC f d)) with e | e
   ·rw[e,hv.root.2.1] at u2; omega
   ·exact e
  simp -implicitDefEqProofs only[go_sem,δ,γ,θ,hc,adR,mG u1,UE u1,hv.aCM hne u1]
  refine aH (k+1) hlt (by omega) ?_ PH.nil_le
  (repeat' (first|exact PF.nil_le|refine PF.aA ?_ ?_))<;>first|(simp -implicitDefEqProofs only[go_sem,γ,upN]<;>rfl)|rfl
 ·have hc:¬ lvl f (upN f k (fC f d))>level:=by rw[u2]; omega
  have:k=4-level.toNat:=by omega
  subst this
  simp -implicitDefEqProofs only[go_sem,γ,hc,adS]
  exact fI rfl rfl
structure JK (C:Ctx):Prop where
 valid:∀ f:aI,f.Ok→aJ C 161 [.agg f.cells] .nil (aK (.bool (cL f)))
 lC:∀ (f:aI) (d:Nat) (level:Int),VF f→d<f.drives.length→0≤level→level≤4→aJ C 155 [.agg f.cells,.int .i64 d,.int .i64 level] .nil (aK (.int .i64 (cB f d level:Nat)))
 frag:∀ (f:aI) (v:Nat),VF f→v<f.volumes.length→aJ C 156 [.agg f.cells,.int .i64 v] .nil (aK (.int .i64 (JT f v)))
def atP (f:aI) (d level:Int):Int:=if cL f∧0≤d∧d<f.drives.length∧0≤level∧level<5 then (cB f d.toNat level:Nat) else -1
theorem aZC {C:Ctx} (L:JK C) (f:aI) (hf:f.Ok) (d level:Int) :
  QK.wp C (aZ tat.res (bW (.int .i64 (atP f d level)))) (PF.args [.agg f.cells,.int .i64 d,.int .i64 level]) .nil:=by
 simp -implicitDefEqProofs only[go_sem,δ,γ,QK,aMB,aMC,tat]
 refine aB (L.valid f hf) rfl ?_
 unfold atP
 cases hv:cL f with
 | false =>
  simp -implicitDefEqProofs only[go_sem,ο,γ,reduceCtorEq,baZ,yW]
  exact fI rfl (by simp)
 | true =>
  have hV:=VF.of hv
  by_cases c1:d<0
  ·simp -implicitDefEqProofs only[go_sem,ο,γ,reduceCtorEq,baM,c1,yW]
   exact fI rfl (by rw[if_neg (by omega)])
  ·by_cases c2:d≥(f.drives.length:Nat)
   ·simp -implicitDefEqProofs only[go_sem,ο,δ,γ,θ,reduceCtorEq,baM,c1,baF,c2,yW]
    exact fI rfl (by rw[if_neg (by omega)])
   ·by_cases c3:level<0
    ·simp -implicitDefEqProofs only[go_sem,ο,δ,γ,θ,reduceCtorEq,baM,c1,baF,c2,c3,yW]
     exact fI rfl (by rw[if_neg (by omega)])
    ·by_cases c4:level≥5
     ·simp -implicitDefEqProofs only[go_sem,ο,δ,γ,θ,reduceCtorEq,baM,c1,baF,c2,c3,c4,yW]
      exact fI rfl (by rw[if_neg (by omega)])
     ·simp -implicitDefEqProofs only[go_sem,ο,δ,γ,θ,reduceCtorEq,baM,c1,baF,c2,c3,c4,aMD]
      have hc:=L.lC f d.toNat level hV (by omega) (by omega) (by omega)
      rw[Int.toNat_of_nonneg (by omega)] at hc
      refine aB hc rfl ?_
      simp -implicitDefEqProofs only[go_sem,ο,γ]
      exact fI rfl (by rw[if_pos (by omega)])
end Go.PM
namespace Go.PM
open Go Go.Na
def pick (n:Nat) (p:Nat→Bool):List Int:=((baW n).filter p).map fun (i:Nat)=>(i:Int)
theorem adB (n:Nat) (p:Nat→Bool):pick (n+1) p=if p n then pick n p++[(n:Int)] else pick n p:=by
 unfold pick
 rw[List.range_succ,List.filter_append,bcA]
 by_cases h:p n
 ·rw[if_pos h]; simp[h]
 ·rw[if_neg h]; simp[h]
theorem BV (n:Nat) (p:Nat→Bool):(pick n p).length≤n:=by
 unfold pick
 rw[baF]
 exact bcP (List.length_filter_le _ _) (by simp)
theorem SK (l:List Int) (x:Int):dE l++[[.int .i64 x]]=dE (l++[x]):=by unfold dE; rw[bcA]; rfl
theorem kC (l:List Int):(dE l).length=l.length:=by unfold dE; rw[baF]
theorem yS {t:Nat} {H:PH} {v:PV} {l:List Int} {F:PF} (h:bA H 1 v (dE l)) (ht:F t=some v):aZ [.tmp t] (bW (ints l)) .ret F H:=mP (.inr rfl) h ht
theorem kD {t:Nat} {H:PH} {F:PF} (ht:F t=some .nils):aZ [.tmp t] (bW (ints [])) .ret F H:=mP (rows:=[]) (.inr rfl) .nil ht
def eX (f:aI) (dom:Int):List Int :=
 if cL f∧0≤dom∧dom<f.domains.length then pick f.drives.length fun d=>decide ((cB f d (lvl f dom.toNat):Nat)=dom.toNat) else []
def tdF (f:aI) (dom:Nat) (v:PV) (k:Nat):PF:=(((((PF.nil.set 1 (.int .i64 dom)).set 2 (.rptr f.cells)).set 5 (v)).set 24 (.int .i64 (f.drives.length:Nat))).set 25 (.int .i64 k))
def toS (f:aI):Spec:=fun name vs=>match name,vs with
 | 155,[_,.int _ d,.int _ l]=>some ([],fun _=>aK (.int .i64 (cB f d.toNat l:Nat)))
 | 156,[_,.int _ v]=>some ([],fun _=>aK (.int .i64 (JT f v.toNat)))
 | _,_=>none
theorem aMP (f:aI) (d:Nat) (l:Int):toS f 155 [.agg f.cells,.int .i64 d,.int .i64 l]=some ([],fun _=>aK (.int .i64 (cB f d l:Nat))):=rfl
theorem aRI (f:aI) (v:Nat):toS f 156 [.agg f.cells,.int .i64 v]=some ([],fun _=>aK (.int .i64 (JT f v))):=rfl
theorem aHJ {C:Ctx} (L:JK C) (f:aI) (hf:f.Ok) (dom:Int) :
  uE.wp C (aZ yX.res (bW (ints (eX f dom)))) (PF.args [.agg f.cells,.int .i64 dom]) .nil:=by
 simp -implicitDefEqProofs only[go_sem,δ,γ,uE,UY,UZ,VA,yX]
 refine aB (L.valid f hf) rfl ?_
 unfold eX
 cases hv:cL f with
 | false =>
  simp -implicitDefEqProofs only[go_sem,γ,reduceCtorEq,baZ,sN,]
  rw[if_neg (by simp)]
  exact kD rfl
 | true =>
  have hV:=VF.of hv
  by_cases c1:dom<0
  ·simp -implicitDefEqProofs only[go_sem,γ,reduceCtorEq,baM,c1,sN]
   rw[if_neg (by omega)]
   exact kD rfl
  ·by_cases c2:dom≥(f.domains.length:Nat)
   ·simp -implicitDefEqProofs only[go_sem,δ,γ,θ,reduceCtorEq,baM,c1,baF,c2,sN]
    rw[if_neg (by omega)]
    exact kD rfl
   ·obtain⟨n,rfl⟩:∃ n:Nat,dom=n:=⟨dom.toNat,by omega⟩
    have hn:n<f.domains.length:=by omega
    have hd24:=hV.small.drives
    simp -implicitDefEqProofs only[go_sem,δ,γ,θ,reduceCtorEq,baM,c1,baF,c2,VB]
    rw[if_pos (by omega)]
    generalize hp:(fun d=>decide ((cB f d (lvl f n):Nat)=n))=p
    refine wp_loop (α:=Nat × PV × PH) (fun t=>tdF f n t.2.1 t.1) (fun t=>t.2.2) (fun t=>t.1≤f.drives.length∧bA t.2.2 1 t.2.1 (dE (pick t.1 p))) (fun t=>f.drives.length-t.1) (0,.nils,.nil) ⟨baR _,.nil⟩ ?_ PH.nil_le ?_
    ·unfold tdF
     (repeat' (first|exact PF.nil_le|refine PF.aA ?_ ?_))<;>first|(simp -implicitDefEqProofs only[go_sem,γ,baF]<;>rfl)|rfl
    rintro⟨k,v,H0⟩ ⟨hk,hO⟩
    simp only at hk hO ⊢
    simp -implicitDefEqProofs only[go_sem,γ,MN,VC,tdF]
    by_cases hlt:k<f.drives.length
    ·have hlt':(k:Int)<(f.drives.length:Nat):=by omega
     have hl04:0≤lvl f n∧lvl f n≤4:=by
      rcases bcB n with e | e
      ·rw[e,hV.root.2.1]; decide
      ·have:=hV.dom n e hn; omega
     simp -implicitDefEqProofs only[go_sem,γ,hlt',VD]
     refine cC .nil (toS f) PH.nil_le ?_
     simp -implicitDefEqProofs only[go_sem,δ,γ,θ,VE,mG hn,anW hn]
     refine cN (aMP f k (lvl f n)) (L.lC f k (lvl f n) hV hlt hl04.1 hl04.2) rfl PH.nil_le ?_
     have hpk:p k=decide ((cB f k (lvl f n):Nat)=n):=by rw[← hp]
     have hsucc:=adB k p
     by_cases c:cB f k (lvl f n)=n
     ·rw[if_pos (by rw[hpk]; simp[c])] at hsucc
      have c':(((cB f k (lvl f n):Nat):Int)==(n:Int))=true:=bS (by omega)
      simp -implicitDefEqProofs only[go_sem,υ,γ,η,θ,ζ,c',VG]
      refine eZ (src:=[[.int .i64 k]]) hO rfl (by unfold roomFor; have:=BV k p; rw[kC]; simp only[baL,maxLen]; omega) fun v' H' hO' _=>?_
      rw[SK,← hsucc] at hO'
      simp -implicitDefEqProofs only[go_sem,γ,CG,aL (show k<9223372036854775807 by omega)]
      refine aH (k+1,v',H') ⟨hlt,hO'⟩ (by simp only; omega) ?_ PH.le_refl
      (repeat' (first|exact PF.nil_le|refine PF.aA ?_ ?_))<;>first|(simp -implicitDefEqProofs only[go_sem,γ]<;>rfl)|rfl
     ·rw[if_neg (by rw[hpk]; simp[c])] at hsucc
      have c':(((cB f k (lvl f n):Nat):Int)==(n:Int))=false:=bE (by omega)
      simp -implicitDefEqProofs only[go_sem,γ,c',CG,aL (show k<9223372036854775807 by omega)]
      rw[← hsucc] at hO
      refine aH (k+1,v,H0) ⟨hlt,hO⟩ (by simp only; omega) ?_ PH.le_refl
      (repeat' (first|exact PF.nil_le|refine PF.aA ?_ ?_))<;>first|(simp -implicitDefEqProofs only[go_sem,γ]<;>rfl)|rfl
    ·have hlt':¬ (k:Int)<(f.drives.length:Nat):=by omega
     have:k=f.drives.length:=by omega
     subst this
     simp -implicitDefEqProofs only[go_sem,γ,hlt',MO]
     exact yS hO rfl
def gC (f:aI) (dom:Int):List Int :=
 if cL f∧0≤dom then pick f.domains.length fun i=>decide (par f i=dom) else []
def tcF (f:aI) (dom:Int) (v:PV) (k:Nat):PF:=((((((PF.nil.set 1 (.int .i64 dom)).set 2 (.rptr f.cells)).set 5 (v)).set 17 (.sl 7 (f.domains.map cG.cells))).set 18 (.int .i64 (f.domains.length:Nat))).set 19 (.int .i64 k))
theorem aME {C:Ctx} (L:JK C) (f:aI) (hf:f.Ok) (dom:Int) :
  xF.wp C (aZ HV.res (bW (ints (gC f dom)))) (PF.args [.agg f.cells,.int .i64 dom]) .nil:=by
 simp -implicitDefEqProofs only[go_sem,δ,γ,xF,adT,adU,adV,HV]
 refine aB (L.valid f hf) rfl ?_
 unfold gC
 cases hv:cL f with
 | false =>
  simp -implicitDefEqProofs only[go_sem,γ,reduceCtorEq,baZ,HW]
  rw[if_neg (by simp)]
  exact kD rfl
 | true =>
  have hV:=VF.of hv
  by_cases c1:dom<0
  ·simp -implicitDefEqProofs only[go_sem,γ,reduceCtorEq,baM,c1,HW]
   rw[if_neg (by omega)]
   exact kD rfl
  ·have hd40:=hV.small.domains
   simp -implicitDefEqProofs only[go_sem,δ,γ,θ,reduceCtorEq,baM,c1,baF,adW]
   rw[if_pos (by omega)]
   generalize hp:(fun i=>decide (par f i=dom))=p
   refine wp_loop (α:=Nat × PV × PH) (fun t=>tcF f dom t.2.1 t.1) (fun t=>t.2.2) (fun t=>t.1≤f.domains.length∧bA t.2.2 1 t.2.1 (dE (pick t.1 p))) (fun t=>f.domains.length-t.1) (0,.nils,.nil) ⟨baR _,.nil⟩ ?_ PH.nil_le ?_
   ·unfold tcF
    (repeat' (first|exact PF.nil_le|refine PF.aA ?_ ?_))<;>first|(simp -implicitDefEqProofs only[go_sem,γ,baF]<;>rfl)|rfl
   rintro⟨k,v,H0⟩ ⟨hk,hO⟩
   simp only at hk hO ⊢
   simp -implicitDefEqProofs only[go_sem,γ,UW,adX,tcF]
   by_cases hlt:k<f.domains.length
   ·have hlt':(k:Int)<(f.domains.length:Nat):=by omega
    simp -implicitDefEqProofs only[go_sem,δ,γ,hlt',adY,mG hlt]
    refine aP fun o ho=>?_
    have hpk:p k=decide (par f k=dom):=by rw[← hp]
    have hsucc:=adB k p
    by_cases c:par f k=dom
    ·rw[if_pos (by rw[hpk]; simp[c])] at hsucc
     simp -implicitDefEqProofs only[go_sem,υ,δ,γ,η,θ,ζ,HX,UE hlt,bS c,adZ]
     refine eZ (src:=[[.int .i64 k]]) (hO.fresh ho _).1 rfl (by unfold roomFor; have:=BV k p; rw[kC]; simp only[baL,maxLen]; omega) fun v' H' hO' _=>?_
     rw[SK,← hsucc] at hO'
     simp -implicitDefEqProofs only[go_sem,γ,HY,aL (show k<9223372036854775807 by omega)]
     refine aH (k+1,v',H') ⟨hlt,hO'⟩ (by simp only; omega) ?_ PH.le_refl
     (repeat' (first|exact PF.nil_le|refine PF.aA ?_ ?_))<;>first|(simp -implicitDefEqProofs only[go_sem,γ]<;>rfl)|rfl
    ·rw[if_neg (by rw[hpk]; simp[c])] at hsucc
     simp -implicitDefEqProofs only[go_sem,δ,γ,θ,HX,UE hlt,bE c,HY,aL (show k<9223372036854775807 by omega)]
     rw[← hsucc] at hO
     refine aH (k+1,v,H0) ⟨hlt,hO⟩ (by simp only; omega) ?_ (PH.FH _ ho)
     (repeat' (first|exact PF.nil_le|refine PF.aA ?_ ?_))<;>first|(simp -implicitDefEqProofs only[go_sem,γ]<;>rfl)|rfl
   ·have hlt':¬ (k:Int)<(f.domains.length:Nat):=by omega
    have:k=f.domains.length:=by omega
    subst this
    simp -implicitDefEqProofs only[go_sem,γ,hlt',UX]
    exact yS hO rfl
end Go.PM
namespace Go.PM
open Go Go.Na
def kB (A:List Int) (k:Nat):List Int:=A.take k++baH (A.length-k) 0
theorem avZ (A:List Int):kB A 0=baH A.length 0:=by simp[kB]
theorem aEV (A:List Int):kB A A.length=A:=by simp[kB]
theorem ahB (A:List Int) {k:Nat} (h:k≤A.length):(kB A k).length=A.length:=by simp[kB]; omega
theorem aEW (A:List Int) {k:Nat} (h:k<A.length):(kB A k).set k A[k]=kB A (k+1):=by
 unfold kB
 rw[bdG _ _ (by simp; omega),baV,bcC (by omega),Nat.sub_self,show A.length-k=(A.length-(k+1))+1 by omega,List.replicate_succ,List.set_cons_zero,
  bcO h,bbJ]
 rfl
theorem oA (l:List Int) (i:Nat) (x:Int):(dE l).set i [.int .i64 x]=dE (l.set i x):=by unfold dE; rw[List.map_set]
theorem qM (n:Nat):baH n [PV.int .i64 0]=dE (baH n 0):=by simp[dE]
theorem tR {l:List Int} {i:Nat} (h:i<l.length):(dE l)[i]?=some [.int .i64 l[i]]:=by simp[dE,h]
theorem aFS (l:List Int):ints l=.sl 1 (dE l):=rfl
def UI (f:aI) (room:List Int) (d:Nat):Int:=if room.length=f.drives.length then min (max (room.getD d 0) 0) (ext f d) else ext f d
def lF (f:aI) (room:List Int):List Int:=(baW f.drives.length).map (UI f room)
def UJ (f:aI) (room:List Int):List Int:=if cL f then lF f room else []
theorem adE (f:aI) (room:List Int):(lF f room).length=f.drives.length:=by simp[lF]
theorem aQX (f:aI) (room:List Int) {d:Nat} (h:d<(lF f room).length):(lF f room)[d]=UI f room d:=by simp[lF]
theorem VF.aYC {f:aI} (h:VF f) {d:Nat} (hd:d<f.drives.length):∃ hm:mdl f d<f.models.length,(f.models[mdl f d]).extents=ext f d:=by
 have hm:=(h.drive d hd).2.1
 exact⟨hm,by rw[ext,getD_at hm]⟩
def trF (f:aI) (room:List Int) (o k:Nat):PF:=(((((PF.nil.set 1 (ints room)).set 2 (.rptr f.cells)).set 5 (.osl o 1 0 f.drives.length)).set 15 (.int .i64 (f.drives.length:Nat))).set 16 (.int .i64 k))
theorem aVA (a b:Int):(if b<a then b else a)=min a b:=by
 rw[Int.min_def]
 by_cases h:b<a
 ·rw[if_pos h,if_neg (by omega)]
 ·rw[if_neg h,if_pos (by omega)]
theorem aRK {C:Ctx} (L:JK C) (f:aI) (hf:f.Ok) (room:List Int) :
  CK.wp C (aZ VN.res (mD 1 (dE (UJ f room)))) (PF.args [.agg f.cells,ints room]) .nil:=by
 simp -implicitDefEqProofs only[go_sem,γ,δ,ε,ζ,η,θ,ι,κ,μ,ν,ξ,ο,ρ,σ,τ,υ,reduceIte,reduceCtorEq,CK,asN,asO,VN]
 refine aB (L.valid f hf) rfl ?_
 unfold UJ
 cases hv:cL f with
 | false =>
  simp -implicitDefEqProofs only[go_sem,γ,δ,ε,ζ,η,θ,ι,κ,μ,ν,ξ,ο,ρ,σ,τ,υ,reduceIte,reduceCtorEq,baZ,asP]
  exact yR (.inr rfl) rfl
 | true =>
  have hV:=VF.of hv
  have hd24:=hV.small.drives
  have hb1:((f.drives.length:Nat):Int)*((8:Nat):Int)≤140737488355328:=by omega
  have hb2:((f.drives.length:Nat):Int)≤9223372036854775807:=by omega
  simp -implicitDefEqProofs only[go_sem,γ,δ,ε,ζ,η,θ,ι,κ,μ,ν,ξ,ο,ρ,σ,τ,υ,reduceIte,reduceCtorEq,baM,asQ,baF,hb1,hb2]
  refine aP fun o ho=>?_
  simp -implicitDefEqProofs only[go_sem,γ,δ,ε,ζ,η,θ,ι,κ,μ,ν,ξ,ο,ρ,σ,τ,υ,reduceIte,reduceCtorEq,asR]
  have hAl:=adE f room
  have hAt:=fun d h=>aQX f room (d:=d) h
  generalize hA:lF f room=A at *
  refine wp_loop (α:=Nat) (fun k=>trF f room o k) (fun k=>PH.nil.set o (.rows 1 (dE (kB A k)))) (fun k=>k≤f.drives.length) (fun k=>f.drives.length-k) 0 (baR _) ?_ ?_ ?_
  ·unfold trF
   (repeat' (first|exact PF.nil_le|refine PF.aA ?_ ?_))<;>first|(simp -implicitDefEqProofs only[go_sem,γ,δ,ε,ζ,η,θ,ι,κ,μ,ν,ξ,ο,ρ,σ,τ,υ,reduceIte,reduceCtorEq]<;>rfl)|rfl
  ·refine PH.aA PH.nil_le ?_
   simp -implicitDefEqProofs only[go_sem,γ,δ,ε,ζ,η,θ,ι,κ,μ,ν,ξ,ο,ρ,σ,τ,υ,reduceIte,reduceCtorEq]
   rw[avZ,hAl,qM]
  intro k hk
  simp -implicitDefEqProofs only[go_sem,γ,δ,ε,ζ,η,θ,ι,κ,μ,ν,ξ,ο,ρ,σ,τ,υ,reduceIte,reduceCtorEq,aeK,asS,trF]
  by_cases hlt:k<f.drives.length
  ·have hlt':(k:Int)<(f.drives.length:Nat):=by omega
   obtain⟨hm,he⟩:=hV.aYC hlt
   have hfl:=ahB A (k:=k) (by omega)
   have hkA:k<A.length:=by omega
   have hx:=tR (l:=kB A k) (i:=k) (by omega)
   have hstep:=aEW A hkA
   rw[hAt k hkA] at hstep
   simp -implicitDefEqProofs only[go_sem,γ,δ,ε,ζ,η,θ,ι,κ,μ,ν,ξ,ο,ρ,σ,τ,υ,reduceIte,reduceCtorEq,hlt',asT]
   refine cC .nil eE PH.nil_le ?_
   simp -implicitDefEqProofs only[go_sem,γ,δ,ε,ζ,η,θ,ι,κ,μ,ν,ξ,ο,ρ,σ,τ,υ,reduceIte,reduceCtorEq,asU,rD hlt,hV.aoB hlt,aKF hm,he,hlt',bbF,hx]
   refine⟨PH.nil_le,?_⟩
   simp -implicitDefEqProofs only[go_sem,γ,δ,ε,ζ,η,θ,ι,κ,μ,ν,ξ,ο,ρ,σ,τ,υ,reduceIte,reduceCtorEq,asV,baF]
   by_cases c:room.length=f.drives.length
   ·have c':(((room.length:Nat):Int)==((f.drives.length:Nat):Int))=true:=bS (by omega)
    have hrk:k<room.length:=by omega
    have hrr:(room.map fun n=>[PV.int .i64 n])[k]?=some [.int .i64 room[k]]:=by simp[hrk]
    simp -implicitDefEqProofs only[go_sem,γ,δ,ε,ζ,η,θ,ι,κ,μ,ν,ξ,ο,ρ,σ,τ,υ,reduceIte,reduceCtorEq,c']
    refine cC .nil eE PH.nil_le ?_
    have hx2:(dE ((kB A k).set k (ext f k)))[k]?=some [.int .i64 (ext f k)]:=by
     rw[← oA,List.getElem?_set_self (by rw[kC]; omega)]
    simp -implicitDefEqProofs only[go_sem,γ,δ,ε,ζ,η,θ,ι,κ,μ,ν,ξ,ο,ρ,σ,τ,υ,reduceIte,reduceCtorEq,asW,hrr,hlt',bbF,hx2,max_eq,aVA,List.set_set,oA]
    refine⟨PH.nil_le,?_⟩
    simp -implicitDefEqProofs only[go_sem,γ,δ,ε,ζ,η,θ,ι,κ,μ,ν,ξ,ο,ρ,σ,τ,υ,reduceIte,reduceCtorEq,IB,aL (show k<9223372036854775807 by omega)]
    refine aH (k+1) hlt (by omega) ?_ ?_
    ·(repeat' (first|exact PF.nil_le|refine PF.aA ?_ ?_))<;>first|(simp -implicitDefEqProofs only[go_sem,γ,δ,ε,ζ,η,θ,ι,κ,μ,ν,ξ,ο,ρ,σ,τ,υ,reduceIte,reduceCtorEq]<;>rfl)|rfl
    ·refine PH.aA PH.nil_le ?_
     rw[← hstep,UI,if_pos c,bbI,baQ hrk,bcX]
     simp -implicitDefEqProofs only[go_sem,γ,δ,ε,ζ,η,θ,ι,κ,μ,ν,ξ,ο,ρ,σ,τ,υ,reduceIte,reduceCtorEq]
   ·have c':(((room.length:Nat):Int)==((f.drives.length:Nat):Int))=false:=bE (by omega)
    simp -implicitDefEqProofs only[go_sem,γ,δ,ε,ζ,η,θ,ι,κ,μ,ν,ξ,ο,ρ,σ,τ,υ,reduceIte,reduceCtorEq,c',IB,aL (show k<9223372036854775807 by omega),oA]
    refine aH (k+1) hlt (by omega) ?_ ?_
    ·(repeat' (first|exact PF.nil_le|refine PF.aA ?_ ?_))<;>first|(simp -implicitDefEqProofs only[go_sem,γ,δ,ε,ζ,η,θ,ι,κ,μ,ν,ξ,ο,ρ,σ,τ,υ,reduceIte,reduceCtorEq]<;>rfl)|rfl
    ·refine PH.aA PH.nil_le ?_
     rw[← hstep,UI,if_neg c]
     simp -implicitDefEqProofs only[go_sem,γ,δ,ε,ζ,η,θ,ι,κ,μ,ν,ξ,ο,ρ,σ,τ,υ,reduceIte,reduceCtorEq]
  ·have hlt':¬ (k:Int)<(f.drives.length:Nat):=by omega
   have:k=f.drives.length:=by omega
   subst this
   simp -implicitDefEqProofs only[go_sem,γ,δ,ε,ζ,η,θ,ι,κ,μ,ν,ξ,ο,ρ,σ,τ,υ,reduceIte,reduceCtorEq,hlt',aeL]
   have hAA:kB A f.drives.length=A:=by rw[← hAl,aEV]
   rw[hAA]
   exact BW (.inr rfl) (v:=.osl o 1 0 f.drives.length) (.inr ⟨o,dE A,by rw[kC,hAl],by simp -implicitDefEqProofs only[go_sem,γ,δ,ε,ζ,η,θ,ι,κ,μ,ν,ξ,ο,ρ,σ,τ,υ,reduceIte,reduceCtorEq],baJ _,baS (baJ _)⟩) rfl
end Go.PM
