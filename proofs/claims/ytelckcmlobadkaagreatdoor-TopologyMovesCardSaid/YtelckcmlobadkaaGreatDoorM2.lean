/-
  Texts of ours, joined: Pm20c Pm21 Pm22 Pm23 Pm24 Pm25 Pm26 L11Code R1Code NaCode Pm27 Pm29 Pm30 Pm31 NaPlain NaW1 NaW2 NaW3 NaW4 NaW5 NaW6 NaW7 NaW8 NaW9 NaKn NaW10 NaW11 Pm32 NaW12 NaW13 NaW14 NaW15 FrCode FrW1 FrW2. No condition.
-/
import Derived.Test.YtelckcmlobadkaaGreatDoorM1
import Derived.ProofKit
set_option linter.unusedSimpArgs false
set_option linter.unusedVariables false
open Nat renaming reduceEqDiff → γ, reduceAdd → δ, reduceSub → ε, reduceMul → ζ, reduceLT → η, reduceLeDiff → θ, reduceBEq → τ
open Int renaming reduceLT → ι, reduceLE → κ, reduceEq → μ, reduceToNat → ν, reduceAdd → ξ, reduceNeg → ο, reduceBEq → ρ, reduceBNe → σ
open List renaming reduceReplicate → υ
open List renaming length_map → bfT, replicate → bfV, length_append → bfW, length_singleton → bfZ, getElem_mem → bgA, mem_cons → bgD, getElem?_eq_getElem → bgF, take_of_length_le → bgH, length_take → bgJ, not_mem_nil → bgL, range → bgN, getD_eq_getElem?_getD → bgT, drop_zero → bgV, append_assoc → bgY, mem_map → bgZ, map_cons → bhA, take_length → bhB, getElem?_eq_none → bhD, all_eq_true → bhE, getElem?_eq_some_iff → bhF, getElem?_map → bhG, mem_append → bhJ, getElem_map → bhL, getElem_of_mem → bhM, append_nil → bhN, length_set → bhO, drop_eq_getElem_cons → bhP, length_drop → bhQ, length_nil → bhR, map_append → bhS, Sublist → bhU, map_nil → bhV, mem_range → bhW, take_append_drop → biC, mem_of_getElem? → biF, take_succ_eq_append_getElem → biG, length_cons → biH, nodup_append → biI, ext_getElem → biO, getElem?_append_left → biP, getElem?_take → biQ, nil_append → biR, getElem?_append_right → biT, set_append_right → biU, drop_of_length_le → bjA
open Nat renaming gcd → bfU, le_refl → bfX, mul_add → bgC, zero_le → bgE, lt_or_ge → bgI, mul_assoc → bgK, mul_comm → bgO, zero_add → bgQ, add_mul → bgS, mul_le_mul_right → bgU, mod_eq_of_lt → bgW, mod_lt → bgX, pow_succ → bhH, min_eq_left → bhT, add_assoc → bhX, add_zero → bhY, mul_le_mul_left → bhZ, eq_zero_or_pos → biB, pos_of_ne_zero → biD, pow_pos → biE, div_lt_iff_lt_mul → biJ, le_trans → biK, div_le_self → biS, div_add_mod → biV, div_eq_of_lt → biW
open Option renaming map_eq_some_iff → bfY, map_some → bhC, some → biA, getD_some → biM, bind_eq_some_iff → biX, bind_some → bjB
open Bool renaming not_true → bgB, false_and → bgG, not_false → bgM, and_eq_true → bgP, true_and → bgR, and_false → bhK, and_true → biN, false_eq_true → biZ
open Array renaming replicate → bhI, length_toList → biL, getElem?_eq_getElem → biY, getElem?_eq_some_iff → bjC
namespace Go.PM
open Go
inductive Co:PV→PV→Prop
 | refl (v:PV):Co v v
 | junk (v:PV):Co v .junk
 | nil (s:Nat):Co .nils (.sl s [])
 | osl0 (o s off s':Nat):Co (.osl o s off 0) (.sl s' [])
 | agg {cs ds:List PV} (hl:ds.length=cs.length) (h:∀ (j:Nat) p q,cs[j]?=some p→ds[j]?=some q→Co p q):Co (.agg cs) (.agg ds)
 | tup {cs ds:List PV} (hl:ds.length=cs.length) (h:∀ (j:Nat) p q,cs[j]?=some p→ds[j]?=some q→Co p q):Co (.tup cs) (.tup ds)
 | rptr {cs ds:List PV} (hl:ds.length=cs.length) (h:∀ (j:Nat) p q,cs[j]?=some p→ds[j]?=some q→Co p q):Co (.rptr cs) (.rptr ds)
 | sl {s:Nat} {rs ts:List (List PV)} (hl:ts.length=rs.length) (hr:∀ (i:Nat) r t,rs[i]?=some r→ts[i]?=some t→t.length=r.length)
   (h:∀ (i j:Nat) p q,at2 rs i j=some p→at2 ts i j=some q→Co p q):Co (.sl s rs) (.sl s ts)
structure CoL (ps qs:List PV):Prop where
 len:qs.length=ps.length
 at_:∀ (j:Nat) p q,ps[j]?=some p→qs[j]?=some q→Co p q
theorem CoL.refl (ps:List PV):CoL ps ps:=⟨rfl,fun j p q h k=>by rw[h] at k; cases k; exact .refl p⟩
theorem Co.sound {E:Env} {p q:PV} (h:Co p q):∀ {v:Value},aT E p v→aT E q v:=by
 induction h with
 | refl=>intro v r; exact r
 | junk=>intro v _; exact .junk v
 | nil s =>
  intro v r
  cases r
  exact .sl (fun _ _=>.bool false) (by simp) (by decide) (by simp) (by simp) (fun _ _=>rfl) (by simp[at2])
 | osl0 o s off s' =>
  intro v r
  cases r with
  | osl hb hsp hoff hlen hmax hn hroom=>exact .sl (fun _ _=>.bool false) (by simp) hmax (by simp) (by simp) (fun _ _=>rfl) (by simp[at2])
 | agg hl h ih =>
  intro v r
  cases r with
  | agg vs hl' h1 hr =>
  refine .agg vs (hl'.trans hl.symm) h1 fun j q u hq hu=>?_
  have hj:=(bhF.1 hq).1
  have hp:=bgF (show j<_ by rw[hl] at hj; exact hj)
  exact ih j _ q hp hq (hr j _ u hp hu)
 | tup hl h ih =>
  intro v r
  cases r with
  | tup vs hl' hr =>
  refine .tup vs (hl'.trans hl.symm) fun j q u hq hu=>?_
  have hj:=(bhF.1 hq).1
  have hp:=bgF (show j<_ by rw[hl] at hj; exact hj)
  exact ih j _ q hp hq (hr j _ u hp hu)
 | rptr hl h ih =>
  intro v r
  cases r with
  | rptr u hsp hc h1 hr =>
  refine .rptr u hsp (fun j q hq=>?_) h1 fun j q hq=>?_
  ·have hj:=(bhF.1 hq).1
   exact hc j _ (bgF (show j<_ by rw[hl] at hj; exact hj))
  ·have hj:=(bhF.1 hq).1
   have hp:=bgF (show j<_ by rw[hl] at hj; exact hj)
   exact ih j _ q hp hq (hr j _ hp)
 | @sl s rs ts hl hrr h ih =>
  intro v r
  have key:∀ (i j:Nat) q,at2 ts i j=some q→∃ p,at2 rs i j=some p:=by
   intro i j q hq
   unfold at2 at hq ⊢
   rw[biX] at hq
   obtain⟨t,ht,hq⟩:=hq
   have hi:=(bhF.1 ht).1
   have hr:=bgF (show i<rs.length by omega)
   have:=hrr i _ t hr ht
   have hj:=(bhF.1 hq).1
   rw[hr]
   exact⟨(rs[i])[j]'(by omega),by simp⟩
  cases r with
  | sl u hcap hmax hs ha h1 hr =>
  rw[← hl]
  refine .sl u (by omega) hmax (fun t ht=>?_) (fun hne=>?_) h1 fun i j q hq=>?_
  ·obtain⟨i,hi,rfl⟩:=bhM ht
   have:=hrr i rs[i] ts[i] (by simp) (by simp)
   rw[this]
   exact hs _ (by simp)
  ·obtain⟨ad,e,sp,hc⟩:=ha (by rintro rfl; exact hne (List.eq_nil_of_length_eq_zero (by simpa using hl)))
   refine⟨ad,e,sp,fun i j q hq=>?_⟩
   obtain⟨p,hp⟩:=key i j q hq
   exact hc i j p hp
  ·obtain⟨p,hp⟩:=key i j q hq
   exact ih i j p q hp hq (hr i j p hp)
theorem CoL.sound {E:Env}:∀ {ps qs:List PV} {vs:List Value},CoL ps qs→eF E ps vs→eF E qs vs
 | [],qs,vs,h,r=>by
  cases r
  have:qs=[]:=List.eq_nil_of_length_eq_zero h.len
  subst this
  exact .nil
 | p::ps,qs,vs,h,r=>by
  cases r with
  | cons r1 r2 =>
  cases qs with
  | nil=>have:=h.len; simp at this
  | cons q qs =>
   refine .cons ((h.at_ 0 p q rfl rfl).sound r1) (CoL.sound ⟨by simpa using h.len,fun j x y a b=>h.at_ (j+1) x y (by simpa using a) (by simpa using b)⟩ r2)
theorem aI.args {C:Ctx} {name:Nat} {args args':List PV} {H:PH} {R:PV→PH→Prop} (h:aI C name args' H R) (hc:CoL args args'):aI C name args H R :=
 ⟨h.1,fun E w vs hN hW hvs=>h.2 E w vs hN hW (hc.sound hvs)⟩
theorem aI.post {C:Ctx} {name:Nat} {args:List PV} {H:PH} {R R':PV→PH→Prop} (h:aI C name args H R) (hR:∀ r H',R r H'→∃ r',Co r r'∧R' r' H'):aI C name args H R' :=
 ⟨h.1,fun E w vs hN hW hvs=>(h.2 E w vs hN hW hvs).mono fun e w' he=>by
  obtain⟨v,pv,E',H',rfl,hW',hr,hE,hp⟩:=he
  obtain⟨pv',hco,hp'⟩:=hR pv H' hp
  exact⟨v,pv',E',H',rfl,hW',hco.sound hr,hE,hp'⟩⟩
end Go.PM
namespace Go.PM
open Go
attribute [go_sem] List.getElem?_cons_succ List.getElem?_cons_zero and_self and_true true_and or_true true_or or_false false_or bgB bgM bhC bjB if_true if_false biH bhR List.drop_succ_cons bgV List.take_succ_cons List.take_zero bhA bhV biA.injEq PV.bool.injEq PV.int.injEq aK PV.bin
@[go_sem] theorem a5U (k:IntKind) (a b:Int):jC .add k a b=some (.int k (k.wrap (a+b))):=rfl
@[go_sem] theorem a6E (k:IntKind) (a b:Int):jC .sub k a b=some (.int k (k.wrap (a-b))):=rfl
@[go_sem] theorem a6A (k:IntKind) (a b:Int):jC .mul k a b=some (.int k (k.wrap (a*b))):=rfl
@[go_sem] theorem a6C (k:IntKind) (a b:Int):jC .quo k a b=if b=0 then none else some (.int k (k.wrap (a.tdiv b))):=rfl
@[go_sem] theorem a6D (k:IntKind) (a b:Int):jC .rem k a b=if b=0 then none else some (.int k (a.tmod b)):=rfl
@[go_sem] theorem a5V (k:IntKind) (a b:Int):jC .eql k a b=some (.bool (a==b)):=rfl
@[go_sem] theorem a6B (k:IntKind) (a b:Int):jC .neq k a b=some (.bool (a != b)):=rfl
@[go_sem] theorem a5Z (k:IntKind) (a b:Int):jC .lss k a b=some (.bool (decide (a<b))):=rfl
@[go_sem] theorem a5Y (k:IntKind) (a b:Int):jC .leq k a b=some (.bool (decide (a≤b))):=rfl
@[go_sem] theorem a5X (k:IntKind) (a b:Int):jC .gtr k a b=some (.bool (decide (a>b))):=rfl
@[go_sem] theorem a5W (k:IntKind) (a b:Int):jC .geq k a b=some (.bool (decide (a≥b))):=rfl
section
variable {C:Ctx} {K:cC} {F:PF} {H:PH}
@[go_sem] theorem beR:aD.wp C .skip K F H=K .normal F H:=rfl
@[go_sem] theorem a7N (ops:List bF):aD.wp C (.region ops) K F H=wpOps C ops (K .normal) F H:=rfl
@[go_sem] theorem abQ (a b:aD):aD.wp C (.seq a b) K F H=a.wp C (jL C (b.wp C) K) F H:=rfl
@[go_sem] theorem a8U (id:Nat) (c:aD):aD.wp C (.block id c) K F H=c.wp C (eG id K) F H:=rfl
@[go_sem] theorem beQ (id:Nat):aD.wp C (.exit id) K F H=K (.exit id) F H:=rfl
@[go_sem] theorem bfC:aD.wp C .ret K F H=K .ret F H:=rfl
def LJ (C:Ctx) (v:Option PV) (a b:aD) (K:cC) (F:PF) (H:PH):Prop :=
 match v with
 | some (.bool t)=>if t then a.wp C K F H else b.wp C K F H
 | _=>False
@[go_sem] theorem aXY (c:aM) (a b:aD):aD.wp C (.cond c a b) K F H=LJ C (c.ev F) a b K F H:=rfl
@[go_sem] theorem a6K (a b:aD):LJ C (some (.bool true)) a b K F H=a.wp C K F H:=rfl
@[go_sem] theorem a4Z (a b:aD):LJ C (some (.bool false)) a b K F H=b.wp C K F H:=rfl
theorem aTE {t:Bool} {a b:aD} (h1:t=true→a.wp C K F H) (h2:t=false→b.wp C K F H):LJ C (some (.bool t)) a b K F H:=by
 cases t
 ·exact h2 rfl
 ·exact h1 rfl
@[go_sem] theorem a5F (w:cC→PF→PH→Prop):jL C w K .normal F H=w K F H:=rfl
@[go_sem] theorem a4M (w:cC→PF→PH→Prop):jL C w K .normal=w K:=rfl
@[go_sem] theorem a8I (w:cC→PF→PH→Prop) (id:Nat):jL C w K (.exit id)=K (.exit id):=rfl
@[go_sem] theorem beF (w:cC→PF→PH→Prop):jL C w K .ret=K .ret:=rfl
@[go_sem] theorem a3B (id:Nat):eG id K .normal=K .normal:=rfl
@[go_sem] theorem a6H (id:Nat):eG id K .ret=K .ret:=rfl
@[go_sem] theorem wX (id id':Nat):eG id K (.exit id') F H=if id'=id then K .normal F H else K (.exit id') F H:=rfl
@[go_sem] theorem a7L (K:PF→PH→Prop):wpOps C [] K F H=K F H:=rfl
@[go_sem] theorem a7M (d:Option Nat) (op:POp) (rest:List bF) (K:PF→PH→Prop):wpOps C (⟨d,op,none⟩::rest) K F H=wpOp C op d (wpOps C rest K) F H:=rfl
def rX (C:Ctx) (v:Option PV) (want:Bool) (op:POp) (d:Option Nat) (rest:List bF) (K:PF→PH→Prop) (F:PF) (H:PH):Prop :=
 match v with
 | some (.bool b)=>if b=want then wpOp C op d (wpOps C rest K) F H else wpOps C rest K (F.put d (.tup [])) H
 | some (.tup [])=>wpOps C rest K (F.put d (.tup [])) H
 | _=>False
@[go_sem] theorem aBD (d:Option Nat) (op:POp) (t:Nat) (want:Bool) (rest:List bF) (K:PF→PH→Prop) :
  wpOps C (⟨d,op,some (t,want)⟩::rest) K F H=rX C (F t) want op d rest K F H:=rfl
@[go_sem] theorem a8E (op:POp) (d:Option Nat) (rest:List bF) (K:PF→PH→Prop):rX C (some (.bool true)) true op d rest K F H=wpOp C op d (wpOps C rest K) F H:=rfl
@[go_sem] theorem a8B (op:POp) (d:Option Nat) (rest:List bF) (K:PF→PH→Prop):rX C (some (.bool false)) false op d rest K F H=wpOp C op d (wpOps C rest K) F H:=rfl
@[go_sem] theorem a8D (op:POp) (d:Option Nat) (rest:List bF) (K:PF→PH→Prop):rX C (some (.bool true)) false op d rest K F H=wpOps C rest K (F.put d (.tup [])) H:=rfl
@[go_sem] theorem a8C (op:POp) (d:Option Nat) (rest:List bF) (K:PF→PH→Prop):rX C (some (.bool false)) true op d rest K F H=wpOps C rest K (F.put d (.tup [])) H:=rfl
@[go_sem] theorem a5E (want:Bool) (op:POp) (d:Option Nat) (rest:List bF) (K:PF→PH→Prop):rX C (some (.tup [])) want op d rest K F H=wpOps C rest K (F.put d (.tup [])) H:=rfl
@[go_sem] theorem bbY (d:Nat) (v:PV):F.put (some d) v=F.set d v:=rfl
@[go_sem] theorem bbX (v:PV):F.put none v=F:=rfl
@[go_sem] theorem kS (i j:Nat) (v:PV):(F.set i v) j=if j=i then some v else F j:=rfl
@[go_sem] theorem args_at (vs:List PV) (i:Nat):PF.args vs i=vs[i]?:=rfl
@[go_sem] theorem bfF (i:Nat):PF.nil i=none:=rfl
@[go_sem] theorem TH (t:Nat):(aM.tmp t).ev F=F t:=rfl
@[go_sem] theorem bbO (v:PV):(aM.const v).ev F=some v:=rfl
@[go_sem] theorem aV (i j:Nat) (x:bV):(H.set i x) j=if j=i then some x else H j:=rfl
@[go_sem] theorem ZZ (i:Nat):PH.nil i=none:=rfl
@[go_sem] theorem LM:aM.evs F []=some []:=rfl
@[go_sem] theorem uH (x:aM) (xs:List aM):aM.evs F (x::xs)=(match x.ev F,aM.evs F xs with | some v,some vs=>some (v::vs) | _,_=>none):=rfl
theorem fW {i j:Nat} {x:bV}:(H.set i x) j=none↔j≠i∧H j=none:=by
 rw[aV]
 split<;>simp_all
@[go_sem] theorem a5G (v:PV) (d:Option Nat) (K:PF→PH→Prop):bN (some v) d K F H=K (F.put d v) H:=by
 simp[bN]
theorem aP {mk:Nat→PV} {x:bV} {d:Option Nat} {K:PF→PH→Prop} (h:∀ o,H o=none→K (F.put d (mk o)) (H.set o x)):kB (some (mk,x)) d K F H:=⟨mk,x,rfl,h⟩
@[go_sem] theorem bfA (x:aM) (d:Option Nat) (K:PF→PH→Prop):wpOp C (.mv x) d K F H=bN (aK (.mv x) F H) d K F H:=rfl
@[go_sem] theorem a8T (x:aM) (d:Option Nat) (K:PF→PH→Prop):wpOp C (.same x) d K F H=bN (aK (.same x) F H) d K F H:=rfl
@[go_sem] theorem a8S (c a b:aM) (d:Option Nat) (K:PF→PH→Prop):wpOp C (.pick c a b) d K F H=bN (aK (.pick c a b) F H) d K F H:=rfl
@[go_sem] theorem beL (o:BinOp) (x y:aM) (d:Option Nat) (K:PF→PH→Prop):wpOp C (.bin o x y) d K F H=bN (aK (.bin o x y) F H) d K F H:=rfl
@[go_sem] theorem beN (n:Bool) (x y:aM) (d:Option Nat) (K:PF→PH→Prop):wpOp C (.eqb n x y) d K F H=bN (aK (.eqb n x y) F H) d K F H:=rfl
@[go_sem] theorem beO (n:Bool) (ks:List Sc) (x y:aM) (d:Option Nat) (K:PF→PH→Prop):wpOp C (.eqs n ks x y) d K F H=bN (aK (.eqs n ks x y) F H) d K F H:=rfl
@[go_sem] theorem bfB (o:UnOp) (x:aM) (d:Option Nat) (K:PF→PH→Prop):wpOp C (.un o x) d K F H=bN (aK (.un o x) F H) d K F H:=rfl
@[go_sem] theorem a8M (k:IntKind) (x:aM) (d:Option Nat) (K:PF→PH→Prop):wpOp C (.conv k x) d K F H=bN (aK (.conv k x) F H) d K F H:=rfl
@[go_sem] theorem a7F (z:List PV) (ps:List (Nat × Nat × aM)) (d:Option Nat) (K:PF→PH→Prop):wpOp C (.build z ps) d K F H=bN (aK (.build z ps) F H) d K F H:=rfl
@[go_sem] theorem a8Q (n:Option Nat) (p:aM) (d:Option Nat) (K:PF→PH→Prop):wpOp C (.load n p) d K F H=bN (aK (.load n p) F H) d K F H:=rfl
@[go_sem] theorem a5R (x:aM) (d:Option Nat) (K:PF→PH→Prop):wpOp C (.nilchk x) d K F H=bN (aK (.nilchk x) F H) d K F H:=rfl
@[go_sem] theorem a5K (off:Nat) (x:aM) (d:Option Nat) (K:PF→PH→Prop):wpOp C (.fieldA off x) d K F H=bN (aK (.fieldA off x) F H) d K F H:=rfl
@[go_sem] theorem a7H (off:Nat) (n:Option Nat) (x:aM) (d:Option Nat) (K:PF→PH→Prop):wpOp C (.field off n x) d K F H=bN (aK (.field off n x) F H) d K F H:=rfl
@[go_sem] theorem a8O (s:Nat) (x i:aM) (d:Option Nat) (K:PF→PH→Prop):wpOp C (.idxS s x i) d K F H=bN (aK (.idxS s x i) F H) d K F H:=rfl
@[go_sem] theorem a8N (n s:Nat) (x i:aM) (d:Option Nat) (K:PF→PH→Prop):wpOp C (.idxA n s x i) d K F H=bN (aK (.idxA n s x i) F H) d K F H:=rfl
@[go_sem] theorem a8P (n s:Nat) (g:Bool) (x i:aM) (d:Option Nat) (K:PF→PH→Prop):wpOp C (.idxV n s g x i) d K F H=bN (aK (.idxV n s g x i) F H) d K F H:=rfl
@[go_sem] theorem a5L (x i:aM) (d:Option Nat) (K:PF→PH→Prop):wpOp C (.idxStr x i) d K F H=bN (aK (.idxStr x i) F H) d K F H:=rfl
@[go_sem] theorem a7J (s:Nat) (x:aM) (lo hi mx:Option aM) (d:Option Nat) (K:PF→PH→Prop):wpOp C (.slice s x lo hi mx) d K F H=bN (aK (.slice s x lo hi mx) F H) d K F H:=rfl
@[go_sem] theorem a5S (n s:Nat) (x:aM) (lo hi mx:Option aM) (d:Option Nat) (K:PF→PH→Prop):wpOp C (.sliceA n s x lo hi mx) d K F H=bN (aK (.sliceA n s x lo hi mx) F H) d K F H:=rfl
@[go_sem] theorem a3E (x:aM) (lo hi:Option aM) (d:Option Nat) (K:PF→PH→Prop):wpOp C (.sliceStr x lo hi) d K F H=bN (aK (.sliceStr x lo hi) F H) d K F H:=rfl
@[go_sem] theorem a8F:PV.sL .nils=some (.int .i64 0):=rfl
@[go_sem] theorem beZ (s:Nat) (rows:List (List PV)):PV.sL (.sl s rows)=some (.int .i64 rows.length):=rfl
@[go_sem] theorem bbV (o s off n:Nat):PV.sL (.osl o s off n)=some (.int .i64 n):=rfl
@[go_sem] theorem beP (x:aM) (d:Option Nat) (K:PF→PH→Prop):wpOp C (.len x) d K F H=bN (aK (.len x) F H) d K F H:=rfl
@[go_sem] theorem a5N (x:aM) (d:Option Nat) (K:PF→PH→Prop):wpOp C (.lenStr x) d K F H=bN (aK (.lenStr x) F H) d K F H:=rfl
@[go_sem] theorem a5J (x:aM) (d:Option Nat) (K:PF→PH→Prop):wpOp C (.capNil x) d K F H=bN (aK (.capNil x) F H) d K F H:=rfl
@[go_sem] theorem a4X (x:aM) (i:Nat) (d:Option Nat) (K:PF→PH→Prop):wpOp C (.extract x i) d K F H=bN (aK (.extract x i) F H) d K F H:=rfl
@[go_sem] theorem a5Q (m:Bool) (x y:aM) (d:Option Nat) (K:PF→PH→Prop):wpOp C (.minmax m x y) d K F H=bN (aK (.minmax m x y) F H) d K F H:=rfl
@[go_sem] theorem a8R (n:Nat) (cs:List aM) (d:Option Nat) (K:PF→PH→Prop):wpOp C (.mkfn n cs) d K F H=bN (aK (.mkfn n cs) F H) d K F H:=rfl
@[go_sem] theorem a5O (sh:MSh) (z:PV) (x k:aM) (ok:Bool) (d:Option Nat) (K:PF→PH→Prop):wpOp C (.lookup sh z x k ok) d K F H=bN (aK (.lookup sh z x k ok) F H) d K F H:=rfl
@[go_sem] theorem a3A (x:aM) (d:Option Nat) (K:PF→PH→Prop):wpOp C (.bytes2str x) d K F H=bN (aK (.bytes2str x) F H) d K F H:=rfl
@[go_sem] theorem a8K (x:aM) (d:Option Nat) (K:PF→PH→Prop):wpOp C (.box true x) d K F H=bN (aK (.box true x) F H) d K F H:=rfl
@[go_sem] theorem a4W (s l:Nat) (z:List PV) (ps:List (Nat × aM)) (d:Option Nat) (K:PF→PH→Prop):wpOp C (.bslice true s l z ps) d K F H=bN (aK (.bslice true s l z ps) F H) d K F H:=rfl
@[go_sem] theorem a7E (cs:List PV) (d:Option Nat) (K:PF→PH→Prop):wpOp C (.alloc cs) d K F H=kB (cI (.alloc cs) F) d K F H:=rfl
@[go_sem] theorem a4Y (s b:Nat) (z:List PV) (l c:aM) (d:Option Nat) (K:PF→PH→Prop):wpOp C (.mkslice s b z l c) d K F H=kB (cI (.mkslice s b z l c) F) d K F H:=rfl
@[go_sem] theorem a7I (sh:MSh) (d:Option Nat) (K:PF→PH→Prop):wpOp C (.mkmap sh) d K F H=kB (cI (.mkmap sh) F) d K F H:=rfl
@[go_sem] theorem beM (x:aM) (d:Option Nat) (K:PF→PH→Prop):wpOp C (.box false x) d K F H=kB (cI (.box false x) F) d K F H:=rfl
@[go_sem] theorem a5I (s l:Nat) (z:List PV) (ps:List (Nat × aM)) (d:Option Nat) (K:PF→PH→Prop):wpOp C (.bslice false s l z ps) d K F H=kB (cI (.bslice false s l z ps) F) d K F H:=rfl
@[go_sem] theorem a7K (n:Nat) (p x:aM) (d:Option Nat) (K:PF→PH→Prop):wpOp C (.store n p x) d K F H=bR (.store n p x) F H (fun r H'=>K (F.put d r) H'):=rfl
@[go_sem] theorem a5H (s b:Nat) (x y:aM) (d:Option Nat) (K:PF→PH→Prop):wpOp C (.append s b x y) d K F H=bR (.append s b x y) F H (fun r H'=>K (F.put d r) H'):=rfl
@[go_sem] theorem a5P (sh:MSh) (x k v:aM) (d:Option Nat) (K:PF→PH→Prop):wpOp C (.mapset sh x k v) d K F H=bR (.mapset sh x k v) F H (fun r H'=>K (F.put d r) H'):=rfl
@[go_sem] theorem a5M (sh:MSh) (x k v:aM) (d:Option Nat) (K:PF→PH→Prop):wpOp C (.insert sh x k v) d K F H=bR (.insert sh x k v) F H (fun r H'=>K (F.put d r) H'):=rfl
@[go_sem] theorem a8L (n:Nat) (az:List aM) (d:Option Nat) (K:PF→PH→Prop):wpOp C (.call n az) d K F H=fZ C n az [] d K F H:=rfl
@[go_sem] theorem a7G (x:aM) (az:List aM) (d:Option Nat) (K:PF→PH→Prop):wpOp C (.callv x az) d K F H=(∃ n cs,x.ev F=some (.fn n cs)∧fZ C n az cs d K F H):=rfl
theorem PF.nil_le:PF.nil.le F:=fun _ _ h=>(by cases h)
theorem PF.aA {i:Nat} {v:PV} {G:PF} (h1:F.le G) (h2:G i=some v):(F.set i v).le G:=by
 intro j u hj
 rw[kS] at hj
 split at hj
 ·rename_i e; subst e; cases hj; exact h2
 ·exact h1 _ _ hj
theorem PF.le_refl:F.le F:=fun _ _ h=>h
theorem PH.nil_le:PH.nil.le H:=fun _ _ h=>(by cases h)
theorem PH.aA {i:Nat} {x:bV} {G:PH} (h1:H.le G) (h2:G i=some x):(H.set i x).le G:=by
 intro j u hj
 rw[aV] at hj
 split at hj
 ·rename_i e; subst e; cases hj; exact h2
 ·exact h1 _ _ hj
theorem PH.le_refl:H.le H:=fun _ _ h=>h
theorem wp_loop {c:aD} {α:Type} (Fs:α→PF) (Hs:α→PH) (Pr:α→Prop) (m:α→Nat) (a0:α) (h0:Pr a0) (hF:(Fs a0).le F) (hH:(Hs a0).le H)
  (hb:∀ a,Pr a→c.wp C (fQ Fs Hs Pr m (m a) K) (Fs a) (Hs a)):aD.wp C (.loop c) K F H :=
 ⟨α,Fs,Hs,Pr,m,a0,F,H,.refl F H,h0,hF,hH,hb⟩
theorem aJ {α:Type} {Fs:α→PF} {Hs:α→PH} {Pr:α→Prop} {m:α→Nat} {n:Nat} (a:α) (h0:Pr a) (hm:m a<n) (hF:(Fs a).le F) (hH:(Hs a).le H):fQ Fs Hs Pr m n K .normal F H :=
 ⟨a,F,H,.refl F H,h0,hm,hF,hH⟩
@[go_sem] theorem a6Z {α:Type} {Fs:α→PF} {Hs:α→PH} {Pr:α→Prop} {m:α→Nat} {n:Nat} (id:Nat):fQ Fs Hs Pr m n K (.exit id)=K (.exit id):=rfl
@[go_sem] theorem a8G {α:Type} {Fs:α→PF} {Hs:α→PH} {Pr:α→Prop} {m:α→Nat} {n:Nat}:fQ Fs Hs Pr m n K .ret=K .ret:=rfl
def aL (v:PV) (r:PV) (H:PH):Prop:=r=v∧H=PH.nil
theorem PH.uW:H.over .nil .nil=H:=PH.ext fun o=>rfl
theorem aBC {name:Nat} {vs cs:List PV} {v:PV} {args:List aM} {d:Option Nat} {K:PF→PH→Prop} (h:aI C name (vs++cs) .nil (aL v)) (ha:aM.evs F args=some vs)
  (hk:K (F.put d v) H):fZ C name args cs d K F H:=by
 refine .inl ⟨vs++cs,.nil,_,by rw[ha]; rfl,PH.nil_le,h,?_⟩
 rintro r H' ⟨rfl,rfl⟩ _
 rw[PH.uW]
 exact hk
theorem aB {name:Nat} {vs:List PV} {v:PV} {args:List aM} {d:Option Nat} {K:PF→PH→Prop} (h:aI C name vs .nil (aL v)) (ha:aM.evs F args=some vs)
  (hk:K (F.put d v) H):fZ C name args [] d K F H:=aBC (cs:=[]) (by rw[bhN]; exact h) ha hk
theorem bZ {res:List dC} {vs:List PV} {v:PV} {e:kE} (he:e=.normal∨e=.ret) (h:dC.evs F H res=some vs) (hv:cN vs=v):aX res (aL v) e F H:=by
 have key:∃ vs,dC.evs F H res=some vs∧∃ F1 H1 H2,gO (PF.nil.set 0 (cN vs)) H F1 H1∧H2.le H1∧∃ u,F1 0=some u∧aL v u H2 :=
  ⟨vs,h,_,H,.nil,.refl _ _,PH.nil_le,v,by rw[kS,if_pos rfl,hv],rfl,rfl⟩
 rcases he with rfl | rfl<;>exact key
@[go_sem] theorem nB:dC.evs F H []=some []:=rfl
@[go_sem] theorem jK (x:dC) (xs:List dC):dC.evs F H (x::xs)=(match x.ev F H,dC.evs F H xs with | some v,some vs=>some (v::vs) | _,_=>none):=rfl
@[go_sem] theorem lL (t:Nat):dC.ev F H (.tmp t)=F t:=rfl
@[go_sem] theorem beD (t:Nat):dC.ev F H (.cell t none)=(match F t with | some p=>(match loadCells H p 1 with | some [v]=>some v | _=>none) | none=>none):=rfl
@[go_sem] theorem a8H (t k:Nat):dC.ev F H (.cell t (some k))=(match F t with | some p=>(loadCells H p k).map .agg | none=>none):=rfl
end
end Go.PM
namespace Go.PM
open Go
section
variable {C:Ctx} {K:cC} {F:PF} {H Hs:PH} {S:Spec}
theorem cD {ops:List (bF × Bool)} (Hs:PH) (S:Spec) (hle:Hs.le H) (h:wpD C Hs S ops (K .normal) F H):aD.wp C (.draw ops) K F H:=⟨Hs,S,hle,h⟩
def dS:Spec:=fun _ _=>none
def dOp (C:Ctx) (Hs:PH) (S:Spec) (st:Bool) (op:POp) (d:Option Nat) (K:PF→PH→Prop) (F:PF) (H:PH):Prop:=(op.kind F).run C Hs S st (fun v H'=>K (F.put d v) H') H
@[go_sem] theorem beJ (K:PF→PH→Prop):wpD C Hs S [] K F H=K F H:=rfl
@[go_sem] theorem beK (d:Option Nat) (op:POp) (st:Bool) (rest:List (bF × Bool)) (K:PF→PH→Prop):wpD C Hs S ((⟨d,op,none⟩,st)::rest) K F H=dOp C Hs S st op d (wpD C Hs S rest K) F H:=rfl
def uM (C:Ctx) (Hs:PH) (S:Spec) (v:Option PV) (want st:Bool) (op:POp) (d:Option Nat) (rest:List (bF × Bool)) (K:PF→PH→Prop) (F:PF) (H:PH):Prop :=
 match v with
 | some (.bool b)=>if b=want then dOp C Hs S st op d (wpD C Hs S rest K) F H else wpD C Hs S rest K (F.put d (.tup [])) H
 | some (.tup [])=>wpD C Hs S rest K (F.put d (.tup [])) H
 | _=>False
@[go_sem] theorem a8J (d:Option Nat) (op:POp) (t:Nat) (want st:Bool) (rest:List (bF × Bool)) (K:PF→PH→Prop) :
  wpD C Hs S ((⟨d,op,some (t,want)⟩,st)::rest) K F H=uM C Hs S (F t) want st op d rest K F H:=by
 have e1:wpD C Hs S ((⟨d,op,some (t,want)⟩,st)::rest) K F H=((⟨d,op,some (t,want)⟩:bF).kind F).run C Hs S st (fun v H'=>wpD C Hs S rest K (F.put d v) H') H:=rfl
 rw[e1]
 unfold bF.kind uM
 simp only
 cases F t with
 | none=>rfl
 | some v =>
  cases v
  case bool b =>
   simp only
   by_cases hb:b=want
   ·rw[if_pos hb,if_pos hb]; rfl
   ·rw[if_neg hb,if_neg hb]; simp[Kind.run]
  case tup vs=>cases vs<;>simp[Kind.run]
  all_goals rfl
@[go_sem] theorem a8A (op:POp) (st:Bool) (d:Option Nat) (rest:List (bF × Bool)) (K:PF→PH→Prop):uM C Hs S (some (.bool true)) true st op d rest K F H=dOp C Hs S st op d (wpD C Hs S rest K) F H:=rfl
@[go_sem] theorem a7X (op:POp) (st:Bool) (d:Option Nat) (rest:List (bF × Bool)) (K:PF→PH→Prop):uM C Hs S (some (.bool false)) false st op d rest K F H=dOp C Hs S st op d (wpD C Hs S rest K) F H:=rfl
@[go_sem] theorem a7Z (op:POp) (st:Bool) (d:Option Nat) (rest:List (bF × Bool)) (K:PF→PH→Prop):uM C Hs S (some (.bool true)) false st op d rest K F H=wpD C Hs S rest K (F.put d (.tup [])) H:=rfl
@[go_sem] theorem a7Y (op:POp) (st:Bool) (d:Option Nat) (rest:List (bF × Bool)) (K:PF→PH→Prop):uM C Hs S (some (.bool false)) true st op d rest K F H=wpD C Hs S rest K (F.put d (.tup [])) H:=rfl
@[go_sem] theorem a5D (want:Bool) (op:POp) (st:Bool) (d:Option Nat) (rest:List (bF × Bool)) (K:PF→PH→Prop):uM C Hs S (some (.tup [])) want st op d rest K F H=wpD C Hs S rest K (F.put d (.tup [])) H:=rfl
@[go_sem] theorem bfD (x:aM) (st:Bool) (d:Option Nat) (K:PF→PH→Prop):dOp C Hs S st (.mv x) d K F H=bN (aK (.mv x) F (if st then Hs else H)) d K F H:=rfl
@[go_sem] theorem bbN (x:aM) (st:Bool) (d:Option Nat) (K:PF→PH→Prop):dOp C Hs S st (.same x) d K F H=bN (aK (.same x) F (if st then Hs else H)) d K F H:=rfl
@[go_sem] theorem bbM (c a b:aM) (st:Bool) (d:Option Nat) (K:PF→PH→Prop):dOp C Hs S st (.pick c a b) d K F H=bN (aK (.pick c a b) F (if st then Hs else H)) d K F H:=rfl
@[go_sem] theorem beS (o:BinOp) (x y:aM) (st:Bool) (d:Option Nat) (K:PF→PH→Prop):dOp C Hs S st (.bin o x y) d K F H=bN (aK (.bin o x y) F (if st then Hs else H)) d K F H:=rfl
@[go_sem] theorem beU (n:Bool) (x y:aM) (st:Bool) (d:Option Nat) (K:PF→PH→Prop):dOp C Hs S st (.eqb n x y) d K F H=bN (aK (.eqb n x y) F (if st then Hs else H)) d K F H:=rfl
@[go_sem] theorem beV (n:Bool) (ks:List Sc) (x y:aM) (st:Bool) (d:Option Nat) (K:PF→PH→Prop):dOp C Hs S st (.eqs n ks x y) d K F H=bN (aK (.eqs n ks x y) F (if st then Hs else H)) d K F H:=rfl
@[go_sem] theorem bfE (o:UnOp) (x:aM) (st:Bool) (d:Option Nat) (K:PF→PH→Prop):dOp C Hs S st (.un o x) d K F H=bN (aK (.un o x) F (if st then Hs else H)) d K F H:=rfl
@[go_sem] theorem bbG (k:IntKind) (x:aM) (st:Bool) (d:Option Nat) (K:PF→PH→Prop):dOp C Hs S st (.conv k x) d K F H=bN (aK (.conv k x) F (if st then Hs else H)) d K F H:=rfl
@[go_sem] theorem a7P (z:List PV) (ps:List (Nat × Nat × aM)) (st:Bool) (d:Option Nat) (K:PF→PH→Prop):dOp C Hs S st (.build z ps) d K F H=bN (aK (.build z ps) F (if st then Hs else H)) d K F H:=rfl
@[go_sem] theorem bbK (n:Option Nat) (p:aM) (st:Bool) (d:Option Nat) (K:PF→PH→Prop):dOp C Hs S st (.load n p) d K F H=bN (aK (.load n p) F (if st then Hs else H)) d K F H:=rfl
@[go_sem] theorem a6U (x:aM) (st:Bool) (d:Option Nat) (K:PF→PH→Prop):dOp C Hs S st (.nilchk x) d K F H=bN (aK (.nilchk x) F (if st then Hs else H)) d K F H:=rfl
@[go_sem] theorem a6O (off:Nat) (x:aM) (st:Bool) (d:Option Nat) (K:PF→PH→Prop):dOp C Hs S st (.fieldA off x) d K F H=bN (aK (.fieldA off x) F (if st then Hs else H)) d K F H:=rfl
@[go_sem] theorem a7Q (off:Nat) (n:Option Nat) (x:aM) (st:Bool) (d:Option Nat) (K:PF→PH→Prop):dOp C Hs S st (.field off n x) d K F H=bN (aK (.field off n x) F (if st then Hs else H)) d K F H:=rfl
@[go_sem] theorem bbI (s:Nat) (x i:aM) (st:Bool) (d:Option Nat) (K:PF→PH→Prop):dOp C Hs S st (.idxS s x i) d K F H=bN (aK (.idxS s x i) F (if st then Hs else H)) d K F H:=rfl
@[go_sem] theorem bbH (n s:Nat) (x i:aM) (st:Bool) (d:Option Nat) (K:PF→PH→Prop):dOp C Hs S st (.idxA n s x i) d K F H=bN (aK (.idxA n s x i) F (if st then Hs else H)) d K F H:=rfl
@[go_sem] theorem bbJ (n s:Nat) (g:Bool) (x i:aM) (st:Bool) (d:Option Nat) (K:PF→PH→Prop):dOp C Hs S st (.idxV n s g x i) d K F H=bN (aK (.idxV n s g x i) F (if st then Hs else H)) d K F H:=rfl
@[go_sem] theorem a6P (x i:aM) (st:Bool) (d:Option Nat) (K:PF→PH→Prop):dOp C Hs S st (.idxStr x i) d K F H=bN (aK (.idxStr x i) F (if st then Hs else H)) d K F H:=rfl
@[go_sem] theorem a7S (s:Nat) (x:aM) (lo hi mx:Option aM) (st:Bool) (d:Option Nat) (K:PF→PH→Prop):dOp C Hs S st (.slice s x lo hi mx) d K F H=bN (aK (.slice s x lo hi mx) F (if st then Hs else H)) d K F H:=rfl
@[go_sem] theorem a3O (x:aM) (lo hi:Option aM) (st:Bool) (d:Option Nat) (K:PF→PH→Prop):dOp C Hs S st (.sliceStr x lo hi) d K F H=bN (aK (.sliceStr x lo hi) F (if st then Hs else H)) d K F H:=rfl
@[go_sem] theorem beW (x:aM) (st:Bool) (d:Option Nat) (K:PF→PH→Prop):dOp C Hs S st (.len x) d K F H=bN (aK (.len x) F (if st then Hs else H)) d K F H:=rfl
@[go_sem] theorem a6Q (x:aM) (st:Bool) (d:Option Nat) (K:PF→PH→Prop):dOp C Hs S st (.lenStr x) d K F H=bN (aK (.lenStr x) F (if st then Hs else H)) d K F H:=rfl
@[go_sem] theorem a6N (x:aM) (st:Bool) (d:Option Nat) (K:PF→PH→Prop):dOp C Hs S st (.capNil x) d K F H=bN (aK (.capNil x) F (if st then Hs else H)) d K F H:=rfl
@[go_sem] theorem a5B (x:aM) (i:Nat) (st:Bool) (d:Option Nat) (K:PF→PH→Prop):dOp C Hs S st (.extract x i) d K F H=bN (aK (.extract x i) F (if st then Hs else H)) d K F H:=rfl
@[go_sem] theorem a6T (m:Bool) (x y:aM) (st:Bool) (d:Option Nat) (K:PF→PH→Prop):dOp C Hs S st (.minmax m x y) d K F H=bN (aK (.minmax m x y) F (if st then Hs else H)) d K F H:=rfl
@[go_sem] theorem bbL (n:Nat) (cs:List aM) (st:Bool) (d:Option Nat) (K:PF→PH→Prop):dOp C Hs S st (.mkfn n cs) d K F H=bN (aK (.mkfn n cs) F (if st then Hs else H)) d K F H:=rfl
@[go_sem] theorem a6R (sh:MSh) (z:PV) (x k:aM) (ok:Bool) (st:Bool) (d:Option Nat) (K:PF→PH→Prop):dOp C Hs S st (.lookup sh z x k ok) d K F H=bN (aK (.lookup sh z x k ok) F (if st then Hs else H)) d K F H:=rfl
@[go_sem] theorem a3D (x:aM) (st:Bool) (d:Option Nat) (K:PF→PH→Prop):dOp C Hs S st (.bytes2str x) d K F H=bN (aK (.bytes2str x) F (if st then Hs else H)) d K F H:=rfl
@[go_sem] theorem bbF (x:aM) (st:Bool) (d:Option Nat) (K:PF→PH→Prop):dOp C Hs S st (.box true x) d K F H=bN (aK (.box true x) F (if st then Hs else H)) d K F H:=rfl
@[go_sem] theorem a5A (s l:Nat) (z:List PV) (ps:List (Nat × aM)) (st:Bool) (d:Option Nat) (K:PF→PH→Prop):dOp C Hs S st (.bslice true s l z ps) d K F H=bN (aK (.bslice true s l z ps) F (if st then Hs else H)) d K F H:=rfl
@[go_sem] theorem a7O (cs:List PV) (st:Bool) (d:Option Nat) (K:PF→PH→Prop):dOp C Hs S st (.alloc cs) d K F H=kB (cI (.alloc cs) F) d K F H:=rfl
@[go_sem] theorem a5C (s b:Nat) (z:List PV) (l c:aM) (st:Bool) (d:Option Nat) (K:PF→PH→Prop):dOp C Hs S st (.mkslice s b z l c) d K F H=kB (cI (.mkslice s b z l c) F) d K F H:=rfl
@[go_sem] theorem a7R (sh:MSh) (st:Bool) (d:Option Nat) (K:PF→PH→Prop):dOp C Hs S st (.mkmap sh) d K F H=kB (cI (.mkmap sh) F) d K F H:=rfl
@[go_sem] theorem beT (x:aM) (st:Bool) (d:Option Nat) (K:PF→PH→Prop):dOp C Hs S st (.box false x) d K F H=kB (cI (.box false x) F) d K F H:=rfl
@[go_sem] theorem a6M (s l:Nat) (z:List PV) (ps:List (Nat × aM)) (st:Bool) (d:Option Nat) (K:PF→PH→Prop):dOp C Hs S st (.bslice false s l z ps) d K F H=kB (cI (.bslice false s l z ps) F) d K F H:=rfl
@[go_sem] theorem a7T (n:Nat) (p x:aM) (st:Bool) (d:Option Nat) (K:PF→PH→Prop):dOp C Hs S st (.store n p x) d K F H=bR (.store n p x) F H (fun r H'=>Hs.le H'∧K (F.put d r) H'):=rfl
@[go_sem] theorem a6L (s b:Nat) (x y:aM) (st:Bool) (d:Option Nat) (K:PF→PH→Prop):dOp C Hs S st (.append s b x y) d K F H=bR (.append s b x y) F H (fun r H'=>Hs.le H'∧K (F.put d r) H'):=rfl
@[go_sem] theorem a6S (sh:MSh) (x k v:aM) (st:Bool) (d:Option Nat) (K:PF→PH→Prop):dOp C Hs S st (.mapset sh x k v) d K F H=bR (.mapset sh x k v) F H (fun r H'=>Hs.le H'∧K (F.put d r) H'):=rfl
theorem DQ:H.only []=PH.nil:=PH.ext fun o=>by simp[PH.only,PH.nil]
theorem cU {name:Nat} {vs:List PV} {v:PV} {args:List aM} {st:Bool} {d:Option Nat} {K:PF→PH→Prop} (hS:S name vs=some ([],fun _=>aL v)) (h:aI C name vs .nil (aL v)) (ha:aM.evs F args=some vs)
  (hle:Hs.le H) (hk:K (F.put d v) H):dOp C Hs S st (.call name args) d K F H:=by
 refine⟨vs,[],fun _=>aL v,ha,hS,fun o ho=>by simp at ho,by rw[DQ]; exact h,fun G=>⟨v,.nil,⟨rfl,rfl⟩,fun o x hx=>by simp[PH.nil] at hx⟩,?_⟩
 rintro r H' ⟨rfl,rfl⟩ -
 rw[DQ,PH.uW]
 exact⟨hle,hk⟩
end
end Go.PM
namespace Go.PM
open Go
theorem wrap_i64 {n:Int} (h1:-9223372036854775808≤n) (h2:n≤9223372036854775807):IntKind.i64.wrap n=n:=by
 have e:IntKind.i64.wrap n=if decide (n%18446744073709551616≥9223372036854775808)=true then n%18446744073709551616-18446744073709551616 else n%18446744073709551616:=by
  simp[IntKind.wrap,IntKind.bits,IntKind.signed]
 rw[e]
 split
 ·rename_i h; simp only[decide_eq_true_eq] at h; omega
 ·rename_i h; simp only[decide_eq_true_eq] at h; omega
theorem SP {k:Nat} (h:k≤9223372036854775807):IntKind.i64.wrap (k:Int)=k:=wrap_i64 (by omega) (by omega)
theorem aN {k:Nat} (h:k<9223372036854775807):IntKind.i64.wrap ((k:Int)+1)=((k+1:Nat):Int):=by
 rw[wrap_i64 (by omega) (by omega)]; omega
theorem wrap_u64 {n:Int} (h1:0≤n) (h2:n<18446744073709551616):IntKind.u64.wrap n=n:=by
 have e:IntKind.u64.wrap n=n%18446744073709551616:=by
  simp[IntKind.wrap,IntKind.bits,IntKind.signed]
 rw[e]; omega
abbrev ints (xs:List Int):PV:=.sl 1 (xs.map fun n=>[.int .i64 n])
end Go.PM
namespace Go.PM
open Go Go.RowKit
inductive CT where
 | int (k:IntKind)
 | bool
 | str
 | sl (es:List CT)
 deriving Inhabited
def nK (P:Program) (rec:TypeId→Option (List CT)):Nat→List Field→Option (List CT)
 | _,[]=>some []
 | k,f::fs=>match rec f.type with
  | some cts=>if f.offset=k∧P.cellsOf f.type=cts.length then (nK P rec (k+cts.length) fs).map (cts++·) else none
  | none=>none
def fV (P:Program):Nat→TypeId→Option (List CT)
 | 0,_=>none
 | n+1,t=>match P.underlying t with
  | some .bool=>some [.bool]
  | some (.int k)=>some [.int k]
  | some .string=>some [.str]
  | some (.slice e)=>match fV P n e with
   | some cts=>if P.cellsOf e=cts.length∧0<cts.length then some [.sl cts] else none
   | none=>none
  | some (.struct fs)=>match nK P (fV P n) 0 fs.toList with
   | some cts=>if P.cellsOf t=cts.length then some cts else none
   | none=>none
  | _=>none
inductive PV.Ty:CT→PV→Prop
 | int {k:IntKind} {n:Int} (h:(Lit.int k n).wf=true):PV.Ty (.int k) (.int k n)
 | bool (b:Bool):PV.Ty .bool (.bool b)
 | str {s:List UInt8} (h:s.length≤maxLen):PV.Ty .str (.str s)
 | sl {es:List CT} {rows:List (List PV)} (hr:∀ r∈rows,r.length=es.length) (hl:rows.length≤maxLen) (h:∀ (i j:Nat) pv ct,at2 rows i j=some pv→es[j]?=some ct→PV.Ty ct pv):PV.Ty (.sl es) (.sl es.length rows)
def Env.of (W:World) (num:Nat→FuncId):Env:=⟨fun b=>match W.heap[b]? with | some (.cells cs _ _)=>some cs | _=>none,fun _=>none,num⟩
theorem bL.start (W:World) (num:Nat→FuncId):bL (Env.of W num) PH.nil W:=by
 refine⟨fun b cs hb=>⟨fun x hx=>(by cases hx),?_⟩,fun o x hx=>(by cases hx),fun o n h=>(by cases h)⟩
 simp only[Env.of] at hb
 split at hb
 ·rename_i c ty fr h
  cases hb
  exact⟨ty,fr,h⟩
 ·cases hb
structure Reads (E:Env) (cts:List CT) (pvs:List PV) (cs:List Value):Prop where
 lp:pvs.length=cts.length
 lc:cs.length=cts.length
 rep:∀ (j:Nat) pv c,pvs[j]?=some pv→cs[j]?=some c→aT E pv c∧c.oneCell'=true
 ty:∀ (j:Nat) pv ct,pvs[j]?=some pv→cts[j]?=some ct→PV.Ty ct pv
theorem Reads.one {E:Env} {ct:CT} {pv:PV} {c:Value} (h:aT E pv c) (h1:c.oneCell'=true) (ht:PV.Ty ct pv):Reads E [ct] [pv] [c]:=by
 refine⟨rfl,rfl,fun j p u a b=>?_,fun j p u a b=>?_⟩
 ·cases j with
  | zero=>simp at a b; subst a; subst b; exact⟨h,h1⟩
  | succ j=>simp at a
 ·cases j with
  | zero=>simp at a b; subst a; subst b; exact ht
  | succ j=>simp at a
theorem Reads.append {E:Env} {ct1 ct2:List CT} {p1 p2:List PV} {c1 c2:List Value} (h:Reads E ct1 p1 c1) (k:Reads E ct2 p2 c2):Reads E (ct1++ct2) (p1++p2) (c1++c2):=by
 refine⟨by simp[h.lp,k.lp],by simp[h.lc,k.lc],fun j p u a b=>?_,fun j p u a b=>?_⟩
 ·rcases bgI j p1.length with hj | hj
  ·rw[biP hj] at a
   rw[biP (by rw[h.lc,← h.lp]; exact hj)] at b
   exact h.rep j p u a b
  ·rw[biT hj] at a
   rw[biT (by rw[h.lc,← h.lp]; exact hj)] at b
   rw[show j-c1.length=j-p1.length by rw[h.lc,h.lp]] at b
   exact k.rep _ p u a b
 ·rcases bgI j p1.length with hj | hj
  ·rw[biP hj] at a
   rw[biP (by rw[← h.lp]; exact hj)] at b
   exact h.ty j p u a b
  ·rw[biT hj] at a
   rw[biT (by rw[← h.lp]; exact hj)] at b
   rw[show j-ct1.length=j-p1.length by rw[h.lp]] at b
   exact k.ty _ p u a b
theorem TC {W:World} {num:Nat→FuncId} {a:Addr} {v:Value} (h:W.cell? a=some v):a.spot=none∧(Env.of W num).cell a.block a.off=some v:=by
 unfold World.cell? at h
 split at h
 ·rename_i c ty fr hb
  split at h
  ·cases h
  ·rename_i hs
   refine⟨by simpa using hs,?_⟩
   simp only[Env.cell,Env.of,hb]
   exact h
 ·cases h
theorem GP {P:Program} {E:Env} {rec:TypeId→Option (List CT)} {H:Type} {f:TypeId→List Value→Option (DataW H × List MemPlace)}
  (ih:∀ t cs x cts,f t cs=some x→rec t=some cts→∃ pvs,Reads E cts pvs cs) (cs:List Value) :
  ∀ (fs:List Field) (k:Nat) (cts:List CT),(∀ g∈fs,∃ x,f g.type ((cs.drop g.offset).take (P.cellsOf g.type))=some x)→nK P rec k fs=some cts →
   ∃ pvs,Reads E cts pvs ((cs.drop k).take cts.length)
 | [],k,cts,_,h=>by
  simp[nK] at h; subst h
  exact⟨[],rfl,by simp,fun j p c a=>by simp at a,fun j p c a=>by simp at a⟩
 | g::fs,k,cts,hm,h=>by
  simp only[nK] at h
  split at h
  ·rename_i c1 h1
   split at h
   ·rename_i hc
    simp only[bfY] at h
    obtain⟨c2,h2,rfl⟩:=h
    obtain⟨x,hx⟩:=hm g (by simp)
    obtain⟨p1,r1⟩:=ih _ _ _ _ hx h1
    rw[hc.1,hc.2] at r1
    obtain⟨p2,r2⟩:=GP ih cs fs (k+c1.length) c2 (fun g' hg'=>hm g' (by simp[hg'])) h2
    refine⟨p1++p2,?_⟩
    have:=r1.append r2
    rw[bfW,List.take_add,List.drop_drop]
    exact this
   ·cases h
  ·cases h
theorem YA {H:Type} {enc:TypeId × Value→H} {P:Program} {W:World} {base:Nat} {sp:Nat→Bool} {held:Bool} (num:Nat→FuncId) :
  ∀ (fuel m:Nat) (t:TypeId) (cs:List Value) (x:DataW H × List MemPlace) (cts:List CT),DataW.trod enc P W base sp held fuel t cs=some x→fV P m t=some cts→∃ pvs,Reads (Env.of W num) cts pvs cs:=by
 intro fuel
 induction fuel with
 | zero=>intro m t cs x cts h; simp[DataW.trod] at h
 | succ fuel ih =>
  intro m t cs x cts h hc
  cases m with
  | zero=>simp[fV] at hc
  | succ m =>
   simp only[fV] at hc
   split at hc
   ·rename_i hu
    cases hc
    obtain⟨b,rfl,-⟩:=DataW.trod_bool hu h
    exact⟨[.bool b],.one (.bool b) rfl (.bool b)⟩
   ·rename_i k hu
    cases hc
    obtain⟨n,rfl,-,hw⟩:=DataW.trod_int hu h
    exact⟨[.int k n],.one (.int k n) rfl (.int hw)⟩
   ·rename_i hu
    cases hc
    obtain⟨s,rfl,-,hs⟩:=DataW.trod_string hu h
    exact⟨[.str s.data.toList],.one (.str s) rfl (.str (by rw[biL]; exact hs))⟩
   ·rename_i e hu
    split at hc
    ·rename_i ces he
     split at hc
     ·rename_i hcond
      cases hc
      rcases DataW.trod_slice hu h with ⟨rfl,-⟩ | ⟨a,len,cap,elems,rest,n,hn,rfl,-,-,hlen,hcap,hel,helem,-⟩
      ·refine⟨[.sl ces.length []],.one ?_ rfl (.sl (by simp) (by simp) (by simp[at2]))⟩
       exact .sl (fun _ _=>.bool false) (by simp) (by decide) (by simp) (by simp) (fun _ _=>rfl) (by simp[at2])
      ·cases hn
       have each:∀ i,i<len→∃ pvs us,Reads (Env.of W num) ces pvs us∧W.cells? base (a.add (i*ces.length)) ces.length=some us:=by
        intro i hi
        have h1:=helem i hi
        rw[bgF (by omega),biX] at h1
        obtain⟨us,h2,h3⟩:=h1
        obtain⟨pvs,r⟩:=ih m e us _ ces h3 he
        rw[hcond.1] at h2
        exact⟨pvs,us,r,h2⟩
       have each':∀ i,∃ pvs,∃ us,i<len→Reads (Env.of W num) ces pvs us∧W.cells? base (a.add (i*ces.length)) ces.length=some us:=by
        intro i
        by_cases hi:i<len
        ·obtain⟨pvs,us,h1⟩:=each i hi
         exact⟨pvs,us,fun _=>h1⟩
        ·exact⟨[],[],fun h=>(hi h).elim⟩
       obtain⟨pf,hpf⟩:=Classical.axiomOfChoice each'
       obtain⟨uf,huf⟩:=Classical.axiomOfChoice hpf
       have hat:∀ i j pv,at2 ((bgN len).map pf) i j=some pv→i<len∧(pf i)[j]?=some pv:=by
        intro i j pv hp
        unfold at2 at hp
        rw[bhG,biX] at hp
        obtain⟨r,hr,hp⟩:=hp
        rw[bfY] at hr
        obtain⟨i',hi',rfl⟩:=hr
        have hi:i<len:=by simpa using (bhF.1 hi').1
        have:i'=i:=by simp[hi] at hi'; exact hi'.symm
        subst this
        exact⟨hi,hp⟩
       have hu:∀ i j pv,at2 ((bgN len).map pf) i j=some pv→∃ v,(uf i)[j]?=some v∧j<ces.length∧aT (Env.of W num) pv v∧v.oneCell'=true:=by
        intro i j pv hp
        obtain⟨hi,hp'⟩:=hat i j pv hp
        obtain⟨r,-⟩:=huf i hi
        have hj:j<ces.length:=by rw[← r.lp]; exact (bhF.1 hp').1
        have hv:(uf i)[j]?=some ((uf i)[j]'(by rw[r.lc]; exact hj)):=bgF _
        exact⟨_,hv,hj,(r.rep j pv _ hp' hv).1,(r.rep j pv _ hp' hv).2⟩
       have hul:((bgN len).map pf).length=len:=by simp
       refine⟨[.sl ces.length ((bgN len).map pf)],.one ?_ rfl (.sl (fun r hr=>?_) (by rw[hul]; omega) fun i j pv ct hp hct=>?_)⟩
       ·have key:=aT.sl (E:=Env.of W num) (size:=ces.length) (rows:=(bgN len).map pf) (a:=some a) (cap:=cap)
         (fun i j=>match at2 ((bgN len).map pf) i j with | some _=>((uf i)[j]?).getD (.bool false) | none=>.bool false) (by rw[hul]; exact hlen) hcap
         (fun r hr=>by
          simp only[bgZ,bhW] at hr
          obtain⟨i,hi,rfl⟩:=hr
          exact (huf i hi).1.lp)
         (fun hne=>by
          have hl0:0<len:=by
           rcases biB len with h | h
           ·subst h; exact (hne rfl).elim
           ·exact h
          have hsp:a.spot=none:=by
           obtain⟨r,hc⟩:=huf 0 hl0
           have h3:=(World.cells?_some hc).2.2 0 hcond.2
           rw[Nat.zero_mul,Addr.add_zero',Addr.add_zero',bgF (by rw[r.lc]; exact hcond.2)] at h3
           exact (TC (num:=num) h3).1
          refine⟨a,rfl,hsp,fun i j pv hp=>?_⟩
          obtain⟨hi,-⟩:=hat i j pv hp
          obtain⟨v,hv,hj,-⟩:=hu i j pv hp
          have h3:=(World.cells?_some (huf i hi).2).2.2 j hj
          rw[kW hsp,add_plain,add_plain,hv] at h3
          have h4:=(TC (num:=num) h3).2
          simp only[hp,hv,biM]
          exact h4)
         (fun i j=>by
          split
          ·rename_i pv hp
           obtain⟨v,hv,-,-,h1⟩:=hu i j pv hp
           simp[hv,h1]
          ·rfl)
         (fun i j pv hp=>by
          obtain⟨v,hv,-,h1,-⟩:=hu i j pv hp
          simp only[hp,hv,biM]
          exact h1)
        rw[hul] at key
        exact key
       ·simp only[bgZ,bhW] at hr
        obtain⟨i,hi,rfl⟩:=hr
        exact (huf i hi).1.lp
       ·obtain⟨hi,hp'⟩:=hat i j pv hp
        exact (huf i hi).1.ty j pv ct hp' hct
     ·cases hc
    ·cases hc
   ·rename_i fs hu
    split at hc
    ·rename_i cts' hcf
     split at hc
     ·rename_i hlen
      cases hc
      obtain⟨xs,n,hn,-,hcl,hxl,hx⟩:=DataW.trod_struct hu h
      cases hn
      have:=GP (f:=DataW.trod enc P W base sp held fuel) (fun t cs x cts a b=>ih m t cs x cts a b) cs fs.toList 0 cts (fun g hg=>by
       obtain⟨i,hi,rfl⟩:=bhM hg
       have:=hx i fs.toList[i] (by simp at hi; simp[hi])
       rw[this]
       exact⟨_,bgF (by simp at hi; omega)⟩) hcf
      rw[bgV,bgH (by omega)] at this
      exact this
     ·cases hc
    ·cases hc
   ·cases hc
end Go.PM
namespace Go.PM
open Go Go.RowKit Go.ChangeShapes Go.WideShapes
theorem Ext.below {E E':Env} {H':PH} {w w':World} (h:Ext E PH.nil w E' H' w'):Below w.heap.size w w' :=
 ⟨h.os,h.tape,h.output,h.size,fun k hk=>h.block k hk rfl⟩
theorem Below.trodAll {H:Type} {enc:TypeId × Value→H} {P:Program} (hl:laidOutB P=true) {W W':World} (hb:Below W.heap.size W W') :
  ∀ {ts:List TypeId} {vs:List Value} {ds:List (DataW H)} {ps:List MemPlace},(∀ t∈ts,P.readableRec t=true∧t<P.types.size)→DataW.TrodAll enc P W 0 (fun _=>true) true ts vs ds ps →
   DataW.TrodAll enc P W' 0 (fun b=>decide (b<W.heap.size)) true ts vs ds ps
 | [],[],[],ps,_,h=>h
 | [],_::_,_,_,_,h=>h.elim
 | [],[],_::_,_,_,h=>h.elim
 | _::_,[],_,_,_,h=>h.elim
 | _::_,_::_,[],_,_,h=>h.elim
 | t::ts,v::vs,d::ds,ps,ht,h=>by
  obtain⟨p,q,h1,h2,rfl⟩:=h
  have hlt:∀ x∈p,x.block<W.heap.size:=fun x hx=>DataW.TrodAll.lt (ts:=[t]) (vs:=[v]) (ds:=[d]) ⟨p,[],h1,rfl,(bhN p).symm⟩ x hx
  exact⟨p,q,Below.trod hl (ht t (by simp)).1 (ht t (by simp)).2 h1 hb hlt,Below.trodAll hl hb (fun u hu=>ht u (by simp[hu])) h2,rfl⟩
theorem aQG {H:Type} {enc:TypeId × Value→H} {P:Program} {f:Func} {s:ChangeSpec} {handsOn apart fresh:Bool} {W W':World} {args:Array Value} {ds gs:List (DataW H)} {before:List MemPlace} {bt:TypeId}
  (hl:laidOutB P=true) (hW:DataW.Whole enc P f.params.toList s.vars apart W args.toList ds gs before) (hb:Below W.heap.size W W') (hts:∀ t∈f.params.toList,P.readableRec t=true∧t<P.types.size)
  (hrt:f.resultTypes=#[bt]) (hbt:P.underlying bt=some .bool) (hv:s.vars=[]) (hr:(s.fn H (ds++gs)).results=[.lit (.bool true)]) (ha:(s.fn H (ds++gs)).args=ds) (hvs:(s.fn H (ds++gs)).vars=[]) :
  s.post enc P f apart fresh handsOn false W args (.bool true) W':=by
 obtain⟨p,q,hA,hV,rfl,hz,hn⟩:=hW
 rw[hv] at hV
 obtain⟨rfl,rfl⟩:=trodVars_none hV
 refine⟨ds,[],p++[],[],p,[],⟨p,[],hA,by rw[hv]; exact hV,rfl,hz,hn⟩,?_,?_,?_,hb.frame _,fun h=>by cases h⟩
 ·rw[hr,hrt]
  refine⟨[],[],⟨1,?_⟩,rfl,rfl⟩
  simp[DataW.trod,hbt,Value.cells,Value.resultList]
 ·rw[ha]
  exact Below.trodAll hl hb hts hA
 ·rw[hv,hvs]
  exact rfl
theorem aOE {C:Ctx} {name:Nat} {W:World} {args:Array Value} {pvs:List PV} (h:aI C name pvs PH.nil (aL (.bool true))) (hr:eF (Env.of W C.num) pvs args.toList) :
  Calls C.P (C.num name) args W fun e W'=>e=.returned (.bool true)∧Below W.heap.size W W' :=
 (h.2 (Env.of W C.num) W args rfl (bL.start W C.num) hr).mono fun e W' he=>by
  obtain⟨v,pv,E',H',rfl,-,hrep,hE,rfl,-⟩:=he
  cases hrep
  exact⟨rfl,hE.below⟩
theorem aIO {H:Type} {enc:TypeId × Value→H} {P:Program} {W:World} {r:Reach} {base:Nat} {sp:Nat→Bool} {held:Bool} (num:Nat→FuncId) {t:TypeId} {v:Value} {d:DataW H} {ps:List MemPlace} {fs:Array Field} {n:Nat} {cts:List CT}
  (hu:P.underlying t=some (.struct fs)) (hval:Value.okWide P W r base t v) (hd:DataW.Trod enc P W 0 sp held t v d ps) (hc:fV P n t=some cts) :
  ∃ pvs,aT (Env.of W num) (.agg pvs) v∧pvs.length=cts.length∧∀ (j:Nat) pv ct,pvs[j]?=some pv→cts[j]?=some ct→PV.Ty ct pv:=by
 obtain⟨cs,rfl,-⟩:=okWide_struct hu hval
 obtain⟨fuel,h⟩:=hd
 obtain⟨pvs,hr⟩:=YA num fuel n t _ _ cts h hc
 have hl:cs.size=pvs.length:=by have:=hr.lc; rw[hr.lp,← this]; simp[Value.cells]
 refine⟨pvs,.agg cs hl (fun u hu=>?_) (fun j pv u a b=>(hr.rep j pv u a (by simpa [Value.cells] using b)).1),hr.lp,hr.ty⟩
 obtain⟨j,hj,rfl⟩:=bhM hu
 simp only[biL] at hj
 exact (hr.rep j _ _ (bgF (by omega)) (by simp[Value.cells,hj])).2
theorem qL {H:Type} {enc:TypeId × Value→H} {P:Program} {W:World} {sp:Nat→Bool} {held:Bool} (num:Nat→FuncId) {t:TypeId} {v:Value} {d:DataW H} {ps:List MemPlace} {n:Nat} {ct:CT}
  (hv:v.cells=#[v]) (hd:DataW.Trod enc P W 0 sp held t v d ps) (hc:fV P n t=some [ct]):∃ pv,aT (Env.of W num) pv v∧PV.Ty ct pv:=by
 obtain⟨fuel,h⟩:=hd
 obtain⟨pvs,hr⟩:=YA num fuel n t _ _ [ct] h hc
 rw[hv] at hr
 have hl:=hr.lp
 cases pvs with
 | nil=>simp at hl
 | cons pv rest=>exact⟨pv,(hr.rep 0 pv v rfl rfl).1,hr.ty 0 pv ct rfl rfl⟩
end Go.PM
namespace Go.PM
open Go
def InK (k:IntKind) (n:Int):Prop:=k.min≤n∧n≤k.max
def aKA (k:IntKind) (xs:List Int):PV:=.sl 1 (xs.map fun n=>[.int k n])
theorem Ty.aaA {k:IntKind} {pv:PV} (h:PV.Ty (.int k) pv):∃ n,pv=.int k n∧InK k n:=by
 cases h with
 | int h=>simp only[Lit.wf,bgP,decide_eq_true_eq] at h; exact⟨_,rfl,h⟩
theorem Ty.a1O {ct:CT} {pv:PV} (h:PV.Ty (.sl [ct]) pv):∃ vs:List PV,pv=.sl 1 (vs.map fun v=>[v])∧vs.length≤maxLen∧∀ v∈vs,PV.Ty ct v:=by
 cases h with
 | @sl es rows hr hl h =>
 have key:∀ r∈rows,r=[r.headD .junk]:=fun r hm=>by
  have:=hr r hm
  match r,this with
  | [x],_=>rfl
 have e:rows=(rows.map fun r=>r.headD .junk).map fun v=>[v]:=by
  rw[List.map_map]
  apply biO (by simp)
  intro n h1 h2
  simp only[bhL,Function.comp]
  exact key _ (bgA h1)
 refine⟨rows.map fun r=>r.headD .junk,by rw[← e]; rfl,by simpa using hl,fun v hv=>?_⟩
 rw[bgZ] at hv
 obtain⟨r,hm,rfl⟩:=hv
 obtain⟨i,hi,rfl⟩:=bhM hm
 refine h i 0 _ ct ?_ rfl
 have:=key rows[i] hm
 unfold at2
 rw[bgF hi,bjB,this]
 rfl
theorem Ty.aUP {k:IntKind} {pv:PV} (h:PV.Ty (.sl [.int k]) pv):∃ xs:List Int,pv=aKA k xs∧xs.length≤maxLen∧∀ x∈xs,InK k x:=by
 obtain⟨vs,rfl,hl,hv⟩:=Ty.a1O h
 have e:vs=(vs.map fun v=>match v with | .int _ n=>n | _=>0).map fun n=>PV.int k n:=by
  rw[List.map_map]
  apply biO (by simp)
  intro n h1 h2
  simp only[bhL,Function.comp]
  obtain⟨m,hm,-⟩:=Ty.aaA (hv _ (bgA h1))
  rw[hm]
 refine⟨vs.map fun v=>match v with | .int _ n=>n | _=>0,?_,by simpa using hl,fun x hx=>?_⟩
 ·unfold aKA
  conv=>lhs; rw[e]
  rw[List.map_map]
  rfl
 ·rw[bgZ] at hx
  obtain⟨v,hm,rfl⟩:=hx
  obtain⟨m,rfl,hk⟩:=Ty.aaA (hv v hm)
  exact hk
end Go.PM
namespace Go.PM
abbrev Rg:=List bF
abbrev Rd:=List (bF×Bool)
def iM (d s:Nat):bF:=⟨some d,.mv (.tmp s),none⟩
def iI (d:Nat) (n:Int):bF:=⟨some d,.mv (.const (.int .i64 n)),none⟩
def iB (d:Nat) (o:BinOp) (x y:Nat):bF:=⟨some d,.bin o (.tmp x) (.tmp y),none⟩
def iC (d:Nat) (o:BinOp) (x:Nat) (n:Int):bF:=⟨some d,.bin o (.tmp x) (.const (.int .i64 n)),none⟩
def iL (d s:Nat):bF:=⟨some d,.load none (.tmp s),none⟩
def iX (d n x y:Nat):bF:=⟨some d,.idxS n (.tmp x) (.tmp y),none⟩
def iN (d x:Nat):bF:=⟨some d,.len (.tmp x),none⟩
def iF (d n x:Nat):bF:=⟨some d,.fieldA n (.tmp x),none⟩
def iS (n p x:Nat):bF:=⟨none,.store n (.tmp p) (.tmp x),none⟩
def iA (d:Nat) (o:POp):bF:=⟨some d,o,none⟩
def iG (d:Nat) (o:POp) (g:Nat) (b:Bool):bF:=⟨some d,o,some (g,b)⟩
def Tm (n:Nat):aM:=.tmp n
def Ci (n:Int):aM:=.const (.int .i64 n)
@[go_sem] theorem bfP (d s:Nat):iM d s=⟨some d,.mv (.tmp s),none⟩:=rfl
@[go_sem] theorem bfN (d:Nat) (n:Int):iI d n=⟨some d,.mv (.const (.int .i64 n)),none⟩:=rfl
@[go_sem] theorem bfJ (d:Nat) (o:BinOp) (x y:Nat):iB d o x y=⟨some d,.bin o (.tmp x) (.tmp y),none⟩:=rfl
@[go_sem] theorem bfK (d:Nat) (o:BinOp) (x:Nat) (n:Int):iC d o x n=⟨some d,.bin o (.tmp x) (.const (.int .i64 n)),none⟩:=rfl
@[go_sem] theorem bfO (d s:Nat):iL d s=⟨some d,.load none (.tmp s),none⟩:=rfl
@[go_sem] theorem bfS (d n x y:Nat):iX d n x y=⟨some d,.idxS n (.tmp x) (.tmp y),none⟩:=rfl
@[go_sem] theorem bfQ (d x:Nat):iN d x=⟨some d,.len (.tmp x),none⟩:=rfl
@[go_sem] theorem bfL (d n x:Nat):iF d n x=⟨some d,.fieldA n (.tmp x),none⟩:=rfl
@[go_sem] theorem bfR (n p x:Nat):iS n p x=⟨none,.store n (.tmp p) (.tmp x),none⟩:=rfl
@[go_sem] theorem bfI (d:Nat) (o:POp):iA d o=⟨some d,o,none⟩:=rfl
@[go_sem] theorem bfM (d:Nat) (o:POp) (g:Nat) (b:Bool):iG d o g b=⟨some d,o,some (g,b)⟩:=rfl
@[go_sem] theorem bfH (n:Nat):Tm n=.tmp n:=rfl
@[go_sem] theorem bfG (n:Int):Ci n=.const (.int .i64 n):=rfl
end Go.PM
namespace Go.PM
open Go
def adN:Rg:=[iA 0 (.alloc [(.int .i64 0),.nils,.nils,.nils,.nils,.nils,.nils])]
def adO:Rg:=[iA 2 (.call 27 [(.const .nils),(Ci 1),(Ci 0)]),iA 1 (.alloc [(.int .i64 0),.nils,.nils,.nils,.nils,.nils,.nils]),iS 7 1 2]
def adP:Rg:=[iA 3 (.build [(.str []),(.int .i64 0)] [(0,1,(.const (.str [118,48])))]),iA 4 (.bslice true 2 1 [(.str []),(.int .i64 0)] [(0,(Tm 3))]),iF 5 6 1,iS 1 5 4]
def adQ:Rg:=[iA 6 (.load (some 7) (Tm 1)),iS 7 0 6]
def xK:aD:=(.seq (.region adN) (.seq (.region adO) (.seq (.region adP) (.seq (.region adQ) .ret))))
def aOQ:List Nat:=[4]
def HQ:bG:=⟨0,7,xK,[.cell 0 (some 7)]⟩
def acV:Rg:=[iA 0 (.mv (.const (.bool false)))]
def acW:Rg:=[iA 3 (.call 23 []),iA 1 (.alloc [(.int .i64 0),.nils,.nils,.nils,.nils,.nils,.nils]),iS 7 1 3]
def acX:Rg:=[iA 4 (.load (some 7) (Tm 1)),iA 5 (.bslice true 1 1 [(.int .i64 0)] [(0,(Ci (-1)))]),iA 6 (.bslice true 1 1 [.nils] [(0,(Tm 5))]),iA 7 (.call 154 [(Tm 4),(Tm 6),(.const .nils)]),iM 2 7]
def acY:Rg:=[iA 8 (.load (some 7) (Tm 1)),iA 9 (.call 147 [(Tm 8),(Ci 0),(Ci 4)]),iC 10 .eql 9 4,iM 11 10,iG 12 (.load (some 7) (Tm 1)) 11 true,iG 13 (.call 149 [(Tm 12),(Ci 0)]) 11 true,iG 14 (.len (Tm 13)) 11 true,iG 15 (.bin .eql (Tm 14) (Ci 1)) 11 true,iA 16 (.pick (Tm 11) (Tm 15) (.const (.bool false))),iM 17 16,iG 18 (.mv (Tm 2)) 17 true,iG 19 (.len (Tm 18)) 17 true,iG 20 (.bin .eql (Tm 19) (Ci 1)) 17 true,iA 21 (.pick (Tm 17) (Tm 20) (.const (.bool false))),iM 22 21,iG 23 (.mv (Tm 2)) 22 true,iG 24 (.idxS 3 (Tm 23) (Ci 0)) 22 true,iG 25 (.load (some 3) (Tm 24)) 22 true,iG 26 (.build [(.int .i64 0),(.int .i64 0),(.int .i64 0)] [(0,1,(Ci 2))]) 22 true,iG 27 (.eqs false [.int,.int,.int] (Tm 25) (Tm 26)) 22 true,iA 28 (.pick (Tm 22) (Tm 27) (.const (.bool false))),iM 29 28,iG 30 (.load (some 7) (Tm 1)) 29 true,iG 31 (.bslice true 1 1 [(.int .i64 0)] [(0,(Ci 0))]) 29 true,iG 32 (.bslice true 1 1 [.nils] [(0,(Tm 31))]) 29 true,iG 33 (.call 150 [(Tm 30),(Tm 32),(.const .nils)]) 29 true,iA 34 (.pick (Tm 29) (Tm 33) (.const (.bool false))),iM 35 34,iG 36 (.build [(.int .i64 0),.nils,.nils,.nils,.nils,.nils,.nils] []) 35 true,iG 37 (.call 150 [(Tm 36),(.const .nils),(.const .nils)]) 35 true,iG 38 (.un .not (Tm 37)) 35 true,iA 39 (.pick (Tm 35) (Tm 38) (.const (.bool false))),iM 0 39]
def xF:aD:=(.seq (.region acV) (.seq (.region acW) (.seq (.region acX) (.seq (.region acY) .ret))))
def aOG:List Nat:=[5,6,31,32]
def HL:bG:=⟨0,40,xF,[.tmp 0]⟩
def acQ:Rg:=[iA 2 (.mv (.const .nils))]
def acR:Rg:=[iM 4 0,iA 5 (.call 0 [(Tm 4),(Ci 8),(Ci 4)]),iA 3 (.alloc [(.int .i64 0),.nils,.nils,.nils,.nils,.nils,.nils]),iS 7 3 5]
def acS:Rg:=[iM 6 0,iA 7 (.load (some 7) (Tm 3)),iA 8 (.call 3 [(Tm 6),(Tm 7)])]
def acT:Rg:=[iM 9 0,iA 10 (.load (some 7) (Tm 3)),iA 11 (.call 6 [(Tm 9),(Tm 10)]),iM 2 11]
def xE:aD:=(.seq (.region acQ) (.seq (.region acR) (.seq (.region acS) (.seq (.region acT) .ret))))
def aOD:List Nat:=[]
def HK:bG:=⟨1,12,xE,[.tmp 2]⟩
def aKE:Rg:=[iA 2 (.mv (.const (.bool false)))]
def aKF:Rg:=[iM 20 0,iA 21 (.call 28 [(Tm 20)]),iM 3 21]
def aKG:Rg:=[iM 22 3,iA 23 (.call 0 [(Tm 22),(Ci 8),(Ci 4)]),iA 4 (.alloc [(.int .i64 0),.nils,.nils,.nils,.nils,.nils,.nils]),iS 7 4 23]
def aKH:Rg:=[iM 24 3,iA 25 (.load (some 7) (Tm 4)),iA 26 (.call 3 [(Tm 24),(Tm 25)]),iM 5 26]
def aKI:Rd:=[(iA 27 (.load (some 7) (Tm 4)),true),(iM 28 3,false),(iA 29 (.load (some 7) (Tm 4)),false),(iA 30 (.call 6 [(Tm 28),(Tm 29)]),true),(iA 31 (.call 152 [(Tm 27),(Tm 30)]),true),(iM 6 31,false)]
def aKJ:Rg:=[iM 32 6,iN 33 32,iF 34 4 4,iL 35 34,iN 36 35,iB 37 .neq 33 36]
def aKK:Rg:=[iA 2 (.mv (.const (.bool false)))]
def aKL:Rg:=[iA 7 (.mv (.const (.bool true)))]
def aKM:Rg:=[iI 8 0]
def aKN:Rg:=[iM 38 8,iM 39 5,iN 40 39,iB 41 .lss 38 40]
def azH:Rd:=[(iF 44 5 4,false),(iL 45 44,false),(iF 46 6 4,false),(iL 47 46,false),(iM 48 8,false),(iX 49 2 47 48,false),(iF 50 1 49,false),(iL 51 50,false),(iX 52 17 45 51,false),(iA 53 (.load (some 17) (Tm 52)),false),(iA 9 (.alloc [(.str []),(.int .i64 0),(.int .i64 0),(.int .i64 0),(.int .i64 0),(.int .i64 0),(.int .i64 0),(.int .i64 0),(.int .i64 0),.nils,.nils,(.bool false),.nils,.nils,(.bool false),.nils,.nils]),true),(iS 17 9 53,true)]
def azI:Rg:=[iI 10 0]
def azJ:Rg:=[iM 54 10,iM 55 5,iM 56 8,iX 57 1 55 56,iL 58 57,iN 59 58,iB 60 .lss 54 59]
def azK:Rg:=[iM 63 5,iM 64 8,iX 65 1 63 64,iL 66 65,iM 67 10,iX 68 1 66 67,iL 69 68,iM 11 69]
def azL:Rg:=[iM 70 11,iC 71 .lss 70 0]
def azM:Rg:=[iA 7 (.mv (.const (.bool false)))]
def azN:Rg:=[iM 72 6,iM 73 11,iX 74 1 72 73,iL 75 74,iC 76 .sub 75 1,iX 77 1 72 73,iS 1 77 76]
def azO:Rg:=[iI 12 0]
def azP:Rg:=[iM 78 12,iM 79 10,iB 80 .lss 78 79]
def azQ:Rg:=[iM 83 7,iM 84 83,iG 85 (.mv (Tm 5)) 84 true,iG 86 (.mv (Tm 8)) 84 true,iG 87 (.idxS 1 (Tm 85) (Tm 86)) 84 true,iG 88 (.load none (Tm 87)) 84 true,iG 89 (.mv (Tm 12)) 84 true,iG 90 (.idxS 1 (Tm 88) (Tm 89)) 84 true,iG 91 (.load none (Tm 90)) 84 true,iG 92 (.mv (Tm 11)) 84 true,iG 93 (.bin .neq (Tm 91) (Tm 92)) 84 true,iA 94 (.pick (Tm 84) (Tm 93) (.const (.bool false))),iM 7 94]
def azR:Rg:=[iM 81 12,iC 82 .add 81 1,iM 12 82]
def azA:aD:=(.seq (.seq (.region azP) (.cond (Tm 80) .skip (.exit 4))) (.seq (.block 5 (.region azQ)) (.region azR)))
def azS:Rg:=[iA 13 (.mv (.const (.bool false)))]
def azT:Rg:=[iI 14 0]
def azU:Rg:=[iM 95 14,iF 96 9 9,iL 97 96,iN 98 97,iB 99 .lss 95 98]
def azV:Rd:=[(iM 102 13,false),(iM 103 102,false),(iG 104 (.fieldA 9 (Tm 9)) 103 false,false),(iG 105 (.load none (Tm 104)) 103 false,false),(iG 106 (.mv (Tm 14)) 103 false,false),(iG 107 (.idxS 1 (Tm 105) (Tm 106)) 103 false,false),(iG 108 (.load none (Tm 107)) 103 false,false),(iG 109 (.fieldA 4 (Tm 4)) 103 false,false),(iG 110 (.load none (Tm 109)) 103 false,false),(iG 111 (.mv (Tm 11)) 103 false,false),(iG 112 (.idxS 3 (Tm 110) (Tm 111)) 103 false,false),(iG 113 (.fieldA 1 (Tm 112)) 103 false,false),(iG 114 (.load none (Tm 113)) 103 false,false),(iG 115 (.bin .eql (Tm 108) (Tm 114)) 103 false,false),(iA 116 (.pick (Tm 103) (.const (.bool true)) (Tm 115)),false),(iM 13 116,false)]
def azW:Rg:=[iM 100 14,iC 101 .add 100 1,iM 14 101]
def azB:aD:=(.seq (.seq (.region azU) (.cond (Tm 99) .skip (.exit 6))) (.seq (.block 7 (.draw azV)) (.region azW)))
def azX:Rg:=[iM 117 7,iM 118 117,iG 119 (.mv (Tm 13)) 118 true,iA 120 (.pick (Tm 118) (Tm 119) (.const (.bool false))),iM 7 120]
def azY:Rg:=[iI 15 1]
def azZ:Rg:=[iM 121 15,iC 122 .lss 121 5]
def aAA:Rg:=[iI 16 0]
def aAB:Rg:=[iI 17 0]
def aAC:Rg:=[iM 125 17,iM 126 5,iM 127 8,iX 128 1 126 127,iL 129 128,iN 130 129,iB 131 .lss 125 130]
def aAD:Rd:=[(iM 134 5,false),(iM 135 8,false),(iX 136 1 134 135,false),(iL 137 136,false),(iM 138 17,false),(iX 139 1 137 138,false),(iL 140 139,false),(iC 141 .geq 140 0,false),(iM 142 141,false),(iG 143 (.load (some 7) (Tm 4)) 142 true,false),(iG 144 (.mv (Tm 5)) 142 true,false),(iG 145 (.mv (Tm 8)) 142 true,false),(iG 146 (.idxS 1 (Tm 144) (Tm 145)) 142 true,false),(iG 147 (.load none (Tm 146)) 142 true,false),(iG 148 (.mv (Tm 17)) 142 true,false),(iG 149 (.idxS 1 (Tm 147) (Tm 148)) 142 true,false),(iG 150 (.load none (Tm 149)) 142 true,false),(iG 151 (.mv (Tm 15)) 142 true,false),(iG 152 (.call 147 [(Tm 143),(Tm 150),(Tm 151)]) 142 true,true),(iG 153 (.load (some 7) (Tm 4)) 142 true,true),(iG 154 (.mv (Tm 11)) 142 true,true),(iG 155 (.mv (Tm 15)) 142 true,true),(iG 156 (.call 147 [(Tm 153),(Tm 154),(Tm 155)]) 142 true,true),(iG 157 (.bin .eql (Tm 152) (Tm 156)) 142 true,false),(iA 158 (.pick (Tm 142) (Tm 157) (.const (.bool false))),false)]
def aAE:Rg:=[iM 159 16,iC 160 .add 159 1,iM 16 160]
def aAF:Rg:=[iM 132 17,iC 133 .add 132 1,iM 17 133]
def azC:aD:=(.seq (.seq (.region aAC) (.cond (Tm 131) .skip (.exit 10))) (.seq (.block 11 (.seq (.draw aAD) (.cond (Tm 158) (.region aAE) .skip))) (.region aAF)))
def aAG:Rg:=[iM 161 7,iM 162 161,iG 163 (.mv (Tm 15)) 162 true,iG 164 (.fieldA 4 (Tm 9)) 162 true,iG 165 (.idxA 5 1 (Tm 164) (Tm 163)) 162 true,iG 166 (.load none (Tm 165)) 162 true,iG 167 (.bin .eql (Tm 166) (Ci 0)) 162 true,iG 168 (.mv (Tm 167)) 162 true,iG 169 (.mv (Tm 16)) 168 false,iG 170 (.mv (Tm 15)) 168 false,iG 171 (.fieldA 4 (Tm 9)) 168 false,iG 172 (.idxA 5 1 (Tm 171) (Tm 170)) 168 false,iG 173 (.load none (Tm 172)) 168 false,iG 174 (.bin .leq (Tm 169) (Tm 173)) 168 false,iG 175 (.pick (Tm 168) (.const (.bool true)) (Tm 174)) 162 true,iA 176 (.pick (Tm 162) (Tm 175) (.const (.bool false))),iM 7 176]
def aAH:Rg:=[iM 123 15,iC 124 .add 123 1,iM 15 124]
def azD:aD:=(.seq (.seq (.region azZ) (.cond (Tm 122) .skip (.exit 8))) (.seq (.block 9 (.seq (.region aAA) (.seq (.seq (.region aAB) (.block 10 (.loop azC))) (.region aAG)))) (.region aAH)))
def aAI:Rg:=[iM 61 10,iC 62 .add 61 1,iM 10 62]
def azE:aD:=(.seq (.seq (.region azJ) (.cond (Tm 60) .skip (.exit 2))) (.seq (.block 3 (.seq (.region azK) (.seq (.seq (.region azL) (.cond (Tm 71) (.seq (.region azM) (.exit 3)) .skip)) (.seq (.region azN) (.seq (.seq (.region azO) (.block 4 (.loop azA))) (.seq (.region azS) (.seq (.seq (.region azT) (.block 6 (.loop azB))) (.seq (.region azX) (.seq (.region azY) (.block 8 (.loop azD))))))))))) (.region aAI)))
def aAJ:Rg:=[iM 42 8,iC 43 .add 42 1,iM 8 43]
def azF:aD:=(.seq (.seq (.region aKN) (.cond (Tm 41) .skip (.exit 0))) (.seq (.block 1 (.seq (.draw azH) (.seq (.region azI) (.block 2 (.loop azE))))) (.region aAJ)))
def aAK:Rg:=[iI 18 0]
def aAL:Rg:=[iM 177 18,iM 178 6,iN 179 178,iB 180 .lss 177 179]
def aAM:Rg:=[iM 183 7,iM 184 183,iG 185 (.mv (Tm 6)) 184 true,iG 186 (.mv (Tm 18)) 184 true,iG 187 (.idxS 1 (Tm 185) (Tm 186)) 184 true,iG 188 (.load none (Tm 187)) 184 true,iG 189 (.bin .geq (Tm 188) (Ci 0)) 184 true,iA 190 (.pick (Tm 184) (Tm 189) (.const (.bool false))),iM 7 190]
def aAN:Rg:=[iM 181 18,iC 182 .add 181 1,iM 18 182]
def azG:aD:=(.seq (.seq (.region aAL) (.cond (Tm 180) .skip (.exit 12))) (.seq (.block 13 (.region aAM)) (.region aAN)))
def aAO:Rg:=[iM 191 0,iA 192 (.call 28 [(Tm 191)]),iM 19 192]
def aAP:Rd:=[(iA 193 (.load (some 7) (Tm 4)),true),(iM 194 5,true),(iM 195 19,false),(iA 196 (.call 18 [(Tm 195)]),true),(iA 197 (.call 150 [(Tm 193),(Tm 194),(Tm 196)]),true),(iM 198 7,true),(iA 199 (.eqb false (Tm 197) (Tm 198)),false),(iM 200 199,false),(iG 201 (.call 20 []) 200 true,true),(iA 202 (.pick (Tm 200) (Tm 201) (.const (.bool false))),false),(iM 2 202,false)]
def apJ:aD:=(.seq (.region aKE) (.seq (.region aKF) (.seq (.region aKG) (.seq (.region aKH) (.seq (.draw aKI) (.seq (.seq (.region aKJ) (.cond (Tm 37) (.seq (.region aKK) .ret) .skip)) (.seq (.region aKL) (.seq (.seq (.region aKM) (.block 0 (.loop azF))) (.seq (.seq (.region aAK) (.block 12 (.loop azG))) (.seq (.region aAO) (.seq (.draw aAP) .ret)))))))))))
def aKO:List Nat:=[]
def aEG:bG:=⟨1,203,apJ,[.tmp 2]⟩
def adE:Rg:=[iA 8 (.mv (.const (.bool false)))]
def adF:Rg:=[iM 21 0,iA 22 (.call 28 [(Tm 21)]),iM 9 22]
def adG:Rg:=[iM 23 9,iA 24 (.call 0 [(Tm 23),(Ci 8),(Ci 4)]),iA 10 (.alloc [(.int .i64 0),.nils,.nils,.nils,.nils,.nils,.nils]),iS 7 10 24]
def adH:Rg:=[iM 25 9,iA 26 (.load (some 7) (Tm 10)),iA 27 (.call 3 [(Tm 25),(Tm 26)]),iM 11 27]
def wA:Rg:=[iM 28 11,iN 29 28,iC 30 .eql 29 0,iM 31 30,iG 32 (.fieldA 4 (Tm 10)) 31 false,iG 33 (.load none (Tm 32)) 31 false,iG 34 (.len (Tm 33)) 31 false,iG 35 (.bin .eql (Tm 34) (Ci 0)) 31 false,iA 36 (.pick (Tm 31) (.const (.bool true)) (Tm 35))]
def HO:Rg:=[iA 37 (.call 20 []),iM 8 37]
def adI:Rg:=[iM 38 1,iA 39 (.conv .i64 (Tm 38)),iM 40 11,iN 41 40,iB 42 .rem 39 41,iM 12 42]
def adJ:Rd:=[(iM 43 2,false),(iA 44 (.conv .i64 (Tm 43)),false),(iM 45 11,false),(iM 46 12,false),(iX 47 1 45 46,false),(iL 48 47,false),(iN 49 48,false),(iB 50 .rem 44 49,false),(iM 51 3,false),(iA 52 (.conv .i64 (Tm 51)),false),(iF 53 4 10,false),(iL 54 53,false),(iN 55 54,false),(iB 56 .rem 52 55,false),(iM 13 50,false),(iM 14 56,false)]
def adK:Rg:=[iA 57 (.load (some 7) (Tm 10)),iM 58 11,iA 59 (.call 154 [(Tm 57),(Tm 58),(.const .nils)]),iM 15 59]
def adL:Rg:=[iA 60 (.bslice false 1 0 [.nils] []),iM 61 11,iA 62 (.append 1 24 (Tm 60) (Tm 61)),iM 16 62]
def UL:Rg:=[iM 63 16,iM 64 12,iA 65 (.bslice false 1 0 [(.int .i64 0)] []),iM 66 11,iM 67 12,iX 68 1 66 67,iL 69 68,iA 70 (.append 1 8 (Tm 65) (Tm 69)),iX 71 1 63 64,iS 1 71 70]
def UM:Rg:=[iM 72 16,iM 73 12,iX 74 1 72 73,iL 75 74,iM 76 13,iM 77 14,iX 78 1 75 76,iS 1 78 77]
def UN:Rg:=[iA 79 (.load (some 7) (Tm 10)),iM 80 16,iA 81 (.call 154 [(Tm 79),(Tm 80),(.const .nils)]),iM 17 81]
def UO:Rg:=[iI 18 0]
def UP:Rg:=[iM 82 18,iM 83 17,iN 84 83,iB 85 .lss 82 84]
def UQ:Rg:=[iA 19 (.mv (.const (.bool false)))]
def UR:Rg:=[iI 20 0]
def US:Rg:=[iM 88 20,iM 89 15,iN 90 89,iB 91 .lss 88 90]
def CD:Rd:=[(iM 94 19,false),(iM 95 94,false),(iG 96 (.mv (Tm 15)) 95 false,false),(iG 97 (.mv (Tm 20)) 95 false,false),(iG 98 (.idxS 3 (Tm 96) (Tm 97)) 95 false,false),(iG 99 (.load (some 3) (Tm 98)) 95 false,false),(iG 100 (.mv (Tm 17)) 95 false,false),(iG 101 (.mv (Tm 18)) 95 false,false),(iG 102 (.idxS 3 (Tm 100) (Tm 101)) 95 false,false),(iG 103 (.load (some 3) (Tm 102)) 95 false,false),(iG 104 (.eqs false [.int,.int,.int] (Tm 99) (Tm 103)) 95 false,false),(iA 105 (.pick (Tm 95) (.const (.bool true)) (Tm 104)),false),(iM 19 105,false)]
def CE:Rg:=[iM 92 20,iC 93 .add 92 1,iM 20 93]
def CB:aD:=(.seq (.seq (.region US) (.cond (Tm 91) .skip (.exit 2))) (.seq (.block 3 (.draw CD)) (.region CE)))
def sT:Rg:=[iM 106 19,iA 107 (.un .not (Tm 106)),iM 108 107,iG 109 (.mv (Tm 17)) 108 true,iG 110 (.mv (Tm 18)) 108 true,iG 111 (.idxS 3 (Tm 109) (Tm 110)) 108 true,iG 112 (.fieldA 1 (Tm 111)) 108 true,iG 113 (.load none (Tm 112)) 108 true,iG 114 (.mv (Tm 12)) 108 true,iG 115 (.bin .neq (Tm 113) (Tm 114)) 108 true,iA 116 (.pick (Tm 108) (Tm 115) (.const (.bool false))),iM 117 116,iG 118 (.mv (Tm 17)) 117 true,iG 119 (.mv (Tm 18)) 117 true,iG 120 (.idxS 3 (Tm 118) (Tm 119)) 117 true,iG 121 (.fieldA 0 (Tm 120)) 117 true,iG 122 (.load none (Tm 121)) 117 true,iG 123 (.bin .neq (Tm 122) (Ci 6)) 117 true,iG 124 (.mv (Tm 123)) 117 true,iG 125 (.mv (Tm 17)) 124 false,iG 126 (.mv (Tm 18)) 124 false,iG 127 (.idxS 3 (Tm 125) (Tm 126)) 124 false,iG 128 (.fieldA 2 (Tm 127)) 124 false,iG 129 (.load none (Tm 128)) 124 false,iG 130 (.mv (Tm 14)) 124 false,iG 131 (.bin .neq (Tm 129) (Tm 130)) 124 false,iG 132 (.pick (Tm 124) (.const (.bool true)) (Tm 131)) 117 true,iA 133 (.pick (Tm 117) (Tm 132) (.const (.bool false)))]
def aKR:Rg:=[iA 8 (.mv (.const (.bool false)))]
def sU:Rg:=[iM 86 18,iC 87 .add 86 1,iM 18 87]
def CC:aD:=(.seq (.seq (.region UP) (.cond (Tm 85) .skip (.exit 0))) (.seq (.block 1 (.seq (.region UQ) (.seq (.seq (.region UR) (.block 2 (.loop CB))) (.seq (.region sT) (.cond (Tm 133) (.seq (.region aKR) .ret) .skip))))) (.region sU)))
def CF:Rg:=[iA 134 (.call 20 []),iM 8 134]
def xI:aD:=(.seq (.region adE) (.seq (.region adF) (.seq (.region adG) (.seq (.region adH) (.seq (.seq (.region wA) (.cond (Tm 36) (.seq (.region HO) .ret) .skip)) (.seq (.region adI) (.seq (.draw adJ) (.seq (.region adK) (.seq (.region adL) (.seq (.region UL) (.seq (.region UM) (.seq (.region UN) (.seq (.seq (.region UO) (.block 0 (.loop CC))) (.seq (.region CF) .ret))))))))))))))
def aOO:List Nat:=[]
def HN:bG:=⟨4,135,xI,[.tmp 8]⟩
end Go.PM
namespace Go.PM
open Go
def axW:Rg:=[iA 2 (.mv (.const .nils))]
def axX:Rg:=[iM 4 0,iN 5 4,iM 3 5]
def axY:Rg:=[iM 6 3,iC 7 .gtr 6 0,iM 8 7,iG 9 (.mv (Tm 0)) 8 true,iG 10 (.mv (Tm 3)) 8 true,iG 11 (.bin .sub (Tm 10) (Ci 1)) 8 true,iG 12 (.idxS 1 (Tm 9) (Tm 11)) 8 true,iG 13 (.load none (Tm 12)) 8 true,iG 14 (.bin .eql (Tm 13) (.const (.int .u32 0))) 8 true,iA 15 (.pick (Tm 8) (Tm 14) (.const (.bool false)))]
def axZ:Rg:=[iM 16 3,iC 17 .sub 16 1,iM 3 17]
def axV:aD:=(.seq (.seq (.region axY) (.cond (Tm 15) .skip (.exit 0))) (.block 1 (.region axZ)))
def SN:Rg:=[iM 18 0,iM 19 3,iA 20 (.slice 1 (Tm 18) none (some (Tm 19)) none),iA 21 (.append 1 4 (.const .nils) (Tm 20)),iM 2 21]
def EZ:aD:=(.seq (.region axW) (.seq (.region axX) (.seq (.block 0 (.loop axV)) (.seq (.region SN) .ret))))
def aXR:List Nat:=[]
def YX:bG:=⟨1,22,EZ,[.tmp 2]⟩
def axN:Rg:=[iA 2 (.mv (.const .nils))]
def axO:Rg:=[iM 3 0,iA 4 (.conv .u32 (Tm 3)),iM 5 0,iA 6 (.bin .shr (Tm 5) (.const (.int .u64 32))),iA 7 (.conv .u32 (Tm 6)),iA 8 (.bslice true 1 2 [(.int .u32 0)] [(0,(Tm 4)),(1,(Tm 7))]),iA 9 (.call 38 [(Tm 8)]),iM 2 9]
def EQ:aD:=(.seq (.region axN) (.seq (.region axO) .ret))
def aXG:List Nat:=[8]
def YN:bG:=⟨1,10,EQ,[.tmp 2]⟩
def aiM:Rg:=[iA 2 (.mv (.const (.bool false)))]
def aiN:Rg:=[iM 3 0,iA 4 (.call 38 [(Tm 3)]),iN 5 4,iC 6 .gtr 5 512,iM 2 6]
def zI:aD:=(.seq (.region aiM) (.seq (.region aiN) .ret))
def aRZ:List Nat:=[]
def KR:bG:=⟨1,7,zI,[.tmp 2]⟩
def aHE:Rg:=[iI 4 0]
def aHF:Rg:=[iM 6 0,iA 7 (.call 38 [(Tm 6)]),iM 8 1,iA 9 (.call 38 [(Tm 8)]),iM 0 7,iM 1 9]
def aHG:Rg:=[iM 10 0,iN 11 10,iM 12 1,iN 13 12,iB 14 .neq 11 13]
def aHH:Rg:=[iM 15 0,iN 16 15,iM 17 1,iN 18 17,iB 19 .lss 16 18]
def aHI:Rg:=[iI 4 (-1)]
def aHJ:Rg:=[iI 4 1]
def aHK:Rg:=[iM 20 0,iN 21 20,iC 22 .sub 21 1,iM 5 22]
def aHL:Rg:=[iM 23 5,iC 24 .geq 23 0]
def aHM:Rd:=[(iM 27 0,false),(iM 28 5,false),(iX 29 1 27 28,false),(iL 30 29,false),(iM 31 1,false),(iM 32 5,false),(iX 33 1 31 32,false),(iL 34 33,false),(iB 35 .lss 30 34,false)]
def aHN:Rg:=[iI 4 (-1)]
def awZ:Rd:=[(iM 36 0,false),(iM 37 5,false),(iX 38 1 36 37,false),(iL 39 38,false),(iM 40 1,false),(iM 41 5,false),(iX 42 1 40 41,false),(iL 43 42,false),(iB 44 .gtr 39 43,false)]
def axA:Rg:=[iI 4 1]
def axB:Rg:=[iM 25 5,iC 26 .sub 25 1,iM 5 26]
def awY:aD:=(.seq (.seq (.region aHL) (.cond (Tm 24) .skip (.exit 0))) (.seq (.block 1 (.seq (.seq (.draw aHM) (.cond (Tm 35) (.seq (.region aHN) .ret) .skip)) (.seq (.draw awZ) (.cond (Tm 44) (.seq (.region axA) .ret) .skip)))) (.region axB)))
def axC:Rg:=[iI 4 0]
def KM:aD:=(.seq (.region aHE) (.seq (.region aHF) (.seq (.seq (.region aHG) (.cond (Tm 14) (.seq (.seq (.region aHH) (.cond (Tm 19) (.seq (.region aHI) .ret) .skip)) (.seq (.region aHJ) .ret)) .skip)) (.seq (.seq (.region aHK) (.block 0 (.loop awY))) (.seq (.region axC) .ret)))))
def a2B:List Nat:=[]
def awX:bG:=⟨2,45,KM,[.tmp 4]⟩
def YF:Rg:=[iA 4 (.mv (.const .nils)),iA 5 (.mv (.const .nils))]
def YG:Rg:=[iM 20 0,iM 21 1,iA 22 (.call 32 [(Tm 20),(Tm 21)]),iC 23 .lss 22 0]
def YH:Rg:=[iM 24 0,iA 25 (.call 38 [(Tm 24)]),iA 4 (.mv (.const .nils)),iM 5 25]
def YI:Rg:=[iM 26 1,iN 27 26,iC 28 .eql 27 1]
def EM:Rg:=[iM 29 0,iN 30 29,iA 31 (.mkslice 1 4 [(.int .u32 0)] (Tm 30) (Tm 30)),iM 6 31]
def EN:Rg:=[iA 7 (.mv (.const (.int .u64 0)))]
def EO:Rg:=[iM 32 0,iN 33 32,iC 34 .sub 33 1,iM 8 34]
def YJ:Rg:=[iM 35 8,iC 36 .geq 35 0]
def YK:Rg:=[iM 39 7,iA 40 (.bin .shl (Tm 39) (.const (.int .u64 32))),iM 41 0,iM 42 8,iX 43 1 41 42,iL 44 43,iA 45 (.conv .u64 (Tm 44)),iB 46 .or 40 45,iM 9 46]
def YL:Rg:=[iM 47 6,iM 48 8,iM 49 9,iM 50 1,iA 51 (.idxS 1 (Tm 50) (Ci 0)),iL 52 51,iA 53 (.conv .u64 (Tm 52)),iB 54 .quo 49 53,iA 55 (.conv .u32 (Tm 54)),iX 56 1 47 48,iS 1 56 55]
def ON:Rg:=[iM 57 9,iM 58 1,iA 59 (.idxS 1 (Tm 58) (Ci 0)),iL 60 59,iA 61 (.conv .u64 (Tm 60)),iB 62 .rem 57 61,iM 7 62]
def OO:Rg:=[iM 37 8,iC 38 .sub 37 1,iM 8 38]
def yW:aD:=(.seq (.seq (.region YJ) (.cond (Tm 36) .skip (.exit 0))) (.seq (.block 1 (.seq (.region YK) (.seq (.region YL) (.region ON)))) (.region OO)))
def yX:Rg:=[iM 63 6,iA 64 (.call 38 [(Tm 63)]),iM 65 7,iA 66 (.call 35 [(Tm 65)]),iM 4 64,iM 5 66]
def OP:Rg:=[iM 67 1,iN 68 67,iA 69 (.bin .mul (Ci 32) (Tm 68)),iM 70 1,iA 71 (.call 31 [(Tm 70)]),iB 72 .sub 69 71,iM 10 72]
def OQ:Rg:=[iM 73 0,iM 74 10,iA 75 (.call 45 [(Tm 73),(Tm 74)]),iA 76 (.bslice true 1 2 [(.int .u32 0)] [(0,(.const (.int .u32 0))),(1,(.const (.int .u32 0)))]),iA 77 (.append 1 4 (Tm 75) (Tm 76)),iM 78 1,iM 79 10,iA 80 (.call 45 [(Tm 78),(Tm 79)]),iM 11 77,iM 12 80]
def yY:Rg:=[iM 81 11,iM 82 0,iM 83 10,iA 84 (.call 45 [(Tm 82),(Tm 83)]),iN 85 84,iC 86 .add 85 1,iA 87 (.slice 1 (Tm 81) none (some (Tm 86)) none),iM 11 87]
def yZ:Rg:=[iM 88 12,iM 89 12,iN 90 89,iC 91 .sub 90 1,iX 92 1 88 91,iL 93 92,iA 94 (.conv .u64 (Tm 93)),iM 13 94]
def zA:Rg:=[iM 95 11,iN 96 95,iM 97 12,iN 98 97,iB 99 .sub 96 98,iA 100 (.mkslice 1 4 [(.int .u32 0)] (Tm 99) (Tm 99)),iM 14 100]
def zB:Rg:=[iM 101 14,iN 102 101,iC 103 .sub 102 1,iM 15 103]
def OR:Rg:=[iM 104 15,iC 105 .geq 104 0]
def OS:Rd:=[(iM 108 11,false),(iM 109 15,false),(iM 110 12,false),(iN 111 110,false),(iB 112 .add 109 111,false),(iX 113 1 108 112,false),(iL 114 113,false),(iA 115 (.conv .u64 (Tm 114)),false),(iA 116 (.bin .shl (Tm 115) (.const (.int .u64 32))),false),(iM 117 11,false),(iM 118 15,false),(iM 119 12,false),(iN 120 119,false),(iB 121 .add 118 120,false),(iC 122 .sub 121 1,false),(iX 123 1 117 122,false),(iL 124 123,false),(iA 125 (.conv .u64 (Tm 124)),false),(iB 126 .or 116 125,false),(iM 16 126,false)]
def OT:Rg:=[iM 127 16,iM 128 13,iB 129 .quo 127 128,iM 17 129]
def OU:Rg:=[iM 130 17,iA 131 (.bin .gtr (Tm 130) (.const (.int .u64 4294967295)))]
def OV:Rg:=[iA 17 (.mv (.const (.int .u64 4294967295)))]
def OW:Rd:=[(iM 132 12,true),(iM 133 17,false),(iA 134 (.call 35 [(Tm 133)]),true),(iA 135 (.call 44 [(Tm 132),(Tm 134)]),true),(iM 136 11,true),(iM 137 15,true),(iM 138 15,true),(iM 139 12,true),(iN 140 139,true),(iB 141 .add 138 140,true),(iC 142 .add 141 1,true),(iA 143 (.slice 1 (Tm 136) (some (Tm 137)) (some (Tm 142)) none),true),(iA 144 (.append 1 4 (.const .nils) (Tm 143)),true),(iA 145 (.call 32 [(Tm 135),(Tm 144)]),true),(iC 146 .gtr 145 0,false)]
def OX:Rg:=[iM 147 17,iA 148 (.bin .sub (Tm 147) (.const (.int .u64 1))),iM 17 148]
def rK:aD:=(.seq (.seq (.draw OW) (.cond (Tm 146) .skip (.exit 4))) (.block 5 (.region OX)))
def zC:Rg:=[iM 149 11,iM 150 15,iM 151 15,iM 152 12,iN 153 152,iB 154 .add 151 153,iC 155 .add 154 1,iA 156 (.slice 1 (Tm 149) (some (Tm 150)) (some (Tm 155)) none),iA 157 (.append 1 4 (.const .nils) (Tm 156)),iM 158 12,iM 159 17,iA 160 (.call 35 [(Tm 159)]),iA 161 (.call 44 [(Tm 158),(Tm 160)]),iA 162 (.call 42 [(Tm 157),(Tm 161)]),iM 18 162]
def zD:Rg:=[iI 19 0]
def OY:Rg:=[iM 163 19,iM 164 12,iN 165 164,iB 166 .leq 163 165]
def OZ:Rg:=[iM 169 11,iM 170 15,iM 171 19,iB 172 .add 170 171,iX 173 1 169 172,⟨none,.store 1 (Tm 173) (.const (.int .u32 0)),none⟩]
def PA:Rg:=[iM 174 19,iM 175 18,iN 176 175,iB 177 .lss 174 176]
def PB:Rg:=[iM 178 11,iM 179 15,iM 180 19,iB 181 .add 179 180,iM 182 18,iM 183 19,iX 184 1 182 183,iL 185 184,iX 186 1 178 181,iS 1 186 185]
def zE:Rg:=[iM 167 19,iC 168 .add 167 1,iM 19 168]
def rL:aD:=(.seq (.seq (.region OY) (.cond (Tm 166) .skip (.exit 6))) (.seq (.block 7 (.seq (.region OZ) (.seq (.region PA) (.cond (Tm 177) (.region PB) .skip)))) (.region zE)))
def zF:Rg:=[iM 187 14,iM 188 15,iM 189 17,iA 190 (.conv .u32 (Tm 189)),iX 191 1 187 188,iS 1 191 190]
def zG:Rg:=[iM 106 15,iC 107 .sub 106 1,iM 15 107]
def rM:aD:=(.seq (.seq (.region OR) (.cond (Tm 105) .skip (.exit 2))) (.seq (.block 3 (.seq (.draw OS) (.seq (.region OT) (.seq (.seq (.region OU) (.cond (Tm 131) (.region OV) .skip)) (.seq (.block 4 (.loop rK)) (.seq (.region zC) (.seq (.seq (.region zD) (.block 6 (.loop rL))) (.region zF)))))))) (.region zG)))
def zH:Rg:=[iM 192 14,iA 193 (.call 38 [(Tm 192)]),iM 194 11,iA 195 (.call 38 [(Tm 194)]),iM 196 10,iA 197 (.call 40 [(Tm 195),(Tm 196)]),iM 4 193,iM 5 197]
def vG:aD:=(.seq (.region YF) (.seq (.seq (.region YG) (.cond (Tm 23) (.seq (.region YH) .ret) .skip)) (.seq (.seq (.region YI) (.cond (Tm 28) (.seq (.region EM) (.seq (.region EN) (.seq (.seq (.region EO) (.block 0 (.loop yW))) (.seq (.region yX) .ret)))) .skip)) (.seq (.region OP) (.seq (.region OQ) (.seq (.region yY) (.seq (.region yZ) (.seq (.region zA) (.seq (.seq (.region zB) (.block 2 (.loop rM))) (.seq (.region zH) .ret))))))))))
def aMM:List Nat:=[76]
def AN:bG:=⟨2,198,vG,[.tmp 4,.tmp 5]⟩
def aHO:Rg:=[iA 4 (.mv (.const .nils)),iA 5 (.mv (.const .nils)),iI 6 0]
def aHP:Rg:=[iM 9 0,iA 10 (.call 41 [(Tm 9)]),iM 11 10,iG 12 (.mv (Tm 1)) 11 false,iG 13 (.call 41 [(Tm 12)]) 11 false,iA 14 (.pick (Tm 11) (.const (.bool true)) (Tm 13))]
def abN:Rg:=[iA 4 (.mv (.const .nils)),iA 5 (.mv (.const .nils)),iI 6 2]
def aHQ:Rg:=[iM 15 1,iA 16 (.call 38 [(Tm 15)]),iN 17 16,iC 18 .eql 17 0]
def aHR:Rg:=[iA 4 (.mv (.const .nils)),iA 5 (.mv (.const .nils)),iI 6 3]
def aHS:Rg:=[iM 20 0,iA 21 (.call 38 [(Tm 20)]),iM 22 1,iA 23 (.call 38 [(Tm 22)]),iA 24 (.call 39 [(Tm 21),(Tm 23)]),iM 19 24,iA 25 (.extract (Tm 19) 0),iA 26 (.extract (Tm 19) 1),iM 7 25,iM 8 26]
def aHT:Rg:=[iM 27 7,iM 28 8,iM 4 27,iM 5 28,iI 6 0]
def KN:aD:=(.seq (.region aHO) (.seq (.seq (.region aHP) (.cond (Tm 14) (.seq (.region abN) .ret) .skip)) (.seq (.seq (.region aHQ) (.cond (Tm 18) (.seq (.region aHR) .ret) .skip)) (.seq (.region aHS) (.seq (.region aHT) .ret)))))
def a2D:List Nat:=[]
def udiv:bG:=⟨2,29,KN,[.tmp 4,.tmp 5,.tmp 6]⟩
def aHV:Rg:=[iA 4 (.mv (.const .nils)),iI 5 0]
def aHW:Rg:=[iM 10 0,iA 11 (.call 41 [(Tm 10)]),iM 12 11,iG 13 (.mv (Tm 1)) 12 false,iG 14 (.call 41 [(Tm 13)]) 12 false,iA 15 (.pick (Tm 12) (.const (.bool true)) (Tm 14))]
def abO:Rg:=[iA 4 (.mv (.const .nils)),iI 5 2]
def aHX:Rg:=[iM 16 0,iA 17 (.call 38 [(Tm 16)]),iM 18 1,iA 19 (.call 38 [(Tm 18)]),iM 6 17,iM 7 19]
def aHY:Rg:=[iM 20 7,iN 21 20,iC 22 .gtr 21 0]
def aHZ:Rg:=[iM 24 6,iM 25 7,iA 26 (.call 39 [(Tm 24),(Tm 25)]),iM 23 26,iA 27 (.extract (Tm 23) 0),iA 28 (.extract (Tm 23) 1),iM 8 27,iM 9 28]
def aIA:Rg:=[iM 29 7,iM 30 9,iM 6 29,iM 7 30]
def aHU:aD:=(.seq (.seq (.region aHY) (.cond (Tm 22) .skip (.exit 0))) (.block 1 (.seq (.region aHZ) (.region aIA))))
def aIB:Rg:=[iM 31 6,iM 4 31,iI 5 0]
def KQ:aD:=(.seq (.region aHV) (.seq (.seq (.region aHW) (.cond (Tm 15) (.seq (.region abO) .ret) .skip)) (.seq (.region aHX) (.seq (.block 0 (.loop aHU)) (.seq (.region aIB) .ret)))))
def a2F:List Nat:=[]
def axM:bG:=⟨2,32,KQ,[.tmp 4,.tmp 5]⟩
def YZ:Rg:=[iA 6 (.alloc [(.bool false),.nils,.nils])]
def ZA:Rg:=[iM 9 1,iA 10 (.call 38 [(Tm 9)]),iM 11 2,iA 12 (.call 38 [(Tm 11)]),iM 1 10,iM 2 12]
def ZB:Rg:=[iM 13 1,iN 14 13,iC 15 .eql 14 0]
def ZC:Rg:=[iA 16 (.bslice true 1 1 [(.int .u32 0)] [(0,(.const (.int .u32 1)))]),iA 17 (.build [(.bool false),.nils,.nils] [(2,1,(Tm 16))]),iS 3 6 17]
def ZD:Rg:=[iM 19 1,iM 20 2,iA 21 (.call 34 [(Tm 19),(Tm 20)]),iM 18 21,iA 22 (.extract (Tm 18) 0),iA 23 (.extract (Tm 18) 1),iM 7 22,iM 8 23]
def ZE:Rg:=[iM 24 7,iN 25 24,iC 26 .gtr 25 1,iM 27 26,iG 28 (.mv (Tm 7)) 27 false,iG 29 (.idxS 1 (Tm 28) (Ci 0)) 27 false,iG 30 (.load none (Tm 29)) 27 false,iG 31 (.bin .gtr (Tm 30) (.const (.int .u32 1))) 27 false,iA 32 (.pick (Tm 27) (.const (.bool true)) (Tm 31))]
def FB:Rg:=[iM 34 1,iM 35 7,iA 36 (.call 33 [(Tm 34),(Tm 35)]),iM 33 36,iA 37 (.extract (Tm 33) 0),iA 38 (.extract (Tm 33) 1),iA 39 (.extract (Tm 33) 2),iM 1 37]
def FC:Rg:=[iM 41 2,iM 42 7,iA 43 (.call 33 [(Tm 41),(Tm 42)]),iM 40 43,iA 44 (.extract (Tm 40) 0),iA 45 (.extract (Tm 40) 1),iA 46 (.extract (Tm 40) 2),iM 2 44]
def tN:Rg:=[iM 47 0,iM 48 1,iM 49 2,iA 50 (.build [(.bool false),.nils,.nils] [(0,1,(Tm 47)),(1,1,(Tm 48)),(2,1,(Tm 49))]),iS 3 6 50]
def vI:aD:=(.seq (.region YZ) (.seq (.region ZA) (.seq (.seq (.region ZB) (.cond (Tm 15) (.seq (.region ZC) .ret) .skip)) (.seq (.seq (.region ZD) (.seq (.region ZE) (.cond (Tm 32) (.seq (.region FB) (.region FC)) .skip))) (.seq (.region tN) .ret)))))
def aMX:List Nat:=[16]
def AP:bG:=⟨3,51,vI,[.cell 6 (some 3)]⟩
def ayI:Rg:=[iA 2 (.mv (.const (.int .u64 0)))]
def ayJ:Rg:=[iM 3 0,iC 4 .lss 3 0]
def ayK:Rg:=[iM 5 0,iC 6 .add 5 1,iA 7 (.un .neg (Tm 6)),iA 8 (.conv .u64 (Tm 7)),iA 9 (.bin .add (Tm 8) (.const (.int .u64 1))),iM 2 9]
def ayL:Rg:=[iM 10 0,iA 11 (.conv .u64 (Tm 10)),iM 2 11]
def FG:aD:=(.seq (.region ayI) (.seq (.seq (.region ayJ) (.cond (Tm 4) (.seq (.region ayK) .ret) .skip)) (.seq (.region ayL) .ret)))
def aXX:List Nat:=[]
def ZF:bG:=⟨1,12,FG,[.tmp 2]⟩
def ayE:Rg:=[iA 4 (.alloc [(.bool false),.nils,.nils]),iI 5 0]
def ayF:Rg:=[iM 6 1,iC 7 .eql 6 0]
def ayG:Rg:=[iA 8 (.build [(.bool false),.nils,.nils] []),iS 3 4 8,iI 5 3]
def ayH:Rg:=[iM 9 0,iC 10 .lss 9 0,iM 11 1,iC 12 .lss 11 0,iA 13 (.eqb true (Tm 10) (Tm 12)),iM 14 0,iA 15 (.call 59 [(Tm 14)]),iA 16 (.call 35 [(Tm 15)]),iM 17 1,iA 18 (.call 59 [(Tm 17)]),iA 19 (.call 35 [(Tm 18)]),iA 20 (.call 58 [(Tm 13),(Tm 16),(Tm 19)]),iS 3 4 20,iI 5 0]
def FD:aD:=(.seq (.region ayE) (.seq (.seq (.region ayF) (.cond (Tm 7) (.seq (.region ayG) .ret) .skip)) (.seq (.region ayH) .ret)))
def aXV:List Nat:=[]
def MS:bG:=⟨2,21,FD,[.cell 4 (some 3),.tmp 5]⟩
def aIF:Rg:=[iA 2 (.alloc [(.bool false),.nils,.nils])]
def aIG:Rg:=[iM 6 0,iA 7 (.call 50 [(Tm 6),(Ci 1)]),iM 5 7,iA 8 (.extract (Tm 5) 0),iA 9 (.extract (Tm 5) 1),iA 3 (.alloc [(.bool false),.nils,.nils]),iS 3 3 8,iM 4 9]
def aIH:Rg:=[iA 10 (.load (some 3) (Tm 3)),iS 3 2 10]
def LF:aD:=(.seq (.region aIF) (.seq (.region aIG) (.seq (.region aIH) .ret)))
def a2Y:List Nat:=[]
def ayB:bG:=⟨1,11,LF,[.cell 2 (some 3)]⟩
end Go.PM
namespace Go.PM
open Go
def DK:Rg:=[iI 2 0]
def DL:Rg:=[iM 4 0,iN 5 4,iM 3 5]
def DM:Rg:=[iM 6 3,iC 7 .gtr 6 0,iM 8 7,iG 9 (.mv (Tm 0)) 8 true,iG 10 (.mv (Tm 3)) 8 true,iG 11 (.bin .sub (Tm 10) (Ci 1)) 8 true,iG 12 (.idxS 1 (Tm 9) (Tm 11)) 8 true,iG 13 (.load none (Tm 12)) 8 true,iG 14 (.bin .eql (Tm 13) (.const (.int .u32 0))) 8 true,iA 15 (.pick (Tm 8) (Tm 14) (.const (.bool false)))]
def DN:Rg:=[iM 16 3,iC 17 .sub 16 1,iM 3 17]
def DJ:aD:=(.seq (.seq (.region DM) (.cond (Tm 15) .skip (.exit 0))) (.block 1 (.region DN)))
def pZ:Rg:=[iM 18 3,iM 2 18]
def mJ:aD:=(.seq (.region DK) (.seq (.region DL) (.seq (.block 0 (.loop DJ)) (.seq (.region pZ) .ret))))
def aLK:List Nat:=[]
def qT:bG:=⟨1,19,mJ,[.tmp 2]⟩
def aeM:Rg:=[iA 2 (.mv (.const (.bool false)))]
def aeN:Rg:=[iM 3 0,iA 4 (.call 138 [(Tm 3)]),iC 5 .gtr 4 512,iM 2 5]
def yH:aD:=(.seq (.region aeM) (.seq (.region aeN) .ret))
def aPK:List Nat:=[]
def IG:bG:=⟨1,6,yH,[.tmp 2]⟩
def aeZ:Rg:=[iA 2 (.mv (.const .nils)),iI 3 0]
def afA:Rg:=[iM 5 0,iA 6 (.call 138 [(Tm 5)]),iM 4 6]
def afB:Rg:=[iM 7 4,iC 8 .gtr 7 512]
def afC:Rg:=[iA 2 (.mv (.const .nils)),iI 3 2]
def afD:Rg:=[iM 9 0,iM 10 4,iM 11 4,iA 12 (.slice 1 (Tm 9) none (some (Tm 10)) (some (Tm 11))),iM 2 12,iI 3 0]
def yJ:aD:=(.seq (.region aeZ) (.seq (.region afA) (.seq (.seq (.region afB) (.cond (Tm 8) (.seq (.region afC) .ret) .skip)) (.seq (.region afD) .ret))))
def aPP:List Nat:=[]
def IL:bG:=⟨1,13,yJ,[.tmp 2,.tmp 3]⟩
def asU:Rg:=[iA 2 (.mv (.const .nils))]
def asV:Rg:=[iM 4 0,iA 5 (.conv .u32 (Tm 4)),iM 6 0,iA 7 (.bin .shr (Tm 6) (.const (.int .u64 32))),iA 8 (.conv .u32 (Tm 7)),iA 9 (.bslice true 1 2 [(.int .u32 0)] [(0,(Tm 5)),(1,(Tm 8))]),iM 3 9]
def asW:Rg:=[iM 10 3,iM 11 3,iA 12 (.call 138 [(Tm 11)]),iA 13 (.slice 1 (Tm 10) none (some (Tm 12)) none),iM 2 13]
def DO:aD:=(.seq (.region asU) (.seq (.region asV) (.seq (.region asW) .ret)))
def aVT:List Nat:=[9]
def WQ:bG:=⟨1,14,DO,[.tmp 2]⟩
def atO:Rg:=[iA 2 (.mv (.const .nils))]
def atQ:Rg:=[iM 3 0,iM 4 0,iA 5 (.call 138 [(Tm 4)]),iA 6 (.slice 1 (Tm 3) none (some (Tm 5)) none),iA 7 (.append 1 4 (.const .nils) (Tm 6)),iM 2 7]
def DP:aD:=(.seq (.region atO) (.seq (.region atQ) .ret))
def aVW:List Nat:=[]
def WT:bG:=⟨1,8,DP,[.tmp 2]⟩
def aFL:Rg:=[iI 4 0]
def aFM:Rg:=[iM 8 0,iA 9 (.call 138 [(Tm 8)]),iM 10 1,iA 11 (.call 138 [(Tm 10)]),iM 5 9,iM 6 11]
def aFN:Rg:=[iM 13 5,iM 14 6,iB 15 .lss 13 14,iM 12 15]
def aFO:Rg:=[iI 4 (-1)]
def aFP:Rg:=[iM 17 5,iM 18 6,iB 19 .gtr 17 18,iM 16 19]
def aFQ:Rg:=[iI 4 1]
def aFR:Rg:=[iM 20 5,iC 21 .sub 20 1,iM 7 21]
def aFS:Rg:=[iM 22 7,iC 23 .geq 22 0]
def aFT:Rd:=[(iM 27 0,false),(iM 28 7,false),(iX 29 1 27 28,false),(iL 30 29,false),(iM 31 1,false),(iM 32 7,false),(iX 33 1 31 32,false),(iL 34 33,false),(iB 35 .lss 30 34,false),(iM 26 35,false)]
def aFU:Rg:=[iI 4 (-1)]
def asL:Rd:=[(iM 37 0,false),(iM 38 7,false),(iX 39 1 37 38,false),(iL 40 39,false),(iM 41 1,false),(iM 42 7,false),(iX 43 1 41 42,false),(iL 44 43,false),(iB 45 .gtr 40 44,false),(iM 36 45,false)]
def asM:Rg:=[iI 4 1]
def asN:Rg:=[iM 24 7,iC 25 .sub 24 1,iM 7 25]
def asK:aD:=(.seq (.seq (.region aFS) (.cond (Tm 23) .skip (.exit 1))) (.seq (.block 2 (.block 3 (.seq (.draw aFT) (.cond (Tm 26) (.seq (.region aFU) .ret) (.seq (.draw asL) (.cond (Tm 36) (.seq (.region asM) .ret) .skip)))))) (.region asN)))
def asO:Rg:=[iI 4 0]
def IB:aD:=(.seq (.region aFL) (.seq (.region aFM) (.seq (.block 0 (.seq (.region aFN) (.cond (Tm 12) (.seq (.region aFO) .ret) (.seq (.region aFP) (.cond (Tm 16) (.seq (.region aFQ) .ret) .skip))))) (.seq (.seq (.region aFR) (.block 1 (.loop asK))) (.seq (.region asO) .ret)))))
def a0X:List Nat:=[]
def asJ:bG:=⟨2,46,IB,[.tmp 4]⟩
def aFF:Rg:=[iA 4 (.mv (.const .nils)),iI 5 0]
def aFG:Rg:=[iM 9 0,iA 10 (.call 137 [(Tm 9)]),iM 11 10,iG 12 (.mv (Tm 1)) 11 false,iG 13 (.call 137 [(Tm 12)]) 11 false,iA 14 (.pick (Tm 11) (.const (.bool true)) (Tm 13))]
def aaK:Rg:=[iA 4 (.mv (.const .nils)),iI 5 2]
def aFH:Rd:=[(iM 15 0,true),(iM 16 0,false),(iA 17 (.call 138 [(Tm 16)]),true),(iA 18 (.slice 1 (Tm 15) none (some (Tm 17)) none),true),(iM 19 1,true),(iM 20 1,true),(iA 21 (.call 138 [(Tm 20)]),true),(iA 22 (.slice 1 (Tm 19) none (some (Tm 21)) none),false),(iM 0 18,false),(iM 1 22,false)]
def aFI:Rg:=[iM 23 0,iN 24 23,iM 25 1,iN 26 25,iB 27 .lss 24 26]
def aFJ:Rg:=[iM 28 1,iM 29 0,iM 0 28,iM 1 29]
def aaL:Rg:=[iM 30 0,iN 31 30,iC 32 .add 31 1,iA 33 (.mkslice 1 4 [(.int .u32 0)] (Tm 32) (Tm 32)),iM 6 33]
def aaM:Rg:=[iA 7 (.mv (.const (.int .u64 0)))]
def aaN:Rg:=[iM 34 0,iN 35 34,iI 36 0]
def aFK:Rg:=[iB 37 .lss 36 35]
def arU:Rg:=[iM 38 36,iM 8 38]
def arV:Rg:=[iM 39 7,iM 40 0,iM 41 8,iX 42 1 40 41,iL 43 42,iA 44 (.conv .u64 (Tm 43)),iB 45 .add 39 44,iM 7 45]
def arW:Rg:=[iM 46 8,iM 47 1,iN 48 47,iB 49 .lss 46 48]
def arX:Rg:=[iM 50 7,iM 51 1,iM 52 8,iX 53 1 51 52,iL 54 53,iA 55 (.conv .u64 (Tm 54)),iB 56 .add 50 55,iM 7 56]
def RI:Rg:=[iM 57 6,iM 58 8,iM 59 7,iA 60 (.conv .u32 (Tm 59)),iX 61 1 57 58,iS 1 61 60]
def RJ:Rg:=[iM 62 7,iA 63 (.bin .shr (Tm 62) (.const (.int .u64 32))),iM 7 63]
def RK:Rg:=[iC 64 .add 36 1,iM 36 64]
def RH:aD:=(.seq (.region aFK) (.seq (.cond (Tm 37) .skip (.exit 0)) (.seq (.block 1 (.seq (.region arU) (.seq (.region arV) (.seq (.seq (.region arW) (.cond (Tm 49) (.region arX) .skip)) (.seq (.region RI) (.region RJ)))))) (.region RK))))
def RL:Rg:=[iM 65 6,iM 66 0,iN 67 66,iM 68 7,iA 69 (.conv .u32 (Tm 68)),iX 70 1 65 67,iS 1 70 69]
def RM:Rg:=[iM 71 6,iA 72 (.call 141 [(Tm 71)]),iA 73 (.extract (Tm 72) 0),iA 74 (.extract (Tm 72) 1),iM 4 73,iM 5 74]
def IA:aD:=(.seq (.region aFF) (.seq (.seq (.region aFG) (.cond (Tm 14) (.seq (.region aaK) .ret) .skip)) (.seq (.draw aFH) (.seq (.seq (.region aFI) (.cond (Tm 27) (.region aFJ) .skip)) (.seq (.region aaL) (.seq (.region aaM) (.seq (.seq (.region aaN) (.block 0 (.loop RH))) (.seq (.region RL) (.seq (.region RM) .ret)))))))))
def a0U:List Nat:=[]
def arT:bG:=⟨2,75,IA,[.tmp 4,.tmp 5]⟩
def aGN:Rg:=[iA 4 (.mv (.const .nils)),iI 5 0]
def aGO:Rg:=[iM 11 0,iA 12 (.call 137 [(Tm 11)]),iM 13 12,iG 14 (.mv (Tm 1)) 13 false,iG 15 (.call 137 [(Tm 14)]) 13 false,iA 16 (.pick (Tm 13) (.const (.bool true)) (Tm 15)),iM 10 16]
def aaY:Rg:=[iA 4 (.mv (.const .nils)),iI 5 2]
def aGP:Rg:=[iM 18 0,iM 19 1,iA 20 (.call 129 [(Tm 18),(Tm 19)]),iC 21 .lss 20 0,iM 17 21]
def aGQ:Rg:=[iA 4 (.mv (.const .nils)),iI 5 4]
def aGR:Rd:=[(iM 22 0,true),(iM 23 0,false),(iA 24 (.call 138 [(Tm 23)]),true),(iA 25 (.slice 1 (Tm 22) none (some (Tm 24)) none),true),(iM 26 1,true),(iM 27 1,true),(iA 28 (.call 138 [(Tm 27)]),true),(iA 29 (.slice 1 (Tm 26) none (some (Tm 28)) none),false),(iM 0 25,false),(iM 1 29,false)]
def aaZ:Rg:=[iM 30 0,iN 31 30,iA 32 (.mkslice 1 4 [(.int .u32 0)] (Tm 31) (Tm 31)),iM 6 32]
def abA:Rg:=[iA 7 (.mv (.const (.int .u64 0)))]
def abB:Rg:=[iM 33 0,iN 34 33,iI 35 0]
def aGS:Rg:=[iB 36 .lss 35 34]
def atH:Rg:=[iM 37 35,iM 8 37]
def atI:Rg:=[iM 38 0,iM 39 8,iX 40 1 38 39,iL 41 40,iA 42 (.conv .u64 (Tm 41)),iM 43 7,iB 44 .sub 42 43,iM 9 44]
def atJ:Rg:=[iM 45 8,iM 46 1,iN 47 46,iB 48 .lss 45 47]
def atK:Rg:=[iM 49 9,iM 50 1,iM 51 8,iX 52 1 50 51,iL 53 52,iA 54 (.conv .u64 (Tm 53)),iB 55 .sub 49 54,iM 9 55]
def RS:Rg:=[iM 56 6,iM 57 8,iM 58 9,iA 59 (.conv .u32 (Tm 58)),iX 60 1 56 57,iS 1 60 59]
def RT:Rg:=[iM 61 9,iA 62 (.bin .shr (Tm 61) (.const (.int .u64 63))),iM 7 62]
def RU:Rg:=[iC 63 .add 35 1,iM 35 63]
def RR:aD:=(.seq (.region aGS) (.seq (.cond (Tm 36) .skip (.exit 1)) (.seq (.block 2 (.seq (.region atH) (.seq (.region atI) (.seq (.seq (.region atJ) (.cond (Tm 48) (.region atK) .skip)) (.seq (.region RS) (.region RT)))))) (.region RU))))
def RV:Rg:=[iM 64 6,iA 65 (.call 141 [(Tm 64)]),iA 66 (.extract (Tm 65) 0),iA 67 (.extract (Tm 65) 1),iM 4 66,iM 5 67]
def IM:aD:=(.seq (.region aGN) (.seq (.block 0 (.seq (.region aGO) (.cond (Tm 10) (.seq (.region aaY) .ret) (.seq (.region aGP) (.cond (Tm 17) (.seq (.region aGQ) .ret) .skip))))) (.seq (.draw aGR) (.seq (.region aaZ) (.seq (.region abA) (.seq (.seq (.region abB) (.block 1 (.loop RR))) (.seq (.region RV) .ret)))))))
def a1G:List Nat:=[]
def atG:bG:=⟨2,68,IM,[.tmp 4,.tmp 5]⟩
def aGJ:Rg:=[iA 4 (.mv (.const .nils)),iI 5 0]
def aGK:Rg:=[iM 12 0,iA 13 (.call 137 [(Tm 12)]),iM 14 13,iG 15 (.mv (Tm 1)) 14 false,iG 16 (.call 137 [(Tm 15)]) 14 false,iA 17 (.pick (Tm 14) (.const (.bool true)) (Tm 16))]
def aaR:Rg:=[iA 4 (.mv (.const .nils)),iI 5 2]
def aGL:Rd:=[(iM 18 0,true),(iM 19 0,false),(iA 20 (.call 138 [(Tm 19)]),true),(iA 21 (.slice 1 (Tm 18) none (some (Tm 20)) none),true),(iM 22 1,true),(iM 23 1,true),(iA 24 (.call 138 [(Tm 23)]),true),(iA 25 (.slice 1 (Tm 22) none (some (Tm 24)) none),false),(iM 0 21,false),(iM 1 25,false)]
def aaS:Rg:=[iM 26 0,iN 27 26,iM 28 1,iN 29 28,iB 30 .add 27 29,iA 31 (.mkslice 1 4 [(.int .u32 0)] (Tm 30) (Tm 30)),iM 6 31]
def aaT:Rg:=[iM 32 0,iN 33 32,iI 34 0]
def aGM:Rg:=[iB 35 .lss 34 33]
def aaU:Rg:=[iM 36 34,iX 37 1 32 34,iL 38 37,iM 7 36,iM 8 38]
def aaV:Rg:=[iA 9 (.mv (.const (.int .u64 0)))]
def aaW:Rg:=[iM 39 1,iN 40 39,iI 41 0]
def asY:Rg:=[iB 42 .lss 41 40]
def asZ:Rg:=[iM 43 41,iX 44 1 39 41,iL 45 44,iM 10 43,iM 11 45]
def atA:Rg:=[iM 46 9,iM 47 8,iA 48 (.conv .u64 (Tm 47)),iM 49 11,iA 50 (.conv .u64 (Tm 49)),iB 51 .mul 48 50,iM 52 6,iM 53 7,iM 54 10,iB 55 .add 53 54,iX 56 1 52 55,iL 57 56,iA 58 (.conv .u64 (Tm 57)),iB 59 .add 51 58,iB 60 .add 46 59,iM 9 60]
def atB:Rg:=[iM 61 6,iM 62 7,iM 63 10,iB 64 .add 62 63,iM 65 9,iA 66 (.conv .u32 (Tm 65)),iX 67 1 61 64,iS 1 67 66]
def atC:Rg:=[iM 68 9,iA 69 (.bin .shr (Tm 68) (.const (.int .u64 32))),iM 9 69]
def atD:Rg:=[iC 70 .add 41 1,iM 41 70]
def RN:aD:=(.seq (.region asY) (.seq (.cond (Tm 42) .skip (.exit 2)) (.seq (.block 3 (.seq (.region asZ) (.seq (.region atA) (.seq (.region atB) (.region atC))))) (.region atD))))
def RP:Rg:=[iM 71 6,iM 72 7,iM 73 1,iN 74 73,iB 75 .add 72 74,iM 76 9,iA 77 (.conv .u32 (Tm 76)),iX 78 1 71 75,iS 1 78 77]
def atE:Rg:=[iC 79 .add 34 1,iM 34 79]
def RO:aD:=(.seq (.region aGM) (.seq (.cond (Tm 35) .skip (.exit 0)) (.seq (.block 1 (.seq (.region aaU) (.seq (.region aaV) (.seq (.seq (.region aaW) (.block 2 (.loop RN))) (.region RP))))) (.region atE))))
def RQ:Rg:=[iM 80 6,iA 81 (.call 141 [(Tm 80)]),iA 82 (.extract (Tm 81) 0),iA 83 (.extract (Tm 81) 1),iM 4 82,iM 5 83]
def IH:aD:=(.seq (.region aGJ) (.seq (.seq (.region aGK) (.cond (Tm 17) (.seq (.region aaR) .ret) .skip)) (.seq (.draw aGL) (.seq (.region aaS) (.seq (.seq (.region aaT) (.block 0 (.loop RO))) (.seq (.region RQ) .ret))))))
def a1E:List Nat:=[]
def asX:bG:=⟨2,84,IH,[.tmp 4,.tmp 5]⟩
def asA:Rg:=[iI 2 0]
def asB:Rg:=[iM 6 0,iA 7 (.call 138 [(Tm 6)]),iM 3 7]
def asC:Rg:=[iM 8 3,iC 9 .eql 8 0]
def asD:Rg:=[iI 2 0]
def asE:Rg:=[iM 10 3,iC 11 .sub 10 1,iC 12 .mul 11 32,iM 4 12]
def asF:Rg:=[iM 13 0,iM 14 3,iC 15 .sub 14 1,iX 16 1 13 15,iL 17 16,iM 5 17]
def asG:Rg:=[iM 18 5,iA 19 (.bin .gtr (Tm 18) (.const (.int .u32 0)))]
def asH:Rg:=[iM 22 4,iC 23 .add 22 1,iM 4 23]
def asI:Rg:=[iM 20 5,iA 21 (.bin .shr (Tm 20) (.const (.int .u64 1))),iM 5 21]
def arZ:aD:=(.seq (.seq (.region asG) (.cond (Tm 19) .skip (.exit 0))) (.seq (.block 1 (.region asH)) (.region asI)))
def aeL:Rg:=[iM 24 4,iM 2 24]
def DH:aD:=(.seq (.region asA) (.seq (.region asB) (.seq (.seq (.region asC) (.cond (Tm 9) (.seq (.region asD) .ret) .skip)) (.seq (.region asE) (.seq (.seq (.region asF) (.block 0 (.loop arZ))) (.seq (.region aeL) .ret))))))
def aVR:List Nat:=[]
def WF:bG:=⟨1,25,DH,[.tmp 2]⟩
def aGC:Rg:=[iA 4 (.mv (.const .nils)),iI 5 0]
def aGD:Rg:=[iM 8 0,iA 9 (.call 137 [(Tm 8)]),iM 10 9,iG 11 (.mv (Tm 1)) 10 false,iG 12 (.call 137 [(Tm 11)]) 10 false,iA 13 (.pick (Tm 10) (.const (.bool true)) (Tm 12))]
def aaQ:Rg:=[iA 4 (.mv (.const .nils)),iI 5 2]
def aGE:Rg:=[iM 14 0,iA 15 (.call 135 [(Tm 14)]),iM 16 1,iA 17 (.call 135 [(Tm 16)]),iM 0 15,iM 1 17]
def aGF:Rg:=[iM 18 1,iN 19 18,iC 20 .gtr 19 0]
def aGG:Rg:=[iM 22 0,iM 23 1,iA 24 (.call 136 [(Tm 22),(Tm 23)]),iM 21 24,iA 25 (.extract (Tm 21) 0),iA 26 (.extract (Tm 21) 1),iM 6 25,iM 7 26]
def aGH:Rg:=[iM 27 1,iM 28 7,iM 0 27,iM 1 28]
def aGB:aD:=(.seq (.seq (.region aGF) (.cond (Tm 20) .skip (.exit 0))) (.block 1 (.seq (.region aGG) (.region aGH))))
def aGI:Rg:=[iM 29 0,iM 4 29,iI 5 0]
def IF:aD:=(.seq (.region aGC) (.seq (.seq (.region aGD) (.cond (Tm 13) (.seq (.region aaQ) .ret) .skip)) (.seq (.region aGE) (.seq (.block 0 (.loop aGB)) (.seq (.region aGI) .ret)))))
def a1C:List Nat:=[]
def asT:bG:=⟨2,30,IF,[.tmp 4,.tmp 5]⟩
def aFV:Rg:=[iA 4 (.mv (.const .nils)),iA 5 (.mv (.const .nils)),iI 6 0]
def aFW:Rg:=[iM 10 0,iA 11 (.call 137 [(Tm 10)]),iM 12 11,iG 13 (.mv (Tm 1)) 12 false,iG 14 (.call 137 [(Tm 13)]) 12 false,iA 15 (.pick (Tm 12) (.const (.bool true)) (Tm 14)),iM 9 15]
def aaP:Rg:=[iA 4 (.mv (.const .nils)),iA 5 (.mv (.const .nils)),iI 6 2]
def aFX:Rg:=[iM 17 1,iA 18 (.call 138 [(Tm 17)]),iC 19 .eql 18 0,iM 16 19]
def aFY:Rg:=[iA 4 (.mv (.const .nils)),iA 5 (.mv (.const .nils)),iI 6 3]
def aFZ:Rd:=[(iM 21 0,true),(iM 22 0,false),(iA 23 (.call 138 [(Tm 22)]),true),(iA 24 (.slice 1 (Tm 21) none (some (Tm 23)) none),true),(iM 25 1,true),(iM 26 1,true),(iA 27 (.call 138 [(Tm 26)]),true),(iA 28 (.slice 1 (Tm 25) none (some (Tm 27)) none),false),(iA 29 (.call 136 [(Tm 24),(Tm 28)]),true),(iM 20 29,false),(iA 30 (.extract (Tm 20) 0),false),(iA 31 (.extract (Tm 20) 1),false),(iM 7 30,false),(iM 8 31,false)]
def aGA:Rg:=[iM 32 7,iM 33 8,iM 4 32,iM 5 33,iI 6 0]
def ID:aD:=(.seq (.region aFV) (.seq (.block 0 (.seq (.region aFW) (.cond (Tm 9) (.seq (.region aaP) .ret) (.seq (.region aFX) (.cond (Tm 16) (.seq (.region aFY) .ret) .skip))))) (.seq (.draw aFZ) (.seq (.region aGA) .ret))))
def a0Z:List Nat:=[]
def asP:bG:=⟨2,34,ID,[.tmp 4,.tmp 5,.tmp 6]⟩
def aeQ:Rg:=[iA 4 (.mv (.const .nils)),iA 5 (.mv (.const (.int .u32 0)))]
def aeR:Rg:=[iM 9 0,iN 10 9,iA 11 (.mkslice 1 4 [(.int .u32 0)] (Tm 10) (Tm 10)),iM 6 11]
def aeS:Rg:=[iA 7 (.mv (.const (.int .u64 0)))]
def aeT:Rg:=[iM 12 0,iN 13 12,iC 14 .sub 13 1,iM 8 14]
def aeU:Rg:=[iM 15 8,iC 16 .geq 15 0]
def aeV:Rg:=[iM 19 7,iA 20 (.bin .shl (Tm 19) (.const (.int .u64 32))),iM 21 0,iM 22 8,iX 23 1 21 22,iL 24 23,iA 25 (.conv .u64 (Tm 24)),iB 26 .or 20 25,iM 7 26]
def aeW:Rg:=[iM 27 6,iM 28 8,iM 29 7,iM 30 1,iA 31 (.conv .u64 (Tm 30)),iB 32 .quo 29 31,iA 33 (.conv .u32 (Tm 32)),iX 34 1 27 28,iS 1 34 33]
def aeX:Rg:=[iM 35 7,iM 36 1,iA 37 (.conv .u64 (Tm 36)),iB 38 .rem 35 37,iM 7 38]
def aeY:Rg:=[iM 17 8,iC 18 .sub 17 1,iM 8 18]
def aeP:aD:=(.seq (.seq (.region aeU) (.cond (Tm 16) .skip (.exit 0))) (.seq (.block 1 (.seq (.region aeV) (.seq (.region aeW) (.region aeX)))) (.region aeY)))
def WR:Rg:=[iM 39 6,iM 40 6,iA 41 (.call 138 [(Tm 40)]),iA 42 (.slice 1 (Tm 39) none (some (Tm 41)) none),iM 43 7,iA 44 (.conv .u32 (Tm 43)),iM 4 42,iM 5 44]
def yI:aD:=(.seq (.region aeQ) (.seq (.region aeR) (.seq (.region aeS) (.seq (.seq (.region aeT) (.block 0 (.loop aeP))) (.seq (.region WR) .ret)))))
def aPN:List Nat:=[]
def IK:bG:=⟨2,45,yI,[.tmp 4,.tmp 5]⟩
def aPR:Rg:=[iA 4 (.mv (.const .nils))]
def aPS:Rg:=[iM 9 0,iN 10 9,iC 11 .add 10 1,iA 12 (.mkslice 1 4 [(.int .u32 0)] (Tm 11) (Tm 11)),iM 5 12]
def aPT:Rg:=[iA 6 (.mv (.const (.int .u64 0)))]
def aPU:Rg:=[iM 13 0,iN 14 13,iI 15 0]
def aPV:Rg:=[iB 16 .lss 15 14]
def aPW:Rg:=[iM 17 15,iX 18 1 13 15,iL 19 18,iM 7 17,iM 8 19]
def aPX:Rg:=[iM 20 6,iM 21 8,iA 22 (.conv .u64 (Tm 21)),iM 23 1,iB 24 .shl 22 23,iB 25 .or 20 24,iM 6 25]
def aPY:Rg:=[iM 26 5,iM 27 7,iM 28 6,iA 29 (.conv .u32 (Tm 28)),iX 30 1 26 27,iS 1 30 29]
def aPZ:Rg:=[iM 31 6,iA 32 (.bin .shr (Tm 31) (.const (.int .u64 32))),iM 6 32]
def aQA:Rg:=[iC 33 .add 15 1,iM 15 33]
def aGT:aD:=(.seq (.region aPV) (.seq (.cond (Tm 16) .skip (.exit 0)) (.seq (.block 1 (.seq (.region aPW) (.seq (.region aPX) (.seq (.region aPY) (.region aPZ))))) (.region aQA))))
def aGU:Rg:=[iM 34 5,iM 35 0,iN 36 35,iM 37 6,iA 38 (.conv .u32 (Tm 37)),iX 39 1 34 36,iS 1 39 38]
def aGV:Rg:=[iM 40 5,iM 4 40]
def RX:aD:=(.seq (.region aPR) (.seq (.region aPS) (.seq (.region aPT) (.seq (.seq (.region aPU) (.block 0 (.loop aGT))) (.seq (.region aGU) (.seq (.region aGV) .ret))))))
def a4D:List Nat:=[]
def nup:bG:=⟨2,41,RX,[.tmp 4]⟩
def WH:Rg:=[iA 4 (.mv (.const .nils)),iA 5 (.mv (.const .nils))]
def WI:Rg:=[iM 21 0,iM 22 1,iA 23 (.call 129 [(Tm 21),(Tm 22)]),iC 24 .lss 23 0]
def WJ:Rg:=[iM 25 0,iA 26 (.call 135 [(Tm 25)]),iA 4 (.mv (.const .nils)),iM 5 26]
def WK:Rg:=[iM 27 1,iN 28 27,iC 29 .eql 28 1]
def WL:Rg:=[iM 31 0,iM 32 1,iA 33 (.idxS 1 (Tm 32) (Ci 0)),iL 34 33,iA 35 (.call 140 [(Tm 31),(Tm 34)]),iM 30 35,iA 36 (.extract (Tm 30) 0),iA 37 (.extract (Tm 30) 1),iM 6 36,iM 7 37]
def WM:Rg:=[iM 38 6,iM 39 7,iA 40 (.conv .u64 (Tm 39)),iA 41 (.call 132 [(Tm 40)]),iM 4 38,iM 5 41]
def WN:Rg:=[iA 8 (.mv (.const (.int .u64 0)))]
def WO:Rg:=[iM 42 1,iM 43 1,iN 44 43,iC 45 .sub 44 1,iX 46 1 42 45,iL 47 46,iM 48 8,iB 49 .shl 47 48,iA 50 (.bin .lss (Tm 49) (.const (.int .u32 2147483648)))]
def WP:Rg:=[iM 51 8,iA 52 (.bin .add (Tm 51) (.const (.int .u64 1))),iM 8 52]
def WG:aD:=(.seq (.seq (.region WO) (.cond (Tm 50) .skip (.exit 0))) (.block 1 (.region WP)))
def NK:Rd:=[(iM 53 0,false),(iM 54 8,false),(iA 55 (.call 143 [(Tm 53),(Tm 54)]),true),(iM 56 1,true),(iM 57 8,true),(iA 58 (.call 143 [(Tm 56),(Tm 57)]),true),(iM 59 1,true),(iN 60 59,true),(iA 61 (.slice 1 (Tm 58) none (some (Tm 60)) none),false),(iM 9 55,false),(iM 10 61,false)]
def NL:Rg:=[iM 62 10,iN 63 62,iM 11 63]
def NM:Rg:=[iM 64 9,iN 65 64,iM 66 11,iB 67 .sub 65 66,iA 68 (.mkslice 1 4 [(.int .u32 0)] (Tm 67) (Tm 67)),iM 12 68]
def NN:Rd:=[(iM 69 10,false),(iM 70 11,false),(iC 71 .sub 70 1,false),(iX 72 1 69 71,false),(iL 73 72,false),(iA 74 (.conv .u64 (Tm 73)),false),(iM 75 10,false),(iM 76 11,false),(iC 77 .sub 76 2,false),(iX 78 1 75 77,false),(iL 79 78,false),(iA 80 (.conv .u64 (Tm 79)),false),(iM 13 74,false),(iM 14 80,false)]
def NO:Rg:=[iM 81 12,iN 82 81,iC 83 .sub 82 1,iM 15 83]
def NP:Rg:=[iM 84 15,iC 85 .geq 84 0]
def xX:Rd:=[(iM 88 9,false),(iM 89 15,false),(iM 90 11,false),(iB 91 .add 89 90,false),(iX 92 1 88 91,false),(iL 93 92,false),(iA 94 (.conv .u64 (Tm 93)),false),(iA 95 (.bin .shl (Tm 94) (.const (.int .u64 32))),false),(iM 96 9,false),(iM 97 15,false),(iM 98 11,false),(iB 99 .add 97 98,false),(iC 100 .sub 99 1,false),(iX 101 1 96 100,false),(iL 102 101,false),(iA 103 (.conv .u64 (Tm 102)),false),(iB 104 .or 95 103,false),(iM 16 104,false)]
def xY:Rd:=[(iM 105 16,false),(iM 106 13,false),(iB 107 .quo 105 106,false),(iM 108 16,false),(iM 109 13,false),(iB 110 .rem 108 109,false),(iM 17 107,false),(iM 18 110,false)]
def NQ:Rg:=[iM 111 17,iA 112 (.bin .geq (Tm 111) (.const (.int .u64 4294967296))),iM 113 112,iG 114 (.mv (Tm 17)) 113 false,iG 115 (.mv (Tm 14)) 113 false,iG 116 (.bin .mul (Tm 114) (Tm 115)) 113 false,iG 117 (.mv (Tm 18)) 113 false,iG 118 (.bin .shl (Tm 117) (.const (.int .u64 32))) 113 false,iG 119 (.mv (Tm 9)) 113 false,iG 120 (.mv (Tm 15)) 113 false,iG 121 (.mv (Tm 11)) 113 false,iG 122 (.bin .add (Tm 120) (Tm 121)) 113 false,iG 123 (.bin .sub (Tm 122) (Ci 2)) 113 false,iG 124 (.idxS 1 (Tm 119) (Tm 123)) 113 false,iG 125 (.load none (Tm 124)) 113 false,iG 126 (.conv .u64 (Tm 125)) 113 false,iG 127 (.bin .or (Tm 118) (Tm 126)) 113 false,iG 128 (.bin .gtr (Tm 116) (Tm 127)) 113 false,iA 129 (.pick (Tm 113) (.const (.bool true)) (Tm 128))]
def xZ:Rg:=[iM 130 17,iA 131 (.bin .sub (Tm 130) (.const (.int .u64 1))),iM 17 131]
def yA:Rg:=[iM 132 18,iM 133 13,iB 134 .add 132 133,iM 18 134]
def yB:Rg:=[iM 135 18,iA 136 (.bin .geq (Tm 135) (.const (.int .u64 4294967296)))]
def rG:aD:=(.seq (.seq (.region NQ) (.cond (Tm 129) .skip (.exit 4))) (.block 5 (.seq (.region xZ) (.seq (.region yA) (.seq (.region yB) (.cond (Tm 136) (.exit 4) .skip))))))
def yC:Rg:=[iM 137 9,iM 138 15,iM 139 15,iM 140 11,iB 141 .add 139 140,iC 142 .add 141 1,iA 143 (.slice 1 (Tm 137) (some (Tm 138)) (some (Tm 142)) none),iM 144 10,iM 145 17,iA 146 (.call 142 [(Tm 143),(Tm 144),(Tm 145)])]
def yD:Rg:=[iM 147 17,iA 148 (.bin .sub (Tm 147) (.const (.int .u64 1))),iM 17 148]
def yE:Rg:=[iM 149 9,iM 150 15,iM 151 15,iM 152 11,iB 153 .add 151 152,iC 154 .add 153 1,iA 155 (.slice 1 (Tm 149) (some (Tm 150)) (some (Tm 154)) none),iM 156 10,iA 157 (.call 139 [(Tm 155),(Tm 156)])]
def rH:Rg:=[iM 158 12,iM 159 15,iM 160 17,iA 161 (.conv .u32 (Tm 160)),iX 162 1 158 159,iS 1 162 161]
def NR:Rg:=[iM 86 15,iC 87 .sub 86 1,iM 15 87]
def xV:aD:=(.seq (.seq (.region NP) (.cond (Tm 85) .skip (.exit 2))) (.seq (.block 3 (.seq (.draw xX) (.seq (.draw xY) (.seq (.block 4 (.loop rG)) (.seq (.seq (.region yC) (.cond (Tm 146) (.seq (.region yD) (.region yE)) .skip)) (.region rH)))))) (.region NR)))
def yF:Rg:=[iM 163 11,iA 164 (.mkslice 1 4 [(.int .u32 0)] (Tm 163) (Tm 163)),iM 19 164]
def yG:Rg:=[iM 165 19,iN 166 165,iI 167 0]
def NS:Rg:=[iB 168 .lss 167 166]
def NT:Rg:=[iM 169 167,iM 20 169]
def NU:Rd:=[(iM 170 19,false),(iM 171 20,false),(iM 172 9,false),(iM 173 20,false),(iC 174 .add 173 1,false),(iX 175 1 172 174,false),(iL 176 175,false),(iA 177 (.conv .u64 (Tm 176)),false),(iA 178 (.bin .shl (Tm 177) (.const (.int .u64 32))),false),(iM 179 9,false),(iM 180 20,false),(iX 181 1 179 180,false),(iL 182 181,false),(iA 183 (.conv .u64 (Tm 182)),false),(iB 184 .or 178 183,false),(iM 185 8,false),(iB 186 .shr 184 185,false),(iA 187 (.conv .u32 (Tm 186)),false),(iX 188 1 170 171,false),(iS 1 188 187,true)]
def NV:Rg:=[iC 189 .add 167 1,iM 167 189]
def xW:aD:=(.seq (.region NS) (.seq (.cond (Tm 168) .skip (.exit 6)) (.seq (.block 7 (.seq (.region NT) (.draw NU))) (.region NV))))
def NW:Rd:=[(iM 190 12,true),(iM 191 12,false),(iA 192 (.call 138 [(Tm 191)]),true),(iA 193 (.slice 1 (Tm 190) none (some (Tm 192)) none),true),(iM 194 19,true),(iM 195 19,true),(iA 196 (.call 138 [(Tm 195)]),true),(iA 197 (.slice 1 (Tm 194) none (some (Tm 196)) none),false),(iM 4 193,false),(iM 5 197,false)]
def uT:aD:=(.seq (.region WH) (.seq (.seq (.region WI) (.cond (Tm 24) (.seq (.region WJ) .ret) .skip)) (.seq (.seq (.region WK) (.cond (Tm 29) (.seq (.region WL) (.seq (.region WM) .ret)) .skip)) (.seq (.region WN) (.seq (.block 0 (.loop WG)) (.seq (.draw NK) (.seq (.region NL) (.seq (.region NM) (.seq (.draw NN) (.seq (.seq (.region NO) (.block 2 (.loop xV))) (.seq (.region yF) (.seq (.seq (.region yG) (.block 6 (.loop xW))) (.seq (.draw NW) .ret)))))))))))))
def aLE:List Nat:=[]
def AC:bG:=⟨2,198,uT,[.tmp 4,.tmp 5]⟩
def IN:Rg:=[iA 6 (.mv (.const (.bool false)))]
def IP:Rg:=[iA 7 (.mv (.const (.int .u64 0))),iA 8 (.mv (.const (.int .u64 0)))]
def IQ:Rg:=[iM 13 1,iN 14 13,iI 15 0]
def IR:Rg:=[iB 16 .lss 15 14]
def IS:Rg:=[iM 17 15,iX 18 1 13 15,iL 19 18,iM 9 17,iM 10 19]
def IT:Rg:=[iM 20 7,iM 21 2,iM 22 10,iA 23 (.conv .u64 (Tm 22)),iB 24 .mul 21 23,iB 25 .add 20 24,iM 7 25]
def IU:Rg:=[iM 26 0,iM 27 9,iX 28 1 26 27,iL 29 28,iA 30 (.conv .u64 (Tm 29)),iM 31 7,iA 32 (.bin .and (Tm 31) (.const (.int .u64 4294967295))),iB 33 .sub 30 32,iM 34 8,iB 35 .sub 33 34,iM 11 35]
def IV:Rg:=[iM 36 0,iM 37 9,iM 38 11,iA 39 (.conv .u32 (Tm 38)),iX 40 1 36 37,iS 1 40 39]
def IW:Rg:=[iM 41 11,iA 42 (.bin .shr (Tm 41) (.const (.int .u64 63))),iM 8 42]
def IX:Rg:=[iM 43 7,iA 44 (.bin .shr (Tm 43) (.const (.int .u64 32))),iM 7 44]
def FQ:Rg:=[iC 45 .add 15 1,iM 15 45]
def FP:aD:=(.seq (.region IR) (.seq (.cond (Tm 16) .skip (.exit 0)) (.seq (.block 1 (.seq (.region IS) (.seq (.region IT) (.seq (.region IU) (.seq (.region IV) (.seq (.region IW) (.region IX))))))) (.region FQ))))
def FS:Rg:=[iM 46 0,iM 47 1,iN 48 47,iX 49 1 46 48,iL 50 49,iA 51 (.conv .u64 (Tm 50)),iM 52 7,iB 53 .sub 51 52,iM 54 8,iB 55 .sub 53 54,iM 12 55]
def FT:Rg:=[iM 56 0,iM 57 1,iN 58 57,iM 59 12,iA 60 (.conv .u32 (Tm 59)),iX 61 1 56 58,iS 1 61 60]
def FU:Rg:=[iM 62 12,iA 63 (.bin .shr (Tm 62) (.const (.int .u64 63))),iA 64 (.bin .eql (Tm 63) (.const (.int .u64 1))),iM 6 64]
def qU:aD:=(.seq (.region IN) (.seq (.region IP) (.seq (.seq (.region IQ) (.block 0 (.loop FP))) (.seq (.region FS) (.seq (.region FT) (.seq (.region FU) .ret))))))
def atN:List Nat:=[]
def sC:bG:=⟨3,65,qU,[.tmp 6]⟩
def NY:Rg:=[iA 4 (.mv (.const (.int .u64 0)))]
def NZ:Rg:=[iM 7 1,iN 8 7,iI 9 0]
def OA:Rg:=[iB 10 .lss 9 8]
def OB:Rg:=[iM 11 9,iX 12 1 7 9,iL 13 12,iM 5 11,iM 6 13]
def OC:Rg:=[iM 14 4,iM 15 0,iM 16 5,iX 17 1 15 16,iL 18 17,iA 19 (.conv .u64 (Tm 18)),iM 20 6,iA 21 (.conv .u64 (Tm 20)),iB 22 .add 19 21,iB 23 .add 14 22,iM 4 23]
def OD:Rg:=[iM 24 0,iM 25 5,iM 26 4,iA 27 (.conv .u32 (Tm 26)),iX 28 1 24 25,iS 1 28 27]
def OE:Rg:=[iM 29 4,iA 30 (.bin .shr (Tm 29) (.const (.int .u64 32))),iM 4 30]
def OF:Rg:=[iC 31 .add 9 1,iM 9 31]
def NX:aD:=(.seq (.region OA) (.seq (.cond (Tm 10) .skip (.exit 0)) (.seq (.block 1 (.seq (.region OB) (.seq (.region OC) (.seq (.region OD) (.region OE))))) (.region OF))))
def OG:Rg:=[iM 32 0,iM 33 1,iN 34 33,iX 35 1 32 34,iL 36 35,iM 37 4,iA 38 (.conv .u32 (Tm 37)),iB 39 .add 36 38,iX 40 1 32 34,iS 1 40 39]
def sM:aD:=(.seq (.region NY) (.seq (.seq (.region NZ) (.block 0 (.loop NX))) (.region OG)))
def aAU:List Nat:=[]
def uU:bG:=⟨2,41,sM,[]⟩
end Go.PM
namespace Go.PM
open Go Go.RowKit Go.ChangeShapes Go.WideShapes
inductive AT where
 | one (ct:CT)
 | struct (cts:List CT)
 deriving Inhabited
def aIN (P:Program) (n:Nat) (t:TypeId):Option AT :=
 match P.underlying t with
 | some .bool=>some (.one .bool)
 | some (.int k)=>some (.one (.int k))
 | some .string=>some (.one .str)
 | some (.slice _)=>match fV P n t with
  | some [ct]=>some (.one ct)
  | _=>none
 | some (.struct _)=>(fV P n t).map .struct
 | _=>none
def zQ (P:Program) (n:Nat):List TypeId→Option (List AT)
 | []=>some []
 | t::ts=>match aIN P n t,zQ P n ts with
  | some a,some az=>some (a::az)
  | _,_=>none
inductive AT.Ty:AT→PV→Prop
 | one {ct:CT} {pv:PV} (h:PV.Ty ct pv):AT.Ty (.one ct) pv
 | struct {cts:List CT} {pvs:List PV} (hl:pvs.length=cts.length) (h:∀ (j:Nat) pv ct,pvs[j]?=some pv→cts[j]?=some ct→PV.Ty ct pv):AT.Ty (.struct cts) (.agg pvs)
def AT.TyL:List AT→List PV→Prop
 | [],[]=>True
 | a::az,p::ps=>AT.Ty a p∧AT.TyL az ps
 | _,_=>False
section
variable {H:Type} {enc:TypeId × Value→H} {P:Program} {W:World} {sp:Nat→Bool} {held:Bool}
theorem a3K {r:Reach} {base:Nat} (num:Nat→FuncId) {t:TypeId} {v:Value} {d:DataW H} {ps:List MemPlace} {n:Nat} {a:AT}
  (hval:Value.okWide P W r base t v) (hd:DataW.Trod enc P W 0 sp held t v d ps) (ha:aIN P n t=some a):∃ pv,aT (Env.of W num) pv v∧AT.Ty a pv:=by
 unfold aIN at ha
 cases n with
 | zero =>
  split at ha
  ·rename_i hu
   cases ha
   obtain⟨b,rfl⟩:=okWide_bool hu hval
   obtain⟨pv,h1,h2⟩:=qL (n:=1) (ct:=.bool) num (by simp[Value.cells]) hd (by simp[fV,hu])
   exact⟨pv,h1,.one h2⟩
  ·rename_i k hu
   cases ha
   obtain⟨b,rfl⟩:=okWide_int hu hval
   obtain⟨pv,h1,h2⟩:=qL (n:=1) (ct:=.int k) num (by simp[Value.cells]) hd (by simp[fV,hu])
   exact⟨pv,h1,.one h2⟩
  ·rename_i hu
   cases ha
   obtain⟨b,rfl⟩:=okWide_string hu hval
   obtain⟨pv,h1,h2⟩:=qL (n:=1) (ct:=.str) num (by simp[Value.cells]) hd (by simp[fV,hu])
   exact⟨pv,h1,.one h2⟩
  ·simp[fV] at ha
  ·simp[fV] at ha
  ·cases ha
 | succ n =>
  split at ha
  ·rename_i hu
   cases ha
   obtain⟨b,rfl⟩:=okWide_bool hu hval
   obtain⟨pv,h1,h2⟩:=qL (n:=n+1) (ct:=.bool) num (by simp[Value.cells]) hd (by simp[fV,hu])
   exact⟨pv,h1,.one h2⟩
  ·rename_i k hu
   cases ha
   obtain⟨b,rfl⟩:=okWide_int hu hval
   obtain⟨pv,h1,h2⟩:=qL (n:=n+1) (ct:=.int k) num (by simp[Value.cells]) hd (by simp[fV,hu])
   exact⟨pv,h1,.one h2⟩
  ·rename_i hu
   cases ha
   obtain⟨b,rfl⟩:=okWide_string hu hval
   obtain⟨pv,h1,h2⟩:=qL (n:=n+1) (ct:=.str) num (by simp[Value.cells]) hd (by simp[fV,hu])
   exact⟨pv,h1,.one h2⟩
  ·rename_i e hu
   split at ha
   ·rename_i ct hc
    cases ha
    obtain⟨x,len,cap,rfl⟩:=okWide_slice hu hval
    obtain⟨pv,h1,h2⟩:=qL num (by simp[Value.cells]) hd hc
    exact⟨pv,h1,.one h2⟩
   ·cases ha
  ·rename_i fs hu
   rw[bfY] at ha
   obtain⟨cts,hc,rfl⟩:=ha
   obtain⟨pvs,h1,h2,h3⟩:=aIO num hu hval hd hc
   exact⟨_,h1,.struct h2 h3⟩
  ·cases ha
theorem aBI {r:Reach} {base:Nat} (num:Nat→FuncId) {n:Nat}:∀ {ts:List TypeId} {vs:List Value} {ds:List (DataW H)} {ps:List MemPlace} {az:List AT},DataW.TrodAll enc P W 0 sp held ts vs ds ps →
  (∀ (j:Nat) t v,ts[j]?=some t→vs[j]?=some v→Value.okWide P W r base t v)→zQ P n ts=some az→∃ pvs,eF (Env.of W num) pvs vs∧AT.TyL az pvs
 | [],[],_,_,az,_,_,h=>by
  simp[zQ] at h
  subst h
  exact⟨[],.nil,trivial⟩
 | [],_::_,_,_,_,h,_,_=>h.elim
 | _::_,[],[],_,_,h,_,_=>h.elim
 | _::_,[],_::_,_,_,h,_,_=>h.elim
 | _::_,_::_,[],_,_,h,_,_=>h.elim
 | t::ts,v::vs,d::ds,ps,az,h,hv,ha=>by
  obtain⟨p,q,h1,h2,rfl⟩:=h
  simp only[zQ] at ha
  split at ha
  ·rename_i a as' e1 e2
   cases ha
   obtain⟨pv,r1,t1⟩:=a3K num (hv 0 t v rfl rfl) h1 e1
   obtain⟨pvs,r2,t2⟩:=aBI num h2 (fun j t v a b=>hv (j+1) t v (by simpa using a) (by simpa using b)) e2
   exact⟨pv::pvs,.cons r1 r2,t1,t2⟩
  ·cases ha
theorem TrodAll.length:∀ {ts:List TypeId} {vs:List Value} {ds:List (DataW H)} {ps:List MemPlace},DataW.TrodAll enc P W 0 sp held ts vs ds ps→ds.length=ts.length
 | [],[],[],_,_=>rfl
 | [],[],_::_,_,h=>h.elim
 | [],_::_,_,_,h=>h.elim
 | _::_,[],[],_,h=>h.elim
 | _::_,[],_::_,_,h=>h.elim
 | _::_,_::_,[],_,h=>h.elim
 | t::ts,v::vs,d::ds,ps,h=>by
  obtain⟨p,q,h1,h2,rfl⟩:=h
  simp[TrodAll.length h2]
end
theorem alC {H:Type} {enc:TypeId × Value→H} {P:Program} {f:FuncId} {fn:Func} {s:ChangeSpec} {apart fresh handsOn:Bool} {bt:TypeId} {num:Nat→FuncId} {name n:Nat} {ats:List AT}
  (hl:laidOutB P=true) (hts:fn.params.toList.all (fun t=>P.readableRec t&&decide (t<P.types.size))=true) (hrt:fn.resultTypes=#[bt]) (hbt:P.underlying bt=some .bool) (hv:s.vars=[])
  (hs:∀ ds:List (DataW H),ds.length=fn.params.toList.length→(s.fn H ds).results=[.lit (.bool true)]∧(s.fn H ds).args=ds∧(s.fn H ds).vars=[])
  (hnum:num name=f) (ha:zQ P n fn.params.toList=some ats) (h:∀ pvs,AT.TyL ats pvs→aI ⟨P,num⟩ name pvs PH.nil (aL (.bool true)))
  {W:World} {base:Nat} {args:Array Value} {ds gs:List (DataW H)} {before:List MemPlace}
  (hval:∀ (j:Nat) t v,fn.params[j]?=some t→args[j]?=some v→Value.okWide P W .any base t v) (hW:DataW.Whole enc P fn.params.toList s.vars apart W args.toList ds gs before) :
  Calls P f args W fun e W'=>∃ v,e=.returned v∧s.post enc P fn apart fresh handsOn false W args v W':=by
 have hts':∀ t∈fn.params.toList,P.readableRec t=true∧t<P.types.size:=fun t ht=>by
  have:=bhE.1 hts t ht
  simpa using this
 have hW':=hW
 obtain⟨p,q,hA,hV,rfl,hz,hn⟩:=hW
 rw[hv] at hV
 obtain⟨rfl,rfl⟩:=trodVars_none hV
 obtain⟨pvs,hr,ht⟩:=aBI num hA (fun j t v a b=>hval j t v (by simpa using a) (by simpa using b)) ha
 have hlen:=TrodAll.length hA
 subst hnum
 obtain⟨r1,r2,r3⟩:=hs (ds++[]) (by simpa using hlen)
 refine (aOE (C:=⟨P,num⟩) (h pvs ht) hr).mono fun e W' he=>?_
 obtain⟨rfl,hb⟩:=he
 exact⟨_,rfl,aQG hl hW' hb hts' hrt hbt hv r1 (by rw[r2]; simp) r3⟩
end Go.PM
namespace Go.PM
open Go
attribute [go_sem] mS fN setCells PV.cells PV.one bR storeAt cI loadCells dK bnd PV.slice PV.intOf PV.eqs PV.eq1 PV.un keyOf KS.of KS.ofs KS.sh List.all_cons List.all_nil List.set_cons_zero List.set_cons_succ bgR biN bgG bhK bhE Bool.and_self
attribute [go_sem] Bool.bne_false Bool.bne_true Int.le_refl Int.lt_irrefl decide_true decide_false exists_eq_left exists_eq_left' bfT List.length_replicate Int.toNat_natCast Int.natCast_nonneg Option.isSome_some Option.isSome_none biM Option.getD_none decide_eq_true_eq decide_eq_false_iff_not bgQ bhY bfX Nat.sub_zero
def dB (xs:List Int):List (List PV):=xs.map fun n=>[.int .i64 n]
theorem bD {a b:Int} (h:a≠b):(a==b)=false:=by simp[h]
theorem bP {a b:Int} (h:a=b):(a==b)=true:=by simp[h]
theorem dR {a b:Int} (h:a≠b):(a != b)=true:=by simp[h]
theorem cJ {a b:Int} (h:a=b):(a != b)=false:=by simp[h]
section
variable {H:PH}
@[go_sem] theorem PH.set_set (o:Nat) (x y:bV):(H.set o x).set o y=H.set o y:=PH.ext fun q=>by
 simp only[aV]; split<;>rfl
@[go_sem] theorem gS (o:Nat) (x:bV):(H.set o x) o=some x:=by simp only[aV,if_true]
end
end Go.PM
namespace Go.PM
open Go
section
variable {C:Ctx} {K:cC} {F:PF} {H:PH}
theorem PH.kP (o:Nat) (x:bV):H.over .nil (PH.nil.set o x)=H.set o x:=PH.ext fun q=>by
 rw[lK]; simp only[aV,ZZ]; split<;>simp_all
theorem PH.qB (o:Nat) (x y:bV):H.over (PH.nil.set o x) (PH.nil.set o y)=H.set o y:=PH.ext fun q=>by
 rw[lK]; simp only[aV,ZZ]; split<;>simp_all
theorem lE {name:Nat} {vs:List PV} {H0:PH} {R:PV→PH→Prop} {args:List aM} {d:Option Nat} {K:PF→PH→Prop} (h:aI C name vs H0 R) (ha:aM.evs F args=some vs) (hle:H0.le H)
  (hk:∀ r H',R r H'→kU H H0 H'→K (F.put d r) (H.over H0 H')):fZ C name args [] d K F H :=
 .inl ⟨vs,H0,R,by rw[ha]; simp,hle,h,hk⟩
theorem aW {res:List dC} {R:PV→PH→Prop} {vs:List PV} {e:kE} (he:e=.normal∨e=.ret) (H0:PH) (h:dC.evs F H res=some vs) (hle:H0.le H) (hR:R (cN vs) H0):aX res R e F H:=by
 have key:∃ vs,dC.evs F H res=some vs∧∃ F1 H1 H2,gO (PF.nil.set 0 (cN vs)) H F1 H1∧H2.le H1∧∃ u,F1 0=some u∧R u H2 :=
  ⟨vs,h,_,H,H0,.refl _ _,hle,cN vs,by rw[kS,if_pos rfl],hR⟩
 rcases he with rfl | rfl<;>exact key
theorem auK {t o s k:Nat} {rs:List (List PV)} {R:PV→PH→Prop} {e:kE} (he:e=.normal∨e=.ret) (h:F t=some (.osl o s 0 k)) (ho:H o=some (.rows s rs)) (hk:k≤rs.length) (hR:R (.sl s (rs.take k)) .nil) :
  aX [.tmp t] R e F H:=by
 have key:∃ vs,dC.evs F H [.tmp t]=some vs∧∃ F1 H1 H2,gO (PF.nil.set 0 (cN vs)) H F1 H1∧H2.le H1∧∃ u,F1 0=some u∧R u H2:=by
  refine⟨[.osl o s 0 k],by rw[jK,lL,h,nB],_,_,.nil,.step o ho (.refl _ _),PH.nil_le,.sl s (rs.take k),?_,hR⟩
  have:0+k≤rs.length:=by omega
  simp only[PF.frz,kS,if_true,cN,bhC,PV.frz,PV.pR,PV.cR,true_and,if_pos this,bgV]
 rcases he with rfl | rfl<;>exact key
def bY (v:PV) (r:PV) (H:PH):Prop:=Co r v∧H=PH.nil
theorem vJ {s b:Nat} {y:PV} {src:List (List PV)} {K:PV→PH→Prop} (hy:dK H s y=some src) (hr:roomFor 0 src.length b) (h0:src=[]→K .nils H)
  (h1:src≠[]→∀ o,H o=none→K (.osl o s 0 src.length) (H.set o (.rows s src))):mM H s b .nils y K:=⟨src,hy,hr,h0,h1⟩
theorem ayM {o s b len:Nat} {rs:List (List PV)} {y:PV} {src:List (List PV)} {K:PV→PH→Prop} (hy:dK H s y=some src) (hr:roomFor len src.length b) (ho:H o=some (.rows s rs)) (hl:len≤rs.length)
  (h0:K (.osl o s 0 (len+src.length)) (H.set o (.rows s (rs.take len++src))))
  (h1:∀ o',H o'=none→K (.osl o' s 0 (len+src.length)) ((H.set o .dead).set o' (.rows s (rs.take len++src)))):mM H s b (.osl o s 0 len) y K :=
 ⟨src,hy,rfl,rfl,hr,rs,ho,hl,h0,h1⟩
end
end Go.PM
namespace Go.PM
open Go
def bB (H:PH) (s:Nat) (v:PV) (rows:List (List PV)):Prop :=
 (rows=[]∧v=.nils)∨∃ q rs,v=.osl q s 0 rows.length∧H q=some (.rows s rs)∧rows.length≤rs.length∧rs.take rows.length=rows
def Seen (s:Nat) (v:PV) (rows:List (List PV)):Prop:=(rows=[]∧v=.nils)∨v=.sl s rows
section
variable {C:Ctx} {K:cC} {F:PF} {H:PH} {s b:Nat} {v y:PV} {rows src:List (List PV)}
theorem bB.nil:bB H s .nils []:=.inl ⟨rfl,rfl⟩
theorem bB.view (h:bB H s v rows):dK H s v=some rows:=by
 rcases h with ⟨rfl,rfl⟩ | ⟨q,rs,rfl,h1,h2,h3⟩
 ·rfl
 ·have:0+rows.length≤rs.length:=by omega
  simp only[dK,if_true,h1,true_and,if_pos this,bgV,h3]
theorem Seen.view (h:Seen s v rows):dK H s v=some rows:=by
 rcases h with ⟨rfl,rfl⟩ | rfl
 ·rfl
 ·simp[dK]
theorem bB.ext {H':PH} (h:bB H s v rows) (hk:∀ o x,H o=some x→H' o=some x):bB H' s v rows:=by
 rcases h with h | ⟨q,rs,h0,h1,h2,h3⟩
 ·exact .inl h
 ·exact .inr ⟨q,rs,h0,hk q _ h1,h2,h3⟩
theorem fB {K:PV→PH→Prop} (h:bB H s v rows) (hy:dK H s y=some src) (hr:roomFor rows.length src.length b)
  (hk:∀ v' H',bB H' s v' (rows++src)→(∀ o x,H o=some x→(∀ l,v≠.osl o s 0 l)→H' o=some x)→K v' H'):mM H s b v y K:=by
 rcases h with ⟨rfl,rfl⟩ | ⟨q,rs,rfl,h1,h2,h3⟩
 ·refine⟨src,hy,hr,fun e=>?_,fun e o ho=>?_⟩
  ·subst e
   exact hk _ _ (.inl ⟨rfl,rfl⟩) fun o x ho _=>ho
  ·refine hk _ _ (.inr ⟨o,src,rfl,by simp only[aV,if_true],bfX _,by simp⟩) fun o' x ho' _=>?_
   have:o'≠o:=by rintro rfl; rw[ho] at ho'; cases ho'
   simp only[aV,if_neg this,ho']
 ·have hlen:(rows++src).length=rows.length+src.length:=bfW
  refine⟨src,hy,rfl,rfl,hr,rs,h1,h2,?_,fun o ho=>?_⟩
  ·rw[h3]
   refine hk _ _ (.inr ⟨q,rows++src,by rw[hlen],by simp only[aV,if_true],bfX _,bhB⟩) fun o' x ho' hne=>?_
   have:o'≠q:=by rintro rfl; exact hne _ rfl
   simp only[aV,if_neg this,ho']
  ·rw[h3]
   refine hk _ _ (.inr ⟨o,rows++src,by rw[hlen],by simp only[aV,if_true],bfX _,bhB⟩) fun o' x ho' hne=>?_
   have h5:o'≠q:=by rintro rfl; exact hne _ rfl
   have h6:o'≠o:=by rintro rfl; rw[ho] at ho'; cases ho'
   simp only[aV,if_neg h5,if_neg h6,ho']
def Pure (u:PV):Prop:=∀ q s rs,PV.frz q s rs u=u
theorem bB.frz (h:bB H s v rows):∃ v1,Seen s v1 rows∧∀ F:PF,∃ F1 H1,gO F H F1 H1∧(∀ t,F t=some v→F1 t=some v1)∧∀ i u,F i=some u→Pure u→F1 i=some u:=by
 rcases h with ⟨rfl,rfl⟩ | ⟨q,rs,rfl,h1,h2,h3⟩
 ·exact⟨.nils,.inl ⟨rfl,rfl⟩,fun F=>⟨F,H,.refl _ _,fun t h=>h,fun i u h _=>h⟩⟩
 ·refine⟨.sl s rows,.inr rfl,fun F=>⟨_,_,.step q h1 (.refl _ _),fun t ht=>?_,fun i u hi hp=>?_⟩⟩
  ·have:0+rows.length≤rs.length:=by omega
   simp only[PF.frz,ht,bhC,PV.frz,PV.pR,PV.cR,if_true,true_and,if_pos this,bgV,h3]
  ·simp only[PF.frz,hi,bhC]
   rw[hp]
theorem nA {t:Nat} {e:kE} (he:e=.normal∨e=.ret) (h:bB H s v rows) (ht:F t=some v):aX [.tmp t] (bY (.sl s rows)) e F H:=by
 rcases h with ⟨rfl,rfl⟩ | ⟨q,rs,rfl,h1,h2,h3⟩
 ·exact aW (vs:=[.nils]) he .nil (by rw[jK,lL,ht,nB]) PH.nil_le ⟨.nil s,rfl⟩
 ·exact auK he ht h1 h2 ⟨by rw[h3]; exact .refl _,rfl⟩
end
end Go.PM
namespace Go.PM
open Go
section
variable {C:Ctx} {F:PF} {H:PH}
@[go_sem] theorem pS (o s:Nat) (rs:List (List PV)) (i:Nat):(F.frz o s rs) i=(F i).map (PV.frz o s rs):=rfl
theorem nE {name t o s k:Nat} {rs:List (List PV)} {v:PV} {d:Option Nat} {K:PF→PH→Prop} (h:aI C name [.sl s (rs.take k)] .nil (aL v)) (ht:F t=some (.osl o s 0 k)) (ho:H o=some (.rows s rs)) (hk:k≤rs.length)
  (hK:K ((F.frz o s rs).put d v) (H.frz o s rs)):fZ C name [.tmp t] [] d K F H:=by
 refine .inr ⟨_,_,.step o ho (.refl _ _),[.sl s (rs.take k)],.nil,aL v,?_,PH.nil_le,h,?_⟩
 ·have:0+k≤rs.length:=by omega
  simp only[uH,LM,TH,pS,ht,bhC,PV.frz,PV.pR,PV.cR,if_true,true_and,if_pos this,bgV,bhN]
 ·rintro r H' ⟨rfl,rfl⟩ -
  rw[PH.uW]
  exact hK
end
end Go.PM
namespace Go.Na
def val:List Nat→Nat
 | []=>0
 | x::xs=>x+4294967296*val xs
def Lim (xs:List Nat):Prop:=∀ x∈xs,x<4294967296
def aG (n:Nat):List Nat:=if h:n=0 then [] else (n%4294967296)::aG (n/4294967296)
termination_by n
decreasing_by exact Nat.div_lt_self (biD h) (by decide)
def nl (n:Nat):Nat:=(aG n).length
theorem eY:aG 0=[]:=by rw[aG]; simp
theorem oR {n:Nat} (h:n≠0):aG n=(n%4294967296)::aG (n/4294967296):=by rw[aG]; simp[h]
theorem lI {n:Nat} (h:n≠0) (hb:n<4294967296):aG n=[n]:=by
 rw[oR h,bgW hb,biW hb,eY]
theorem aY (n:Nat):val (aG n)=n:=by
 induction n using Nat.strongRecOn with
 | _ n ih =>
  by_cases h:n=0
  ·subst h; rw[eY]; rfl
  ·rw[oR h,val,ih _ (Nat.div_lt_self (biD h) (by decide))]
   exact Nat.mod_add_div n 4294967296
theorem bE (n:Nat):Lim (aG n):=by
 induction n using Nat.strongRecOn with
 | _ n ih =>
  by_cases h:n=0
  ·subst h; rw[eY]; intro x hx; cases hx
  ·rw[oR h]
   intro x hx
   rw[bgD] at hx
   rcases hx with rfl | hx
   ·exact bgX _ (by decide)
   ·exact ih _ (Nat.div_lt_self (biD h) (by decide)) x hx
theorem uA:nl 0=0:=by rw[nl,eY]; rfl
theorem aPI {n:Nat} (h:n≠0):nl n=nl (n/4294967296)+1:=by rw[nl,oR h]; rfl
theorem gM (n k:Nat):nl n≤k↔n<4294967296 ^ k:=by
 induction k generalizing n with
 | zero =>
  by_cases h:n=0
  ·subst h; simp[uA]
  ·rw[aPI h]; simp; omega
 | succ k ih =>
  by_cases h:n=0
  ·subst h; simp[uA,biE]
  ·rw[aPI h,Nat.succ_le_succ_iff,ih,bhH,biJ (by decide)]
theorem iT {n:Nat}:nl n=0↔n=0:=by
 have:=gM n 0
 simp at this
 exact this
theorem eZ (xs ys:List Nat):val (xs++ys)=val xs+4294967296 ^ xs.length*val ys:=by
 induction xs with
 | nil=>simp[val]
 | cons x xs ih =>
  simp only[List.cons_append,val,biH,ih,bhH]
  rw[bgC,bhX,← bgK,bgO 4294967296 (4294967296 ^ xs.length)]
theorem eD {xs:List Nat} (h:Lim xs):val xs<4294967296 ^ xs.length:=by
 induction xs with
 | nil=>simp[val]
 | cons x xs ih =>
  have h1:=h x (by simp)
  have h2:=ih fun y hy=>h y (by simp[hy])
  simp only[val,biH,bhH]
  have:4294967296*(val xs+1)≤4294967296*4294967296 ^ xs.length:=bhZ _ h2
  rw[bgC,Nat.mul_one] at this
  rw[bgO (4294967296 ^ xs.length)]
  omega
theorem Lim.app {xs ys:List Nat} (h:Lim xs) (k:Lim ys):Lim (xs++ys):=fun x hx=>by
 rw[bhJ] at hx
 exact hx.elim (h x) (k x)
theorem Lim.take {xs:List Nat} (h:Lim xs) (n:Nat):Lim (xs.take n):=fun x hx=>h x (List.mem_of_mem_take hx)
theorem Lim.drop {xs:List Nat} (h:Lim xs) (n:Nat):Lim (xs.drop n):=fun x hx=>h x (List.mem_of_mem_drop hx)
theorem Lim.set {xs:List Nat} (h:Lim xs) (i:Nat) {v:Nat} (hv:v<4294967296):Lim (xs.set i v):=fun x hx=>by
 rcases List.mem_or_eq_of_mem_set hx with h1 | h1
 ·exact h x h1
 ·subst h1; exact hv
theorem rY (n:Nat):Lim (bfV n 0):=fun x hx=>by
 rw[List.mem_replicate] at hx; rw[hx.2]; decide
theorem pA (n:Nat):val (bfV n 0)=0:=by
 induction n with
 | zero=>rfl
 | succ n ih=>simp[List.replicate_succ,val,ih]
theorem aOK {xs:List Nat} (h:Lim xs) (hl:∀ x,xs.getLast?=some x→x≠0):aG (val xs)=xs:=by
 induction xs with
 | nil=>simp[val,eY]
 | cons x xs ih =>
  have hx:=h x (by simp)
  have hxs:Lim xs:=fun y hy=>h y (by simp[hy])
  cases xs with
  | nil =>
   have:=hl x (by simp)
   simp only[val,Nat.mul_zero,bhY]
   exact lI this hx
  | cons y ys =>
   have ih':=ih hxs fun z hz=>hl z (by rw[List.getLast?_cons_cons]; exact hz)
   have h0:val (y::ys)≠0:=fun e=>by rw[e,eY] at ih'; cases ih'
   have hne:x+4294967296*val (y::ys)≠0:=by
    have:0<4294967296*val (y::ys):=Nat.mul_pos (by decide) (biD h0)
    omega
   show aG (x+4294967296*val (y::ys))=_
   rw[oR hne]
   have e1:(x+4294967296*val (y::ys))%4294967296=x:=by rw[Nat.add_mul_mod_self_left,bgW hx]
   have e2:(x+4294967296*val (y::ys))/4294967296=val (y::ys):=by rw[Nat.add_mul_div_left _ _ (by decide),biW hx,bgQ]
   rw[e1,e2,ih']
theorem ayA {xs:List Nat} {n:Nat} (h:∀ j x,n≤j→xs[j]?=some x→x=0):val (xs.take n)=val xs:=by
 have e:xs.drop n=bfV (xs.drop n).length 0:=by
  apply biO (by simp)
  intro i h1 h2
  rw[List.getElem_replicate,List.getElem_drop]
  exact h (n+i) _ (by omega) (bgF _)
 conv=>rhs; rw[← biC n xs,eZ,e,pA]
 simp
theorem ED {xs:List Nat} (hx:Lim xs) {n:Nat} (hn:n≤xs.length) (h:∀ j x,n≤j→xs[j]?=some x→x=0) (h0:∀ x,0<n→xs[n-1]?=some x→x≠0):xs.take n=aG (val xs):=by
 rw[← ayA h,aOK (hx.take n)]
 intro x hl
 rw[List.getLast?_eq_getElem?,bgJ,bhT hn] at hl
 rcases biB n with e | e
 ·subst e; simp at hl
 ·rw[List.getElem?_take_of_lt (by omega)] at hl
  exact h0 x e hl
theorem aHC {xs:List Nat} (hx:Lim xs) {n:Nat} (hn:n≤xs.length) (h:∀ j x,n≤j→xs[j]?=some x→x=0) (h0:∀ x,0<n→xs[n-1]?=some x→x≠0):nl (val xs)=n:=by
 rw[nl,← ED hx hn h h0,bgJ]; omega
theorem eO {xs:List Nat} (h:Lim xs):nl (val xs)≤xs.length:=(gM _ _).2 (eD h)
theorem hQ {xs : List Nat} (h : Lim xs) : xs.take (nl (val xs)) = aG (val xs) := by
  have hl := eO h
  have e : val (xs.take (nl (val xs)) ++ xs.drop (nl (val xs))) = val xs := by rw [biC]
  rw [eZ, bgJ, bhT hl] at e
  have h1 := eD (h.take (nl (val xs)))
  rw [bgJ, bhT hl] at h1
  have h2 := (gM (val xs) (nl (val xs))).1 (bfX _)
  have hd : val (xs.drop (nl (val xs))) = 0 := by
    rcases biB (val (xs.drop (nl (val xs)))) with h | h
    · exact h
    · have := bhZ (4294967296 ^ nl (val xs)) h
      omega
  have hz : ∀ j x, nl (val xs) ≤ j → xs[j]? = some x → x = 0 := by
    have zero : ∀ ys : List Nat, val ys = 0 → ∀ y ∈ ys, y = 0 := by
      intro ys
      induction ys with
      | nil => intro _ y hy; cases hy
      | cons z zs ih =>
        intro hv y hy
        simp only [val] at hv
        rw [bgD] at hy
        rcases hy with rfl | hy
        · omega
        · exact ih (by have : 4294967296 * val zs = 0 := by omega
                       rcases Nat.mul_eq_zero.1 this with h | h
                       · cases h
                       · exact h) y hy
    intro j x hj hx
    refine zero _ hd x ?_
    rw [List.mem_iff_getElem?]
    exact ⟨j - nl (val xs), by rw [List.getElem?_drop, Nat.add_sub_cancel' hj]; exact hx⟩
  refine ED h hl hz fun x hpos hx e => ?_
  subst e
  have hz2 : ∀ j x, nl (val xs) - 1 ≤ j → xs[j]? = some x → x = 0 := fun j y hj hy => by
    rcases bgI j (nl (val xs)) with h3 | h3
    · have : j = nl (val xs) - 1 := by omega
      subst this; rw [hx] at hy; cases hy; rfl
    · exact hz j y h3 hy
  have h3 := ayA hz2
  have h4 := eD (h.take (nl (val xs) - 1))
  rw [h3, bgJ, bhT (by omega)] at h4
  have := (gM (val xs) (nl (val xs) - 1)).2 h4
  omega
theorem avG {xs:List Nat} (h:Lim xs) {n:Nat} (hn:nl (val xs)=n+1):∃ x,xs[n]?=some x∧x≠0:=by
 have hl:=eO h
 refine⟨xs[n]'(by omega),bgF _,fun e=>?_⟩
 have e1:=hQ h
 have hv:=aY (val xs)
 rw[← e1,hn,biG (by omega),e,eZ] at hv
 simp only[val,Nat.mul_zero,bhY] at hv
 have h4:=eD (h.take n)
 rw[hv,bgJ,bhT (by omega)] at h4
 have:=(gM (val xs) n).2 h4
 omega
theorem oX (xs:List Nat) {k:Nat} (h:k<xs.length):val xs=val (xs.take k)+4294967296 ^ k*(xs[k]+4294967296*val (xs.drop (k+1))):=by
 conv=>lhs; rw[← biC k xs,eZ,bgJ,bhT (by omega),bhP h]
 rfl
theorem TF {xs ys:List Nat} (hx:Lim xs) {k:Nat} (h1:k<xs.length) (h2:k<ys.length) (hd:xs.drop (k+1)=ys.drop (k+1)) (h:xs[k]<ys[k]):val xs<val ys:=by
 rw[oX xs h1,oX ys h2,hd]
 have h3:=eD (hx.take k)
 rw[bgJ,bhT (by omega)] at h3
 have h4:4294967296 ^ k*(xs[k]+4294967296*val (ys.drop (k+1))+1)≤4294967296 ^ k*(ys[k]+4294967296*val (ys.drop (k+1))):=bhZ _ (by omega)
 rw[bgC _ _ 1,Nat.mul_one] at h4
 omega
def dD (a b:Nat):Int:=if a<b then -1 else if b<a then 1 else 0
theorem abU {xs ys:List Nat} {k:Nat} (h1:k<xs.length) (h2:k<ys.length) (hd:xs.drop (k+1)=ys.drop (k+1)) (h:xs[k]=ys[k]):xs.drop k=ys.drop k:=by
 rw[bhP h1,bhP h2,hd,h]
theorem gK {a b:Nat} (h:a≤b):nl a≤nl b:=(gM a _).2 (Nat.lt_of_le_of_lt h ((gM b _).1 (bfX _)))
theorem akY {xs:List Nat} (h:Lim xs) {j:Nat} (hj:j<nl (val xs)):∃ (h1:j<xs.length) (h2:j<(aG (val xs)).length),xs[j]=(aG (val xs))[j]:=by
 have hl:=eO h
 refine⟨by omega,hj,?_⟩
 have e:=hQ h
 have:(xs.take (nl (val xs)))[j]?=(aG (val xs))[j]?:=by rw[e]
 rw[List.getElem?_take_of_lt hj,bgF (by omega),bgF hj] at this
 exact biA.inj this
def cA (n:Nat):Nat:=if h:n=0 then 0 else cA (n/2)+1
termination_by n
decreasing_by exact Nat.div_lt_self (biD h) (by decide)
theorem iW:cA 0=0:=by rw[cA]; simp
theorem oA {n:Nat} (h:n≠0):cA n=cA (n/2)+1:=by rw[cA]; simp[h]
theorem jQ (n k:Nat):cA n≤k↔n<2 ^ k:=by
 induction k generalizing n with
 | zero =>
  by_cases h:n=0
  ·subst h; simp[iW]
  ·rw[oA h]; simp; omega
 | succ k ih =>
  by_cases h:n=0
  ·subst h; simp[iW,biE]
  ·rw[oA h,Nat.succ_le_succ_iff,ih,bhH,biJ (by decide)]
theorem gQ {n:Nat}:cA n=0↔n=0:=by
 have:=jQ n 0
 simp at this
 exact this
theorem akZ {hi lo k:Nat} (hl:lo<2 ^ k) (hh:hi≠0):cA (lo+2 ^ k*hi)=k+cA hi:=by
 apply Nat.le_antisymm
 ·rw[jQ,Nat.pow_add]
  have h1:=(jQ hi _).1 (bfX _)
  have:2 ^ k*(hi+1)≤2 ^ k*2 ^ cA hi:=bhZ _ h1
  rw[bgC,Nat.mul_one] at this
  omega
 ·obtain⟨b,hb⟩:∃ b,cA hi=b+1:=⟨cA hi-1,by have:=mt gQ.1 hh; omega⟩
  rw[hb]
  rcases bgI (cA (lo+2 ^ k*hi)) (k+(b+1)) with h | h
  ·have h1:=(jQ (lo+2 ^ k*hi) (k+b)).1 (by omega)
   rw[Nat.pow_add] at h1
   have h2:¬ hi<2 ^ b:=fun h=>by have:=(jQ hi b).2 h; omega
   have:2 ^ k*2 ^ b≤2 ^ k*hi:=bhZ _ (by omega)
   omega
  ·exact h
theorem tR (n k:Nat):cA n≤32*k↔nl n≤k:=by
 rw[jQ,gM,Nat.pow_mul]
end Go.Na
namespace Go.PM
open Go Go.Na
abbrev aE (xs:List Nat):List (List PV):=xs.map fun (n:Nat)=>[PV.int .u32 (n:Int)]
abbrev aF (xs:List Nat):PV:=.sl 1 (xs.map fun (n:Nat)=>[PV.int .u32 (n:Int)])
theorem bQ (xs:List Nat):(aE xs).length=xs.length:=by simp
theorem bJ (xs:List Nat) {i:Nat} (h:i<xs.length):(aE xs)[i]?=some [.int .u32 (xs[i]:Nat)]:=by simp[h]
theorem aeK (xs:List Nat) (k:Nat):aF (xs.take k)=.sl 1 ((xs.map fun (n:Nat)=>[PV.int .u32 (n:Int)]).take k):=by rw[aF,List.map_take]
theorem bX (n:Nat):IntKind.u32.wrap (n:Int)=((n%4294967296:Nat):Int):=by
 have e:IntKind.u32.wrap (n:Int)=(n:Int)%4294967296:=by simp[IntKind.wrap,IntKind.bits,IntKind.signed]
 rw[e]; rfl
theorem sI {k:Nat} (h:k≤9223372036854775807) (h0:0<k):IntKind.i64.wrap ((k:Int)-1)=((k-1:Nat):Int):=by
 rw[wrap_i64 (by omega) (by omega)]; omega
def aLH (xs:List Nat) (n:Nat):PF:=((PF.nil.set 0 (aF xs)).set 3 (.int .i64 n))
theorem aLJ {C:Ctx} (xs:List Nat) (hx:Lim xs) (hl:xs.length≤16777216):mJ.wp C (aX qT.res (aL (.int .i64 (nl (val xs):Nat)))) (PF.args [aF xs]) .nil:=by
 simp -implicitDefEqProofs only[go_sem,γ,reduceCtorEq,mJ,DK,DL,qT]
 refine wp_loop (α:=Nat) (aLH xs) (fun _=>.nil) (fun n=>n≤xs.length∧∀ j x,n≤j→xs[j]?=some x→x=0) (fun n=>n) xs.length ⟨bfX _,fun j x h e=>by rw[bhD h] at e; cases e⟩ ?_ PH.nil_le ?_
 ·unfold aLH
  (repeat' (first|exact PF.nil_le|refine PF.aA ?_ ?_))<;>first|(simp -implicitDefEqProofs only[go_sem,γ,reduceCtorEq]<;>rfl)|rfl
 rintro n ⟨hn,hz⟩
 have out:(∀ x,0<n→xs[n-1]?=some x→x≠0)→nl (val xs)=n:=fun h=>aHC hx hn hz h
 simp -implicitDefEqProofs only[go_sem,γ,reduceCtorEq,DJ,DM,aLH]
 by_cases h0:(n:Int)>0
 ·have hp:0<n:=by omega
  have hi:=bJ xs (show n-1<xs.length by omega)
  simp -implicitDefEqProofs only[go_sem,γ,reduceCtorEq,h0,sI (show n≤9223372036854775807 by omega) hp,hi]
  by_cases hz0:xs[n-1]=0
  ·simp -implicitDefEqProofs only[go_sem,γ,reduceCtorEq,bP (show ((xs[n-1]:Nat):Int)=0 by omega),DN,sI (show n≤9223372036854775807 by omega) hp]
   refine aJ (n-1) ⟨by omega,fun j x hj he=>?_⟩ (by omega) ?_ PH.nil_le
   ·rcases bgI j n with h | h
    ·have:j=n-1:=by omega
     subst this
     rw[bgF (by omega)] at he
     cases he; exact hz0
    ·exact hz j x h he
   ·(repeat' (first|exact PF.nil_le|refine PF.aA ?_ ?_))<;>first|(simp -implicitDefEqProofs only[go_sem,γ,reduceCtorEq]<;>rfl)|rfl
  ·simp -implicitDefEqProofs only[go_sem,γ,reduceCtorEq,bD (show ((xs[n-1]:Nat):Int)≠0 by omega),pZ]
   refine bZ (.inr rfl) rfl ?_
   rw[out fun x _ he=>by rw[bgF (by omega)] at he; cases he; exact hz0]
   rfl
 ·simp -implicitDefEqProofs only[go_sem,γ,reduceCtorEq,h0,pZ]
  refine bZ (.inr rfl) rfl ?_
  rw[out fun x h=>by omega]
  rfl
theorem aPJ {C:Ctx} (xs:List Nat) (hlen:aI C 138 [aF xs] .nil (aL (.int .i64 (nl (val xs):Nat)))):yH.wp C (aX IG.res (aL (.bool (decide (nl (val xs)>512))))) (PF.args [aF xs]) .nil:=by
 simp -implicitDefEqProofs only[go_sem,reduceCtorEq,yH,aeM,aeN,IG]
 refine aB hlen rfl ?_
 simp -implicitDefEqProofs only[go_sem,γ]
 refine bZ (.inr rfl) rfl ?_
 simp only[cN,PV.bool.injEq,decide_eq_decide]
 omega
def szL (n:Nat):List Nat:=if nl n>512 then [] else aG n
def szE (n:Nat):Int:=if nl n>512 then 2 else 0
def szV (n:Nat):PV:=.tup [aF (szL n),.int .i64 (szE n)]
theorem aPO {C:Ctx} (xs:List Nat) (hx:Lim xs) (hlen:aI C 138 [aF xs] .nil (aL (.int .i64 (nl (val xs):Nat)))):yJ.wp C (aX IL.res (bY (szV (val xs)))) (PF.args [aF xs]) .nil:=by
 simp -implicitDefEqProofs only[go_sem,reduceCtorEq,yJ,aeZ,afA,IL]
 refine aB hlen rfl ?_
 simp -implicitDefEqProofs only[go_sem,γ,afB]
 by_cases h:nl (val xs)>512
 ·have h':((nl (val xs):Nat):Int)>512:=by omega
  simp -implicitDefEqProofs only[go_sem,h',afC]
  refine aW (vs:=[.nils,.int .i64 2]) (.inr rfl) .nil rfl PH.nil_le ⟨?_,rfl⟩
  rw[szV,szL,szE,if_pos h,if_pos h]
  refine .tup rfl fun j p q hp hq=>?_
  match j with
  | 0=>simp at hp hq; subst hp; subst hq; exact .nil 1
  | 1=>simp at hp hq; subst hp; subst hq; exact .refl _
  | j+2=>simp at hp
 ·have h':¬ ((nl (val xs):Nat):Int)>512:=by omega
  have hl:=eO hx
  have hc:((nl (val xs):Nat):Int)≤(xs.length:Nat):=by omega
  simp -implicitDefEqProofs only[go_sem,ν,γ,reduceCtorEq,h',afD,hc,or_true,bgV]
  refine aW (.inr rfl) .nil rfl PH.nil_le ⟨?_,rfl⟩
  rw[szV,szL,szE,if_neg h,if_neg h,← hQ hx,aeK]
  exact .refl _
theorem aVS {C:Ctx} (v:Nat) (hv:v<18446744073709551616) (hlen:∀ xs,Lim xs→xs.length≤16777216→aI C 138 [aF xs] .nil (aL (.int .i64 (nl (val xs):Nat)))) :
  DO.wp C (aX WQ.res (aL (aF (aG v)))) (PF.args [.int .u64 v]) .nil:=by
 have e1:IntKind.u32.wrap ((v:Nat):Int)=((v%4294967296:Nat):Int):=bX v
 have e2:Int.fdiv ((v:Nat):Int) 4294967296=((v/4294967296:Nat):Int):=by
  rw[Int.fdiv_eq_ediv_of_nonneg _ (by decide)]; rfl
 have hd:v/4294967296<4294967296:=by omega
 have e3:IntKind.u32.wrap ((v/4294967296:Nat):Int)=((v/4294967296:Nat):Int):=by rw[bX,bgW hd]
 have hL:Lim [v%4294967296,v/4294967296]:=by
  intro x hx
  simp only[bgD,List.mem_nil_iff,or_false] at hx
  rcases hx with rfl | rfl
  ·exact bgX _ (by decide)
  ·exact hd
 have hval:val [v%4294967296,v/4294967296]=v:=by simp only[val,Nat.mul_zero,bhY]; exact Nat.mod_add_div v 4294967296
 have hs:∀ a b:Int,PV.bin .shr (.int .u64 a) (.int .u64 b)=shift .shr .u64 a b:=fun _ _=>rfl
 have hsh:shift .shr .u64 (v:Int) 32=some (.int .u64 ((v/4294967296:Nat):Int)):=by
  unfold shift
  rw[if_neg (by decide)]
  simp only
  have:min (Int.toNat 32) IntKind.u64.bits=32:=by decide
  rw[this]
  rw[show (2:Int) ^ 32=4294967296 by decide,e2]
 simp -implicitDefEqProofs only[go_sem,υ,δ,γ,η,θ,ζ,reduceCtorEq,DO,asU,asV,WQ,e1,hsh,e3]
 have hb:(2:Nat)*1≤16777216:=by decide
 simp -implicitDefEqProofs only[go_sem,γ,asW]
 refine aB (hlen [v%4294967296,v/4294967296] hL (by simp)) rfl ?_
 have hl:=eO hL
 rw[hval] at hl ⊢
 have hc:((nl v:Nat):Int)≤((2:Nat):Int):=by simp at hl; omega
 simp -implicitDefEqProofs only[go_sem,ν,δ,γ,reduceCtorEq,hc,or_true,bgV]
 refine bZ (.inr rfl) rfl ?_
 have:=hQ hL
 rw[hval] at this
 rw[← this,aeK]
 rfl
theorem aVV {C:Ctx} (xs:List Nat) (hx:Lim xs) (hl:xs.length≤16777216) (hlen:aI C 138 [aF xs] .nil (aL (.int .i64 (nl (val xs):Nat)))) :
  DP.wp C (aX WT.res (bY (aF (aG (val xs))))) (PF.args [aF xs]) .nil:=by
 simp -implicitDefEqProofs only[go_sem,reduceCtorEq,DP,atO,atQ,WT]
 refine aB hlen rfl ?_
 have hn:=eO hx
 have hc:((nl (val xs):Nat):Int)≤(xs.length:Nat):=by omega
 simp -implicitDefEqProofs only[go_sem,ν,γ,reduceCtorEq,hc,or_true,bgV]
 refine fB (rows:=[]) (src:=aE (aG (val xs))) .nil ?_ ?_ fun v H' ho _=>?_
 ·simp -implicitDefEqProofs only[go_sem]
  rw[← hQ hx,← List.map_take]
 ·unfold roomFor
  rw[bQ]
  have:(aG (val xs)).length=nl (val xs):=rfl
  simp only[bhR,maxLen]
  omega
 ·exact nA (.inr rfl) (by simpa using ho) rfl
end Go.PM
namespace Go.PM
open Go Go.Na
def aLA (xs ys:List Nat) (i:Int):PF:=(((PF.nil.set 0 (aF xs)).set 1 (aF ys)).set 7 (.int .i64 i))
theorem a0W {C:Ctx} (xs ys:List Nat) (hx:Lim xs) (hy:Lim ys) (lx:xs.length≤16777216) (ly:ys.length≤16777216) (hlx:aI C 138 [aF xs] .nil (aL (.int .i64 (nl (val xs):Nat)))) (hly:aI C 138 [aF ys] .nil (aL (.int .i64 (nl (val ys):Nat)))) :
  IB.wp C (aX asJ.res (aL (.int .i64 (dD (val xs) (val ys))))) (PF.args [aF xs,aF ys]) .nil:=by
 simp -implicitDefEqProofs only[go_sem,reduceCtorEq,IB,aFL,aFM,asJ]
 refine aB hlx (by simp -implicitDefEqProofs only[go_sem,γ]<;>rfl) ?_
 simp -implicitDefEqProofs only[go_sem,γ]
 refine aB hly (by simp -implicitDefEqProofs only[go_sem,γ]<;>rfl) ?_
 simp -implicitDefEqProofs only[go_sem,γ,aFN]
 have bx:=eO hx
 have by':=eO hy
 by_cases c1:nl (val xs)<nl (val ys)
 ·have c1':((nl (val xs):Nat):Int)<(nl (val ys):Nat):=by omega
  simp -implicitDefEqProofs only[go_sem,ο,c1',aFO]
  refine bZ (.inr rfl) (by simp -implicitDefEqProofs only[go_sem,ο,γ]<;>rfl) ?_
  have:val xs<val ys:=by
   rcases bgI (val xs) (val ys) with h | h
   ·exact h
   ·have:=gK h; omega
  simp[cN,dD,this]
 have c1':¬ ((nl (val xs):Nat):Int)<(nl (val ys):Nat):=by omega
 simp -implicitDefEqProofs only[go_sem,γ,c1',aFP]
 by_cases c2:nl (val xs)>nl (val ys)
 ·have c2':((nl (val xs):Nat):Int)>(nl (val ys):Nat):=by omega
  simp -implicitDefEqProofs only[go_sem,c2',aFQ]
  refine bZ (.inr rfl) (by simp -implicitDefEqProofs only[go_sem,γ]<;>rfl) ?_
  have:val ys<val xs:=by
   rcases bgI (val ys) (val xs) with h | h
   ·exact h
   ·have:=gK h; omega
  have h2:¬ val xs<val ys:=by omega
  simp[cN,dD,this,h2]
 have c2':¬ ((nl (val xs):Nat):Int)>(nl (val ys):Nat):=by omega
 have hn:nl (val xs)=nl (val ys):=by omega
 simp -implicitDefEqProofs only[go_sem,γ,c2',aFR]
 have ex:=aY (val xs)
 have ey:=aY (val ys)
 have LX:=bE (val xs)
 have LY:=bE (val ys)
 refine wp_loop (α:=Nat) (fun k=>aLA xs ys ((k:Int)-1)) (fun _=>.nil) (fun k=>k≤nl (val xs)∧(aG (val xs)).drop k=(aG (val ys)).drop k) (fun k=>k) (nl (val xs)) ⟨bfX _,?_⟩ ?_ PH.nil_le ?_
 ·rw[bjA (by rw[nl]; exact bfX _),bjA (by rw[hn,nl]; exact bfX _)]
 ·unfold aLA
  (repeat' (first|exact PF.nil_le|refine PF.aA ?_ ?_))<;>first|(simp -implicitDefEqProofs only[go_sem,γ,reduceCtorEq,wrap_i64 (show -9223372036854775808≤((nl (val xs):Nat):Int)-1 by omega) (show ((nl (val xs):Nat):Int)-1≤9223372036854775807 by omega)]<;>rfl)|rfl
 rintro k ⟨hk,hd⟩
 simp -implicitDefEqProofs only[go_sem,γ,reduceCtorEq,asK,aFS,aLA]
 by_cases h0:0<k
 ·obtain⟨m,rfl⟩:∃ m,k=m+1:=⟨k-1,by omega⟩
  have hz:((m+1:Nat):Int)-1=(m:Int):=by omega
  have hge:(m:Int)≥0:=by omega
  obtain⟨x1,x2,x3⟩:=akY hx (show m<nl (val xs) by omega)
  obtain⟨y1,y2,y3⟩:=akY hy (show m<nl (val ys) by omega)
  simp -implicitDefEqProofs only[go_sem,hz,hge]
  refine cD .nil dS PH.nil_le ?_
  simp -implicitDefEqProofs only[go_sem,γ,reduceCtorEq,aFT,bJ xs x1,bJ ys y1]
  by_cases c3:xs[m]<ys[m]
  ·simp -implicitDefEqProofs only[go_sem,ο,show ((xs[m]:Nat):Int)<(ys[m]:Nat) by omega,aFU]
   refine bZ (.inr rfl) (by simp -implicitDefEqProofs only[go_sem,ο,γ,reduceCtorEq]<;>rfl) ?_
   have:=TF LX x2 y2 hd (by rw[← x3,← y3]; exact c3)
   rw[ex,ey] at this
   simp[cN,dD,this]
  ·simp -implicitDefEqProofs only[go_sem,show ¬ ((xs[m]:Nat):Int)<(ys[m]:Nat) by omega]
   refine cD .nil dS PH.nil_le ?_
   simp -implicitDefEqProofs only[go_sem,γ,reduceCtorEq,asL,bJ xs x1,bJ ys y1]
   by_cases c4:xs[m]>ys[m]
   ·simp -implicitDefEqProofs only[go_sem,show ((xs[m]:Nat):Int)>(ys[m]:Nat) by omega,asM]
    refine bZ (.inr rfl) (by simp -implicitDefEqProofs only[go_sem,γ,reduceCtorEq]<;>rfl) ?_
    have:=TF LY y2 x2 hd.symm (by rw[← x3,← y3]; exact c4)
    rw[ex,ey] at this
    have h2:¬ val xs<val ys:=by omega
    simp[cN,dD,this,h2]
   ·simp -implicitDefEqProofs only[go_sem,γ,reduceCtorEq,show ¬ ((xs[m]:Nat):Int)>(ys[m]:Nat) by omega,asN]
    refine aJ m ⟨by omega,abU x2 y2 hd (by rw[← x3,← y3]; omega)⟩ (by omega) ?_ PH.nil_le
    (repeat' (first|exact PF.nil_le|refine PF.aA ?_ ?_))<;>first|(simp -implicitDefEqProofs only[go_sem,γ,reduceCtorEq,wrap_i64 (show -9223372036854775808≤(m:Int)-1 by omega) (show (m:Int)-1≤9223372036854775807 by omega)]<;>rfl)|rfl
 ·have:k=0:=by omega
  subst this
  have hz:¬ ((0:Nat):Int)-1≥0:=by decide
  simp -implicitDefEqProofs only[go_sem,hz,asO]
  refine bZ (.inr rfl) (by simp -implicitDefEqProofs only[go_sem,γ,reduceCtorEq]<;>rfl) ?_
  rw[bgV,bgV] at hd
  have:val xs=val ys:=by rw[← ex,← ey,hd]
  simp[cN,dD,this]
def arY (k:Nat) (v:Nat):PF:=((PF.nil.set 4 (.int .i64 k)).set 5 (.int .u32 v))
theorem aVQ {C:Ctx} (xs:List Nat) (hx:Lim xs) (lx:xs.length≤16777216) (hlx:aI C 138 [aF xs] .nil (aL (.int .i64 (nl (val xs):Nat)))) :
  DH.wp C (aX WF.res (aL (.int .i64 (cA (val xs):Nat)))) (PF.args [aF xs]) .nil:=by
 simp -implicitDefEqProofs only[go_sem,reduceCtorEq,DH,asA,asB,WF]
 refine aB hlx (by simp -implicitDefEqProofs only[go_sem,γ]<;>rfl) ?_
 simp -implicitDefEqProofs only[go_sem,γ,asC]
 have bx:=eO hx
 by_cases c1:nl (val xs)=0
 ·simp -implicitDefEqProofs only[go_sem,bP (show ((nl (val xs):Nat):Int)=0 by omega),asD]
  refine bZ (.inr rfl) (by simp -implicitDefEqProofs only[go_sem,γ]<;>rfl) ?_
  have:val xs=0:=iT.1 c1
  simp[cN,this,iW]
 obtain⟨n,hn⟩:∃ n,nl (val xs)=n+1:=⟨nl (val xs)-1,by omega⟩
 obtain⟨t,ht,ht0⟩:=avG hx hn
 have htl:t<4294967296:=hx t (biF ht)
 have hnl:n<xs.length:=by omega
 have hv:val xs=val (xs.take n)+4294967296 ^ n*t:=by
  have e:=hQ hx
  have:=aY (val xs)
  have hg:xs[n]=t:=by rw[bgF hnl] at ht; exact biA.inj ht
  rw[← e,hn,biG hnl,hg,eZ,bgJ,bhT (by omega)] at this
  simp only[val,Nat.mul_zero,bhY] at this
  exact this.symm
 have hb:cA (val xs)=32*n+cA t:=by
  have h3:=eD (hx.take n)
  rw[bgJ,bhT (by omega)] at h3
  rw[hv,show (4294967296:Nat) ^ n=2 ^ (32*n) by rw[Nat.pow_mul]] at *
  exact akZ h3 ht0
 have hrow:(aE xs)[n]?=some [.int .u32 (t:Nat)]:=by
  rw[bJ xs hnl]
  rw[bgF hnl] at ht
  rw[biA.inj ht]
 have e1:IntKind.i64.wrap (((nl (val xs):Nat):Int)-1)=(n:Int):=by rw[wrap_i64 (by omega) (by omega)]; omega
 have e2:IntKind.i64.wrap ((n:Int)*32)=((32*n:Nat):Int):=by rw[wrap_i64 (by omega) (by omega)]; omega
 simp -implicitDefEqProofs only[go_sem,γ,reduceCtorEq,bD (show ((nl (val xs):Nat):Int)≠0 by omega),asE,asF,e1,e2,hrow]
 refine wp_loop (α:=Nat × Nat) (fun a=>arY a.1 a.2) (fun _=>.nil) (fun a=>a.1+cA a.2=32*n+cA t∧a.2<4294967296) (fun a=>a.2) (32*n,t) ⟨rfl,htl⟩ ?_ PH.nil_le ?_
 ·unfold arY
  (repeat' (first|exact PF.nil_le|refine PF.aA ?_ ?_))<;>first|(simp -implicitDefEqProofs only[go_sem,γ]<;>rfl)|rfl
 rintro⟨k,v⟩ ⟨hk,hlt⟩
 simp only at hk hlt
 have hk32:cA t≤32:=(jQ t 32).2 htl
 simp -implicitDefEqProofs only[go_sem,γ,arZ,asG,arY]
 by_cases c2:(v:Int)>0
 ·have hv0:v≠0:=by omega
  have hsh:PV.bin .shr (.int .u32 (v:Int)) (.int .u64 1)=some (.int .u32 ((v/2:Nat):Int)):=by
   show shift .shr .u32 (v:Int) 1=_
   unfold shift
   rw[if_neg (by decide)]
   simp only
   have:min (Int.toNat 1) IntKind.u32.bits=1:=by decide
   rw[this,show (2:Int) ^ 1=2 by decide,Int.fdiv_eq_ediv_of_nonneg _ (by decide)]
   rfl
  have hsh':shift .shr .u32 (v:Int) 1=some (.int .u32 ((v/2:Nat):Int)):=hsh
  simp -implicitDefEqProofs only[go_sem,γ,c2,asH,asI,hsh,hsh',aN (show k<9223372036854775807 by omega)]
  refine aJ (k+1,v/2) ⟨?_,?_⟩ (Nat.div_lt_self (by omega) (by decide)) ?_ PH.nil_le
  ·have:=oA hv0
   simp only; omega
  ·simp only; omega
  ·(repeat' (first|exact PF.nil_le|refine PF.aA ?_ ?_))<;>first|(simp -implicitDefEqProofs only[go_sem,γ]<;>rfl)|rfl
 ·have:v=0:=by omega
  subst this
  simp -implicitDefEqProofs only[go_sem,γ,c2,aeL]
  refine bZ (.inr rfl) (by simp -implicitDefEqProofs only[go_sem,γ]<;>rfl) ?_
  rw[iW] at hk
  simp only[cN,PV.int.injEq,true_and]
  omega
end Go.PM
namespace Go.PM
open Go Go.Na
structure nP (C:Ctx):Prop where
 length:∀ xs,Lim xs→xs.length≤16777216→aI C 138 [aF xs] .nil (aL (.int .i64 (nl (val xs):Nat)))
 large:∀ xs,Lim xs→xs.length≤16777216→aI C 137 [aF xs] .nil (aL (.bool (decide (nl (val xs)>512))))
 sized:∀ xs,Lim xs→xs.length≤16777216→aI C 141 [aF xs] .nil (aL (szV (val xs)))
 trim:∀ xs,Lim xs→xs.length≤16777216→aI C 135 [aF xs] .nil (aL (aF (aG (val xs))))
 make:∀ v:Nat,v<18446744073709551616→aI C 132 [.int .u64 v] .nil (aL (aF (aG v)))
 cmp:∀ xs ys,Lim xs→Lim ys→xs.length≤16777216→ys.length≤16777216→aI C 129 [aF xs,aF ys] .nil (aL (.int .i64 (dD (val xs) (val ys))))
def jD:PV→List Nat
 | .sl _ rows=>rows.map fun r=>match r with | [.int _ n]=>n.toNat | _=>0
 | _=>[]
theorem eH (xs:List Nat):jD (aF xs)=xs:=by
 simp[jD,List.map_map,Function.comp_def]
def aKZ:Spec:=fun name vs=>match name,vs with
 | 138,[x]=>some ([],fun _=>aL (.int .i64 (nl (val (jD x)):Nat)))
 | _,_=>none
theorem lJ (xs:List Nat):aKZ 138 [aF xs]=some ([],fun _=>aL (.int .i64 (nl (val xs):Nat))):=by
 show some _=_; rw[eH]
theorem uC (P:List Nat) (k v:Nat):(P++bfV (k+1) 0).set P.length v=(P++[v])++bfV k 0:=by
 rw[biU _ _ (bfX _),Nat.sub_self,List.replicate_succ,List.set_cons_zero,bgY]
 rfl
theorem eP (L:List Nat) (i v:Nat):(aE L).set i [.int .u32 (v:Int)]=aE (L.set i v):=by
 unfold aE; rw[List.map_set]
theorem gI (P:List Nat) (v:Nat):val (P++[v])=val P+4294967296 ^ P.length*v:=by
 rw[eZ]; simp[val]
theorem bT (xs:List Nat) {i:Nat} (h:i<xs.length):val (xs.take (i+1))=val (xs.take i)+4294967296 ^ i*xs[i]:=by
 rw[biG h,gI,bgJ,bhT (by omega)]
theorem tH {v:Nat}:shift .shr .u64 (v:Int) 32=some (.int .u64 ((v/4294967296:Nat):Int)):=by
 unfold shift
 rw[if_neg (by decide)]
 simp only
 have:min (Int.toNat 32) IntKind.u64.bits=32:=by decide
 rw[this,show (2:Int) ^ 32=4294967296 by decide,Int.fdiv_eq_ediv_of_nonneg _ (by decide)]
 rfl
theorem eE {a b:Nat} (h:a+b<18446744073709551616):IntKind.u64.wrap ((a:Int)+(b:Int))=((a+b:Nat):Int):=by
 rw[wrap_u64 (by omega) (by omega)]; omega
theorem aZ {a:Nat} (h:a<18446744073709551616):IntKind.u64.wrap (a:Int)=(a:Int):=wrap_u64 (by omega) (by omega)
def WE (a b:List Nat) (o i c:Nat):PF:=(((((((PF.nil.set 0 (aF a)).set 1 (aF b)).set 6 (.osl o 1 0 (a.length+1))).set 7 (.int .u64 c)).set 35 (.int .i64 (a.length:Nat))).set 34 (aF a)).set 36 (.int .i64 i))
theorem aeJ {C:Ctx} (L:nP C) (a b:List Nat) (ha:Lim a) (hb:Lim b) (hl:b.length≤a.length) (h1:a.length≤1000) (F:PF) (f0:F 0=some (aF a)) (f1:F 1=some (aF b)) :
  aD.wp C (.seq (.region aaL) (.seq (.region aaM) (.seq (.seq (.region aaN) (.block 0 (.loop RH))) (.seq (.region RL) (.seq (.region RM) .ret))))) (aX [.tmp 4,.tmp 5] (bY (szV (val a+val b)))) F .nil:=by
 have hlen:IntKind.i64.wrap ((a.length:Int)+1)=((a.length+1:Nat):Int):=aN (by omega)
 have hm1:((a.length+1:Nat):Int)*((4:Nat):Int)≤140737488355328:=by omega
 have hm2:((a.length+1:Nat):Int)≤9223372036854775807:=by omega
 have hz:bfV (a.length+1) [PV.int .u32 0]=aE ([]++bfV (a.length+1) 0):=by
  simp[aE]
 simp -implicitDefEqProofs only[go_sem,γ,aaL,f0,hlen,hm1,hm2,hz]
 refine aP fun o ho=>?_
 simp -implicitDefEqProofs only[go_sem,γ,reduceCtorEq,aaM,aaN,f0]
 refine wp_loop (α:=List Nat × Nat × Nat) (fun s=>WE a b s.2.2 s.1.length s.2.1) (fun s=>PH.nil.set s.2.2 (.rows 1 (aE (s.1++bfV (a.length+1-s.1.length) 0))))
  (fun s=>s.1.length≤a.length∧Lim s.1∧s.2.1≤1∧val s.1+4294967296 ^ s.1.length*s.2.1=val (a.take s.1.length)+val (b.take s.1.length)) (fun s=>a.length-s.1.length) ([],0,o) ⟨by simp,by simp[Lim],by simp,by simp[val]⟩ ?_ ?_ ?_
 ·unfold WE
  repeat' first|exact PF.nil_le|refine PF.aA ?_ ?_|rfl|assumption
 ·exact PH.aA PH.nil_le (by simp -implicitDefEqProofs only[go_sem,bhR])
 rintro⟨P,c,q⟩ ⟨hP,hLim,hc,hval⟩
 simp only at hP hLim hc hval
 simp -implicitDefEqProofs only[go_sem,γ,reduceCtorEq,RH,aFK,WE]
 by_cases c1:P.length<a.length
 ·have c1':(P.length:Int)<(a.length:Nat):=by omega
  have hai:=ha _ (bgA c1)
  obtain⟨k,hk⟩:∃ k,a.length+1-P.length=k+1:=⟨a.length-P.length,by omega⟩
  have hin:(aE (P++bfV (k+1) 0))[P.length]?=some [.int .u32 ((0:Nat):Int)]:=by
   rw[bJ _ (by simp)]; simp
  have hlast:a.length+1-(P.length+1)=k:=by omega
  have c2':(P.length:Int)<((a.length+1:Nat):Int):=by omega
  have fin:∀ (t:Nat) (F':PF) (H':PH),t<2*4294967296→val P+4294967296 ^ P.length*t=val (a.take (P.length+1))+val (b.take (P.length+1)) →
    F' 0=some (aF a)→F' 1=some (aF b)→F' 6=some (.osl q 1 0 (a.length+1))→F' 7=some (.int .u64 (t:Nat))→F' 8=some (.int .i64 P.length)→F' 34=some (aF a)→F' 35=some (.int .i64 (a.length:Nat))→F' 36=some (.int .i64 P.length) →
    H' q=some (.rows 1 (aE (P++bfV (k+1) 0)))→∀ K:cC,(∀ P' c' F2 H2,P'.length=P.length+1→Lim P'→c'≤1→val P'+4294967296 ^ P'.length*c'=val (a.take (P.length+1))+val (b.take (P.length+1))→(WE a b q P'.length c').le F2→H2 q=some (.rows 1 (aE (P'++bfV k 0)))→K .normal F2 H2) →
    aD.wp C (.seq (.region RI) (.region RJ)) (eG 1 (jL C (aD.wp C (.region RK)) K)) F' H':=by
   intro t F' H' ht hv g0 g1 g6 g7 g8 g34 g35 g36 gH K hK
   have hrow:(aE (P++bfV (k+1) 0)).set P.length [.int .u32 ((t%4294967296:Nat):Int)]=aE ((P++[t%4294967296])++bfV k 0):=by
    rw[eP,uC]
   simp -implicitDefEqProofs only[go_sem,γ,RI,g6,g8,g7,bX,c2',gH,hin,hrow,RJ,tH,RK,g36,aN (show P.length<9223372036854775807 by omega)]
   refine hK (P++[t%4294967296]) (t/4294967296) _ _ (by simp) (hLim.app fun x hx=>by simp at hx; subst hx; exact bgX _ (by decide)) (by omega) ?_ ?_ (by simp -implicitDefEqProofs only[go_sem])
   ·rw[gI,bfW,bfZ,bhH,bgK,bhX,← bgC,Nat.mod_add_div]
    exact hv
   ·unfold WE
    rw[bfW,bfZ]
    refine PF.aA (PF.aA (PF.aA (PF.aA (PF.aA (PF.aA (PF.aA PF.nil_le ?_) ?_) ?_) ?_) ?_) ?_) ?_<;>simp -implicitDefEqProofs only[go_sem,γ,reduceCtorEq,g0,g1,g6,g34,g35]
  have hta:=bT a c1
  have ea:IntKind.u64.wrap ((a[P.length]:Nat):Int)=((a[P.length]:Nat):Int):=aZ (by omega)
  have es:IntKind.u64.wrap ((c:Nat)+((a[P.length]:Nat):Int))=((c+a[P.length]:Nat):Int):=eE (by omega)
  simp -implicitDefEqProofs only[go_sem,γ,reduceCtorEq,c1',arU,arV,bJ a c1,ea,es,arW]
  by_cases c3:P.length<b.length
  ·have c3':(P.length:Int)<(b.length:Nat):=by omega
   have hbi:=hb _ (bgA c3)
   have htb:=bT b c3
   have eb:IntKind.u64.wrap ((b[P.length]:Nat):Int)=((b[P.length]:Nat):Int):=aZ (by omega)
   have es2:IntKind.u64.wrap (((c+a[P.length]:Nat):Int)+((b[P.length]:Nat):Int))=((c+a[P.length]+b[P.length]:Nat):Int):=eE (by omega)
   simp -implicitDefEqProofs only[go_sem,γ,reduceCtorEq,c3',arX,bJ b c3,eb,es2]
   refine fin (c+a[P.length]+b[P.length]) _ _ (by omega) ?_ ?_ ?_ ?_ ?_ ?_ ?_ ?_ ?_ ?_ _ ?_
   ·rw[hta,htb,bgC,bgC]; omega
   any_goals simp -implicitDefEqProofs only[go_sem,γ,reduceCtorEq,hk]
   intro P' c' F2 H2 e1 e2 e3 e4 e5 e6
   rw[← e1] at e4
   refine aJ (P',c',q) ⟨by simp only; omega,e2,e3,e4⟩ (by simp only; omega) e5 (PH.aA PH.nil_le ?_)
   simp only
   rw[e1,hlast]; exact e6
  ·have c3':¬ (P.length:Int)<(b.length:Nat):=by omega
   have htb:val (b.take (P.length+1))=val (b.take P.length):=by rw[bgH (by omega),bgH (by omega)]
   simp -implicitDefEqProofs only[go_sem,c3']
   refine fin (c+a[P.length]) _ _ (by omega) ?_ ?_ ?_ ?_ ?_ ?_ ?_ ?_ ?_ ?_ _ ?_
   ·rw[hta,htb,bgC]; omega
   any_goals simp -implicitDefEqProofs only[go_sem,γ,reduceCtorEq,hk]
   intro P' c' F2 H2 e1 e2 e3 e4 e5 e6
   rw[← e1] at e4
   refine aJ (P',c',q) ⟨by simp only; omega,e2,e3,e4⟩ (by simp only; omega) e5 (PH.aA PH.nil_le ?_)
   simp only
   rw[e1,hlast]; exact e6
 ·have e:P.length=a.length:=by omega
  have c1':¬ (P.length:Int)<(a.length:Nat):=by omega
  have hk:bfV (a.length+1-P.length) 0=[0]:=by rw[show a.length+1-P.length=1 by omega]; rfl
  have hin:(aE (P++[0]))[a.length]?=some [.int .u32 ((0:Nat):Int)]:=by
   rw[bJ _ (by simp; omega)]
   simp[e]
  have hrow:(aE (P++[0])).set a.length [.int .u32 ((c%4294967296:Nat):Int)]=aE (P++[c]):=by
   have:=uC P 0 (c%4294967296)
   simp only[List.replicate_zero,bhN,bgQ,List.replicate_one] at this
   rw[← e,eP,this,bgW (by omega)]
  have c2':(a.length:Int)<((a.length+1:Nat):Int):=by omega
  have hV:val (P++[c])=val a+val b:=by
   rw[gI,hval,e,bhB,bgH hl]
  have hLc:Lim (P++[c]):=hLim.app fun x hx=>by simp at hx; omega
  simp -implicitDefEqProofs only[go_sem,γ,reduceCtorEq,c1',RL,bX,hk,hin,c2',hrow,RM]
  have hs:=L.sized _ hLc (by simp; omega)
  rw[hV] at hs
  refine nE (o:=q) (s:=1) (k:=a.length+1) (rs:=aE (P++[c])) (v:=szV (val a+val b)) ?_ rfl (by simp -implicitDefEqProofs only[go_sem]) (by rw[bQ]; simp; omega) ?_
  ·rw[bgH (by rw[bQ]; simp; omega)]; exact hs
  ·simp -implicitDefEqProofs only[go_sem,γ,reduceCtorEq,szV]
   exact aW (.inr rfl) .nil rfl PH.nil_le ⟨.refl _,rfl⟩
end Go.PM
namespace Go.PM
open Go Go.Na
def opV (big:Bool) (n:Nat):PV:=if big then .tup [aF [],.int .i64 2] else szV n
def eK (a b:Nat):Bool:=decide (nl a>512)||decide (nl b>512)
theorem gU {res:List dC} {F:PF} {H:PH} {e:Int} (h:dC.evs F H res=some [.nils,.int .i64 e]):aX res (bY (.tup [aF [],.int .i64 e])) .ret F H:=by
 refine aW (.inr rfl) .nil h PH.nil_le ⟨?_,rfl⟩
 refine .tup rfl fun j p q hp hq=>?_
 match j with
 | 0=>simp at hp hq; subst hp; subst hq; exact .nil 1
 | 1=>simp at hp hq; subst hp; subst hq; exact .refl _
 | j+2=>simp at hp
theorem bH (n:Nat):(aG n).length=nl n:=rfl
theorem gF {xs:List Nat} (h:Lim xs):(xs.map fun (n:Nat)=>[PV.int .u32 (n:Int)]).take (nl (val xs))=(aG (val xs)).map fun (n:Nat)=>[PV.int .u32 (n:Int)]:=by
 rw[← List.map_take,hQ h]
theorem a0T {C:Ctx} (L:nP C) (a b:List Nat) (ha:Lim a) (hb:Lim b) (la:a.length≤16777216) (lb:b.length≤16777216) :
  IA.wp C (aX arT.res (bY (opV (eK (val a) (val b)) (val a+val b)))) (PF.args [aF a,aF b]) .nil:=by
 simp -implicitDefEqProofs only[go_sem,reduceCtorEq,IA,aFF,aFG,arT]
 refine aB (L.large a ha la) rfl ?_
 by_cases c1:nl (val a)>512
 ·simp -implicitDefEqProofs only[go_sem,γ,c1,aaK]
  rw[show opV (eK (val a) (val b)) (val a+val b)=.tup [aF [],.int .i64 2] by simp[opV,eK,c1]]
  exact gU rfl
 simp -implicitDefEqProofs only[go_sem,γ,c1]
 refine aB (L.large b hb lb) rfl ?_
 by_cases c2:nl (val b)>512
 ·simp -implicitDefEqProofs only[go_sem,γ,reduceCtorEq,c2,aaK]
  rw[show opV (eK (val a) (val b)) (val a+val b)=.tup [aF [],.int .i64 2] by simp[opV,eK,c2]]
  exact gU rfl
 have e:opV (eK (val a) (val b)) (val a+val b)=szV (val a+val b):=by simp[opV,eK,c1,c2]
 rw[e]
 simp -implicitDefEqProofs only[go_sem,γ,reduceCtorEq,c2]
 refine cD .nil aKZ PH.nil_le ?_
 simp -implicitDefEqProofs only[go_sem,reduceCtorEq,aFH]
 have h1:=eO ha
 have h2:=eO hb
 have h1':((nl (val a):Nat):Int)≤(a.length:Nat):=by omega
 have h2':((nl (val b):Nat):Int)≤(b.length:Nat):=by omega
 refine cU (lJ a) (L.length a ha la) rfl PH.nil_le ?_
 simp -implicitDefEqProofs only[go_sem,ν,γ,reduceCtorEq,h1',or_true,bgV,gF ha]
 refine cU (lJ b) (L.length b hb lb) rfl PH.nil_le ?_
 simp -implicitDefEqProofs only[go_sem,ν,γ,reduceCtorEq,h2',or_true,bgV,gF hb,aFI,bH]
 have va:=aY (val a)
 have vb:=aY (val b)
 by_cases c3:nl (val a)<nl (val b)
 ·have c3':((nl (val a):Nat):Int)<(nl (val b):Nat):=by omega
  simp -implicitDefEqProofs only[go_sem,γ,reduceCtorEq,c3',aFJ]
  have:=aeJ L (aG (val b)) (aG (val a)) (bE _) (bE _) (by rw[bH,bH]; omega) (by rw[bH]; omega)
  rw[va,vb,Nat.add_comm] at this
  exact this _ rfl rfl
 ·have c3':¬ ((nl (val a):Nat):Int)<(nl (val b):Nat):=by omega
  simp -implicitDefEqProofs only[go_sem,c3']
  have:=aeJ L (aG (val a)) (aG (val b)) (bE _) (bE _) (by rw[bH,bH]; omega) (by rw[bH]; omega)
  rw[va,vb] at this
  exact this _ rfl rfl
end Go.PM
namespace Go.PM
open Go Go.Na
theorem eT (n:Int):IntKind.u64.wrap n=n%18446744073709551616:=by simp[IntKind.wrap,IntKind.bits,IntKind.signed]
theorem PD (n:Int):IntKind.u32.wrap n=n%4294967296:=by simp[IntKind.wrap,IntKind.bits,IntKind.signed]
theorem aMA {v:Int}:shift .shr .u64 v 63=some (.int .u64 (v/9223372036854775808)):=by
 unfold shift
 rw[if_neg (by decide)]
 simp only
 have:min (Int.toNat 63) IntKind.u64.bits=63:=by decide
 rw[this,show (2:Int) ^ 63=9223372036854775808 by decide,Int.fdiv_eq_ediv_of_nonneg _ (by decide)]
def JL (a bor b:Nat):Nat:=(a+4294967296-bor-b)%4294967296
def SE (a bor b:Nat):Nat:=if a<bor+b then 1 else 0
theorem auZ {a bor b:Nat} (ha:a<4294967296) (hb:b<4294967296) (hc:bor≤1) (v:Int) (hv:v=((a:Int)-bor-b)%18446744073709551616) :
  IntKind.u32.wrap v=((JL a bor b:Nat):Int)∧v/9223372036854775808=((SE a bor b:Nat):Int)∧a+4294967296*SE a bor b=JL a bor b+b+bor∧JL a bor b<4294967296:=by
 rw[PD]
 unfold JL SE
 split<;>omega
def WS (a b:List Nat) (o i c:Nat):PF:=(((((((PF.nil.set 0 (aF a)).set 1 (aF b)).set 6 (.osl o 1 0 a.length)).set 7 (.int .u64 c)).set 33 (aF a)).set 34 (.int .i64 (a.length:Nat))).set 35 (.int .i64 i))
theorem aPQ {C:Ctx} (L:nP C) (a b:List Nat) (ha:Lim a) (hb:Lim b) (hle:val b≤val a) (hl:b.length≤a.length) (h1:a.length≤1000) (F:PF) (f0:F 0=some (aF a)) (f1:F 1=some (aF b)) :
  aD.wp C (.seq (.region aaZ) (.seq (.region abA) (.seq (.seq (.region abB) (.block 1 (.loop RR))) (.seq (.region RV) .ret)))) (aX [.tmp 4,.tmp 5] (bY (szV (val a-val b)))) F .nil:=by
 have hm1:((a.length:Nat):Int)*((4:Nat):Int)≤140737488355328:=by omega
 have hm2:((a.length:Nat):Int)≤9223372036854775807:=by omega
 have hz:bfV a.length [PV.int .u32 0]=aE ([]++bfV a.length 0):=by
  simp[aE]
 simp -implicitDefEqProofs only[go_sem,γ,aaZ,f0,hm1,hm2,hz]
 refine aP fun o ho=>?_
 simp -implicitDefEqProofs only[go_sem,γ,reduceCtorEq,abA,abB,f0]
 refine wp_loop (α:=List Nat × Nat × Nat) (fun s=>WS a b s.2.2 s.1.length s.2.1) (fun s=>PH.nil.set s.2.2 (.rows 1 (aE (s.1++bfV (a.length-s.1.length) 0))))
  (fun s=>s.1.length≤a.length∧Lim s.1∧s.2.1≤1∧val (a.take s.1.length)+4294967296 ^ s.1.length*s.2.1=val s.1+val (b.take s.1.length)) (fun s=>a.length-s.1.length) ([],0,o) ⟨by simp,by simp[Lim],by simp,by simp[val]⟩ ?_ ?_ ?_
 ·unfold WS
  repeat' first|exact PF.nil_le|refine PF.aA ?_ ?_|rfl|assumption
 ·exact PH.aA PH.nil_le (by simp -implicitDefEqProofs only[go_sem,bhR])
 rintro⟨P,c,q⟩ ⟨hP,hLim,hc,hval⟩
 simp only at hP hLim hc hval
 simp -implicitDefEqProofs only[go_sem,γ,reduceCtorEq,RR,aGS,WS]
 by_cases c1:P.length<a.length
 ·have c1':(P.length:Int)<(a.length:Nat):=by omega
  have hai:=ha _ (bgA c1)
  obtain⟨k,hk⟩:∃ k,a.length-P.length=k+1:=⟨a.length-P.length-1,by omega⟩
  have hin:(aE (P++bfV (k+1) 0))[P.length]?=some [.int .u32 ((0:Nat):Int)]:=by
   rw[bJ _ (by simp)]; simp
  have hlast:a.length-(P.length+1)=k:=by omega
  have hta:=bT a c1
  have fin:∀ (t:Nat) (v:Int) (F':PF) (H':PH),t<4294967296→v=((a[P.length]:Int)-c-t)%18446744073709551616→val (b.take (P.length+1))=val (b.take P.length)+4294967296 ^ P.length*t →
    F' 0=some (aF a)→F' 1=some (aF b)→F' 6=some (.osl q 1 0 a.length)→F' 9=some (.int .u64 v)→F' 8=some (.int .i64 P.length)→F' 33=some (aF a)→F' 34=some (.int .i64 (a.length:Nat))→F' 35=some (.int .i64 P.length) →
    H' q=some (.rows 1 (aE (P++bfV (k+1) 0)))→∀ K:cC,(∀ P' c' F2 H2,P'.length=P.length+1→Lim P'→c'≤1→val (a.take (P.length+1))+4294967296 ^ P'.length*c'=val P'+val (b.take (P.length+1))→(WS a b q P'.length c').le F2→H2 q=some (.rows 1 (aE (P'++bfV k 0)))→K .normal F2 H2) →
    aD.wp C (.seq (.region RS) (.region RT)) (eG 2 (jL C (aD.wp C (.region RU)) K)) F' H':=by
   intro t v F' H' ht hv htb g0 g1 g6 g9 g8 g33 g34 g35 gH K hK
   obtain⟨e1,e2,e3,e4⟩:=auZ hai ht hc v hv
   have hrow:(aE (P++bfV (k+1) 0)).set P.length [.int .u32 ((JL a[P.length] c t:Nat):Int)]=aE ((P++[JL a[P.length] c t])++bfV k 0):=by
    rw[eP,uC]
   simp -implicitDefEqProofs only[go_sem,γ,RS,g6,g8,g9,e1,c1',gH,hin,hrow,RT,aMA,e2,RU,g35,aN (show P.length<9223372036854775807 by omega)]
   refine hK (P++[JL a[P.length] c t]) (SE a[P.length] c t) _ _ (by simp) (hLim.app fun x hx=>by simp at hx; subst hx; exact e4) (by unfold SE; split<;>omega) ?_ ?_ (by simp -implicitDefEqProofs only[go_sem])
   ·rw[gI,bfW,bfZ,bhH,bgK,hta,htb,bhX,← bgC,e3,bgC,bgC]
    omega
   ·unfold WS
    rw[bfW,bfZ]
    refine PF.aA (PF.aA (PF.aA (PF.aA (PF.aA (PF.aA (PF.aA PF.nil_le ?_) ?_) ?_) ?_) ?_) ?_) ?_<;>simp -implicitDefEqProofs only[go_sem,γ,reduceCtorEq,g0,g1,g6,g33,g34]
  have ea:IntKind.u64.wrap ((a[P.length]:Nat):Int)=((a[P.length]:Nat):Int):=aZ (by omega)
  simp -implicitDefEqProofs only[go_sem,γ,reduceCtorEq,c1',atH,atI,bJ a c1,ea,atJ]
  by_cases c3:P.length<b.length
  ·have c3':(P.length:Int)<(b.length:Nat):=by omega
   have hbi:=hb _ (bgA c3)
   have htb:=bT b c3
   have eb:IntKind.u64.wrap ((b[P.length]:Nat):Int)=((b[P.length]:Nat):Int):=aZ (by omega)
   simp -implicitDefEqProofs only[go_sem,γ,reduceCtorEq,c3',atK,bJ b c3,eb]
   refine fin b[P.length] (IntKind.u64.wrap (IntKind.u64.wrap ((a[P.length]:Int)-(c:Int))-(b[P.length]:Int))) _ _ hbi (by rw[eT,eT]; omega) htb ?_ ?_ ?_ ?_ ?_ ?_ ?_ ?_ ?_ _ ?_
   any_goals simp -implicitDefEqProofs only[go_sem,γ,reduceCtorEq,hk]
   intro P' c' F2 H2 e1 e2 e3 e4 e5 e6
   rw[← e1] at e4
   refine aJ (P',c',q) ⟨by simp only; omega,e2,e3,e4⟩ (by simp only; omega) e5 (PH.aA PH.nil_le ?_)
   simp only
   rw[e1,hlast]; exact e6
  ·have c3':¬ (P.length:Int)<(b.length:Nat):=by omega
   have htb:val (b.take (P.length+1))=val (b.take P.length)+4294967296 ^ P.length*0:=by rw[bgH (by omega),bgH (by omega)]; simp
   simp -implicitDefEqProofs only[go_sem,c3']
   refine fin 0 (IntKind.u64.wrap ((a[P.length]:Int)-(c:Int))) _ _ (by decide) (by rw[eT]; omega) htb ?_ ?_ ?_ ?_ ?_ ?_ ?_ ?_ ?_ _ ?_
   any_goals simp -implicitDefEqProofs only[go_sem,γ,reduceCtorEq,hk]
   intro P' c' F2 H2 e1 e2 e3 e4 e5 e6
   rw[← e1] at e4
   refine aJ (P',c',q) ⟨by simp only; omega,e2,e3,e4⟩ (by simp only; omega) e5 (PH.aA PH.nil_le ?_)
   simp only
   rw[e1,hlast]; exact e6
 ·have e:P.length=a.length:=by omega
  have c1':¬ (P.length:Int)<(a.length:Nat):=by omega
  have hk:bfV (a.length-P.length) 0=[]:=by rw[show a.length-P.length=0 by omega]; rfl
  have hV:val P=val a-val b:=by
   rw[e,bhB,bgH hl] at hval
   have hlt:=eD hLim
   rw[e] at hlt
   rcases biB c with h | h
   ·subst h; omega
   ·have:c=1:=by omega
    subst this; omega
  simp -implicitDefEqProofs only[go_sem,γ,reduceCtorEq,c1',hk,bhN,RV]
  have hs:=L.sized _ hLim (by omega)
  rw[hV] at hs
  refine nE (o:=q) (s:=1) (k:=a.length) (rs:=aE P) (v:=szV (val a-val b)) ?_ rfl (by simp -implicitDefEqProofs only[go_sem]) (by rw[bQ]; omega) ?_
  ·rw[bgH (by rw[bQ]; omega)]; exact hs
  ·simp -implicitDefEqProofs only[go_sem,γ,reduceCtorEq,szV]
   exact aW (.inr rfl) .nil rfl PH.nil_le ⟨.refl _,rfl⟩
def vC (a b:Nat):PV:=if eK a b then .tup [aF [],.int .i64 2] else if a<b then .tup [aF [],.int .i64 4] else szV (a-b)
theorem a1F {C:Ctx} (L:nP C) (a b:List Nat) (ha:Lim a) (hb:Lim b) (la:a.length≤16777216) (lb:b.length≤16777216) :
  IM.wp C (aX atG.res (bY (vC (val a) (val b)))) (PF.args [aF a,aF b]) .nil:=by
 simp -implicitDefEqProofs only[go_sem,reduceCtorEq,IM,aGN,aGO,atG]
 refine aB (L.large a ha la) rfl ?_
 by_cases c1:nl (val a)>512
 ·simp -implicitDefEqProofs only[go_sem,γ,c1,aaY]
  rw[show vC (val a) (val b)=.tup [aF [],.int .i64 2] by simp[vC,eK,c1]]
  exact gU rfl
 simp -implicitDefEqProofs only[go_sem,γ,c1]
 refine aB (L.large b hb lb) rfl ?_
 by_cases c2:nl (val b)>512
 ·simp -implicitDefEqProofs only[go_sem,γ,reduceCtorEq,c2,aaY]
  rw[show vC (val a) (val b)=.tup [aF [],.int .i64 2] by simp[vC,eK,c2]]
  exact gU rfl
 simp -implicitDefEqProofs only[go_sem,γ,reduceCtorEq,c2,aGP]
 refine aB (L.cmp a b ha hb la lb) rfl ?_
 by_cases c3:val a<val b
 ·have hc:dD (val a) (val b)<0:=by simp[dD,c3]
  simp -implicitDefEqProofs only[go_sem,γ,hc,aGQ]
  rw[show vC (val a) (val b)=.tup [aF [],.int .i64 4] by simp[vC,eK,c1,c2,c3]]
  exact gU rfl
 have hc:¬ dD (val a) (val b)<0:=by
  unfold dD
  rw[if_neg c3]
  split<;>decide
 rw[show vC (val a) (val b)=szV (val a-val b) by simp[vC,eK,c1,c2,c3]]
 simp -implicitDefEqProofs only[go_sem,γ,hc]
 refine cD .nil aKZ PH.nil_le ?_
 simp -implicitDefEqProofs only[go_sem,reduceCtorEq,aGR]
 have h1:=eO ha
 have h2:=eO hb
 have h1':((nl (val a):Nat):Int)≤(a.length:Nat):=by omega
 have h2':((nl (val b):Nat):Int)≤(b.length:Nat):=by omega
 refine cU (lJ a) (L.length a ha la) rfl PH.nil_le ?_
 simp -implicitDefEqProofs only[go_sem,ν,γ,reduceCtorEq,h1',or_true,bgV,gF ha]
 refine cU (lJ b) (L.length b hb lb) rfl PH.nil_le ?_
 simp -implicitDefEqProofs only[go_sem,ν,γ,reduceCtorEq,h2',or_true,bgV,gF hb]
 have va:=aY (val a)
 have vb:=aY (val b)
 have hm:=gK (show val b≤val a by omega)
 have:=aPQ L (aG (val a)) (aG (val b)) (bE _) (bE _) (by omega) (by rw[bH,bH]; omega) (by rw[bH]; omega)
 rw[va,vb] at this
 exact this _ rfl rfl
end Go.PM
namespace Go.Na
def cV:Nat→Nat→List Nat
 | 0,_=>[]
 | k+1,n=>(n%4294967296)::cV k (n/4294967296)
theorem jE:∀ k n,(cV k n).length=k
 | 0,_=>rfl
 | k+1,n=>by simp[cV,jE k]
theorem AX {xs:List Nat} (h:Lim xs):cV xs.length (val xs)=xs:=by
 induction xs with
 | nil=>rfl
 | cons x xs ih =>
  have hx:=h x (by simp)
  have e1:(x+4294967296*val xs)%4294967296=x:=by omega
  have e2:(x+4294967296*val xs)/4294967296=val xs:=by omega
  simp only[biH,cV,val]
  rw[e1,e2,ih fun y hy=>h y (by simp[hy])]
theorem kC:∀ k n,Lim (cV k n)
 | 0,_=>fun x hx=>by cases hx
 | k+1,n=>fun x hx=>by
  simp only[cV,bgD] at hx
  rcases hx with rfl | hx
  ·exact bgX _ (by decide)
  ·exact kC k _ x hx
theorem vH:∀ k n,val (cV k n)=n%4294967296 ^ k
 | 0,n=>by simp[cV,val,Nat.mod_one]
 | k+1,n=>by
  simp only[cV,val,vH k]
  rw[bhH,bgO (4294967296 ^ k) 4294967296,Nat.mod_mul]
theorem lM {k n:Nat} (h:n<4294967296 ^ k):val (cV k n)=n:=by rw[vH,bgW h]
end Go.Na
namespace Go.PM
open Go Go.Na
theorem a6I {a b:Nat} (ha:a<18446744073709551616) (hb:b<18446744073709551616):(BitVec.ofInt 64 (a:Int) ||| BitVec.ofInt 64 (b:Int)).toNat=a ||| b:=by
 rw[BitVec.ofInt_natCast,BitVec.ofInt_natCast,BitVec.toNat_or,BitVec.toNat_ofNat,BitVec.toNat_ofNat,bgW (by simpa using ha),bgW (by simpa using hb)]
theorem atX {c x s:Nat} (hc:c<2 ^ s) (h:c+2 ^ s*x<18446744073709551616):c ||| (2 ^ s*x)=c+2 ^ s*x:=by
 rw[Nat.or_comm,← Nat.two_pow_add_eq_or_of_lt hc,Nat.add_comm]
theorem orI {a b n:Nat} (ha:a<18446744073709551616) (hb:b<18446744073709551616) (h:a ||| b=n) (hn:n<18446744073709551616):jC .or .u64 (a:Int) (b:Int)=some (.int .u64 (n:Int)):=by
 show some (PV.int .u64 (IntKind.u64.wrap (((BitVec.ofInt 64 (a:Int) ||| BitVec.ofInt 64 (b:Int)).toNat:Nat):Int)))=_
 rw[a6I ha hb,h,aZ hn]
theorem DZ {x s:Nat} (hs:s≤64) (h:x*2 ^ s<18446744073709551616):shift .shl .u64 (x:Int) (s:Int)=some (.int .u64 ((2 ^ s*x:Nat):Int)):=by
 unfold shift
 rw[if_neg (by omega)]
 simp only
 have:min (Int.toNat (s:Int)) IntKind.u64.bits=s:=by
  rw[show IntKind.u64.bits=64 from rfl]; omega
 rw[this,show (x:Int)*2 ^ s=((x*2 ^ s:Nat):Int) by simp,aZ h,bgO]
def aVX (a:List Nat) (s o i c:Nat):PF:=(((((((PF.nil.set 0 (aF a)).set 1 (.int .u64 s)).set 5 (.osl o 1 0 (a.length+1))).set 6 (.int .u64 c)).set 13 (aF a)).set 14 (.int .i64 (a.length:Nat))).set 15 (.int .i64 i))
def upR (a:List Nat) (s:Nat) (r:PV) (H:PH):Prop:=∃ o,r=.osl o 1 0 (a.length+1)∧H=PH.nil.set o (.rows 1 (aE (cV (a.length+1) (val a*2 ^ s))))
theorem a4C {C:Ctx} (a:List Nat) (s:Nat) (ha:Lim a) (hs:s<32) (h1:a.length≤1000):RX.wp C (aX nup.res (upR a s)) (PF.args [aF a,.int .u64 s]) .nil:=by
 have hlen:IntKind.i64.wrap ((a.length:Int)+1)=((a.length+1:Nat):Int):=aN (by omega)
 have hm1:((a.length+1:Nat):Int)*((4:Nat):Int)≤140737488355328:=by omega
 have hm2:((a.length+1:Nat):Int)≤9223372036854775807:=by omega
 have hz:bfV (a.length+1) [PV.int .u32 0]=aE ([]++bfV (a.length+1) 0):=by
  simp[aE]
 have h2s:2 ^ s≤2147483648:=Nat.pow_le_pow_right (show 0<2 by decide) (show s≤31 by omega)
 have h2s0:0<2 ^ s:=biE (by decide)
 simp -implicitDefEqProofs only[go_sem,γ,reduceCtorEq,RX,aPR,aPS,nup,hlen,hm1,hm2,hz]
 refine aP fun o ho=>?_
 simp -implicitDefEqProofs only[go_sem,γ,reduceCtorEq,aPT,aPU]
 refine wp_loop (α:=List Nat × Nat × Nat) (fun t=>aVX a s t.2.2 t.1.length t.2.1) (fun t=>PH.nil.set t.2.2 (.rows 1 (aE (t.1++bfV (a.length+1-t.1.length) 0))))
  (fun t=>t.1.length≤a.length∧Lim t.1∧t.2.1<2 ^ s∧val t.1+4294967296 ^ t.1.length*t.2.1=val (a.take t.1.length)*2 ^ s) (fun t=>a.length-t.1.length) ([],0,o) ⟨by simp,by simp[Lim],h2s0,by simp[val]⟩ ?_ ?_ ?_
 ·unfold aVX
  (repeat' (first|exact PF.nil_le|refine PF.aA ?_ ?_))<;>first|(simp -implicitDefEqProofs only[go_sem,γ,reduceCtorEq]<;>rfl)|rfl
 ·exact PH.aA PH.nil_le (by simp -implicitDefEqProofs only[go_sem,bhR])
 rintro⟨P,c,q⟩ ⟨hP,hLim,hc,hval⟩
 simp only at hP hLim hc hval
 simp -implicitDefEqProofs only[go_sem,γ,reduceCtorEq,aGT,aPV,aVX]
 by_cases c1:P.length<a.length
 ·have c1':(P.length:Int)<(a.length:Nat):=by omega
  have hai:=ha _ (bgA c1)
  obtain⟨k,hk⟩:∃ k,a.length+1-P.length=k+1:=⟨a.length-P.length,by omega⟩
  have hin:(aE (P++bfV (k+1) 0))[P.length]?=some [.int .u32 ((0:Nat):Int)]:=by
   rw[bJ _ (by simp)]; simp
  have hlast:a.length+1-(P.length+1)=k:=by omega
  have c2':(P.length:Int)<((a.length+1:Nat):Int):=by omega
  have hta:=bT a c1
  generalize hx:a[P.length]=x at *
  have hxs:x*2 ^ s≤4294967295*2147483648:=Nat.mul_le_mul (by omega) h2s
  have ex:IntKind.u64.wrap ((x:Nat):Int)=((x:Nat):Int):=aZ (by omega)
  have hxs':2 ^ s*x=x*2 ^ s:=bgO _ _
  have esh:shift .shl .u64 (x:Int) (s:Int)=some (.int .u64 ((2 ^ s*x:Nat):Int)):=DZ (by omega) (by omega)
  have eor:=orI (a:=c) (b:=2 ^ s*x) (n:=c+2 ^ s*x) (by omega) (by omega) (atX hc (by omega)) (by omega)
  have hdig:(c+2 ^ s*x)/4294967296<2 ^ s:=by
   rw[biJ (by decide)]
   have:2 ^ s*(x+1)≤2 ^ s*4294967296:=bhZ _ (by omega)
   rw[bgC,Nat.mul_one] at this
   omega
  have hrow:(aE (P++bfV (k+1) 0)).set P.length [.int .u32 (((c+2 ^ s*x)%4294967296:Nat):Int)]=aE ((P++[(c+2 ^ s*x)%4294967296])++bfV k 0):=by
   rw[eP,uC]
  have hax:(aE a)[P.length]?=some [.int .u32 ((x:Nat):Int)]:=by rw[bJ a c1,hx]
  simp -implicitDefEqProofs only[go_sem,γ,reduceCtorEq,c1',aPW,aPX,hax,ex,esh,eor,aPY,bX,hk,c2',hin,hrow,aPZ,tH,aQA,aN (show P.length<9223372036854775807 by omega)]
  refine aJ (P++[(c+2 ^ s*x)%4294967296],(c+2 ^ s*x)/4294967296,q) ⟨by simp; omega,hLim.app fun y hy=>by simp at hy; subst hy; exact bgX _ (by decide),hdig,?_⟩ (by simp; omega) ?_ (PH.aA PH.nil_le ?_)
  ·simp only
   rw[gI,bfW,bfZ,bhH,bgK,bhX,← bgC,Nat.mod_add_div,hta,bgC,bgS,← bhX,hval,hxs',bgK]
  ·simp only
   rw[bfW,bfZ]
   (repeat' (first|exact PF.nil_le|refine PF.aA ?_ ?_))<;>first|(simp -implicitDefEqProofs only[go_sem,γ,reduceCtorEq]<;>rfl)|rfl
  ·simp only
   rw[bfW,bfZ,hlast]
   simp -implicitDefEqProofs only[go_sem]
 ·have e:P.length=a.length:=by omega
  have c1':¬ (P.length:Int)<(a.length:Nat):=by omega
  have hk:bfV (a.length+1-P.length) 0=[0]:=by rw[show a.length+1-P.length=1 by omega]; rfl
  have hin:(aE (P++[0]))[a.length]?=some [.int .u32 ((0:Nat):Int)]:=by
   rw[bJ _ (by simp; omega)]
   simp[e]
  have hrow:(aE (P++[0])).set a.length [.int .u32 ((c%4294967296:Nat):Int)]=aE (P++[c]):=by
   have:=uC P 0 (c%4294967296)
   simp only[List.replicate_zero,bhN,bgQ,List.replicate_one] at this
   rw[← e,eP,this,bgW (by omega)]
  have c2':(a.length:Int)<((a.length+1:Nat):Int):=by omega
  have hV:val (P++[c])=val a*2 ^ s:=by
   rw[gI,hval,e,bhB]
  have hLc:Lim (P++[c]):=hLim.app fun x hx=>by simp at hx; omega
  have hD:cV (a.length+1) (val a*2 ^ s)=P++[c]:=by
   have:=AX hLc
   rw[hV,bfW,bfZ,e] at this
   exact this
  simp -implicitDefEqProofs only[go_sem,γ,reduceCtorEq,c1',aGU,bX,hk,hin,c2',hrow,aGV]
  exact aW (vs:=[.osl q 1 0 (a.length+1)]) (.inr rfl) (PH.nil.set q (.rows 1 (aE (P++[c])))) (by simp -implicitDefEqProofs only[go_sem,γ,reduceCtorEq]<;>rfl) (PH.aA PH.nil_le (by simp -implicitDefEqProofs only[go_sem])) ⟨q,rfl,by rw[hD]⟩
def aaX (a:List Nat) (d o k r:Nat):PF:=(((((PF.nil.set 0 (aF a)).set 1 (.int .u32 d)).set 6 (.osl o 1 0 a.length)).set 7 (.int .u64 r)).set 8 (.int .i64 ((k:Int)-1)))
theorem aPM {C:Ctx} (L:nP C) (a:List Nat) (d:Nat) (ha:Lim a) (hd0:0<d) (hd:d<4294967296) (h1:a.length≤1000) :
  yI.wp C (aX IK.res (aL (.tup [aF (aG (val a/d)),.int .u32 ((val a%d:Nat):Int)]))) (PF.args [aF a,.int .u32 d]) .nil:=by
 have hm1:((a.length:Nat):Int)*((4:Nat):Int)≤140737488355328:=by omega
 have hm2:((a.length:Nat):Int)≤9223372036854775807:=by omega
 have hz:bfV a.length [PV.int .u32 0]=aE (bfV a.length 0++[]):=by
  simp[aE]
 simp -implicitDefEqProofs only[go_sem,γ,reduceCtorEq,yI,aeQ,aeR,IK,hm1,hm2,hz]
 refine aP fun o ho=>?_
 simp -implicitDefEqProofs only[go_sem,γ,reduceCtorEq,aeS,aeT]
 refine wp_loop (α:=Nat × List Nat × Nat × Nat) (fun t=>aaX a d t.2.2.2 t.1 t.2.2.1) (fun t=>PH.nil.set t.2.2.2 (.rows 1 (aE (bfV t.1 0++t.2.1))))
  (fun t=>t.1+t.2.1.length=a.length∧Lim t.2.1∧t.2.2.1<d∧val t.2.1*d+t.2.2.1=val (a.drop t.1)) (fun t=>t.1) (a.length,[],0,o) ⟨by simp,by simp[Lim],hd0,by simp[val]⟩ ?_ ?_ ?_
 ·unfold aaX
  (repeat' (first|exact PF.nil_le|refine PF.aA ?_ ?_))<;>first|(simp -implicitDefEqProofs only[go_sem,γ,reduceCtorEq,wrap_i64 (show -9223372036854775808≤((a.length:Nat):Int)-1 by omega) (show ((a.length:Nat):Int)-1≤9223372036854775807 by omega)]<;>rfl)|rfl
 ·exact PH.aA PH.nil_le (by simp -implicitDefEqProofs only[go_sem])
 rintro⟨k,S,r,q⟩ ⟨hk,hLim,hr,hval⟩
 simp only at hk hLim hr hval
 simp -implicitDefEqProofs only[go_sem,γ,reduceCtorEq,aeP,aeU,aaX]
 by_cases h0:0<k
 ·obtain⟨m,rfl⟩:∃ m,k=m+1:=⟨k-1,by omega⟩
  have hzz:((m+1:Nat):Int)-1=(m:Int):=by omega
  have hge:(m:Int)≥0:=by omega
  have hml:m<a.length:=by omega
  have hlt:(m:Int)<(a.length:Nat):=by omega
  have hai:=ha _ (bgA hml)
  have hdrop:val (a.drop m)=a[m]+4294967296*val (a.drop (m+1)):=by rw[bhP hml]; rfl
  generalize hx:a[m]=x at *
  have hax:(aE a)[m]?=some [.int .u32 ((x:Nat):Int)]:=by rw[bJ a hml,hx]
  have ex:IntKind.u64.wrap ((x:Nat):Int)=((x:Nat):Int):=aZ (by omega)
  have ed:IntKind.u64.wrap ((d:Nat):Int)=((d:Nat):Int):=aZ (by omega)
  have esh:shift .shl .u64 (r:Int) 32=some (.int .u64 ((2 ^ 32*r:Nat):Int)):=DZ (s:=32) (by omega) (by omega)
  have e32:(2:Nat) ^ 32=4294967296:=by decide
  have eor:=orI (a:=2 ^ 32*r) (b:=x) (n:=2 ^ 32*r+x) (by omega) (by omega) (Nat.two_pow_add_eq_or_of_lt (by omega) r).symm (by omega)
  rw[e32] at esh eor
  have hq:(4294967296*r+x)/d<4294967296:=by
   rw[biJ hd0]
   have:4294967296*(r+1)≤4294967296*d:=bhZ _ hr
   omega
  have hdd:¬ ((d:Nat):Int)=0:=by omega
  have equo:IntKind.u64.wrap (Int.tdiv ((4294967296*r+x:Nat):Int) ((d:Nat):Int))=(((4294967296*r+x)/d:Nat):Int):=by
   rw[show Int.tdiv ((4294967296*r+x:Nat):Int) ((d:Nat):Int)=(((4294967296*r+x)/d:Nat):Int) from rfl]
   exact aZ (by omega)
  have erem:Int.tmod ((4294967296*r+x:Nat):Int) ((d:Nat):Int)=(((4294967296*r+x)%d:Nat):Int):=rfl
  have ec:IntKind.u32.wrap (((4294967296*r+x)/d:Nat):Int)=(((4294967296*r+x)/d:Nat):Int):=by rw[bX,bgW hq]
  have hrep:bfV (m+1) 0++S=bfV m 0++(0::S):=by
   rw[List.replicate_succ',bgY]; rfl
  have hin:(aE (bfV m 0++(0::S)))[m]?=some [.int .u32 ((0:Nat):Int)]:=by
   rw[bJ _ (by simp)]; simp
  have hrow:(aE (bfV m 0++(0::S))).set m [.int .u32 (((4294967296*r+x)/d:Nat):Int)]=aE (bfV m 0++(((4294967296*r+x)/d)::S)):=by
   rw[eP,biU _ _ (by simp)]; simp
  simp -implicitDefEqProofs only[go_sem,γ,reduceCtorEq,hzz,hge,aeV,esh,hax,ex,eor,aeW,ed,hdd,equo,ec,hlt,hrep,hin,hrow,aeX,erem,aeY]
  refine aJ (m,((4294967296*r+x)/d)::S,(4294967296*r+x)%d,q) ⟨by simp only[biH]; omega,fun y hy=>?_,bgX _ hd0,?_⟩ (by simp only; omega) ?_ (PH.aA PH.nil_le (by simp -implicitDefEqProofs only[go_sem]))
  ·rw[bgD] at hy
   rcases hy with rfl | hy
   ·exact hq
   ·exact hLim y hy
  ·simp only[val]
   rw[hdrop,← hval,bgS,bgC,bgK]
   have:=biV (4294967296*r+x) d
   rw[bgO d] at this
   omega
  ·(repeat' (first|exact PF.nil_le|refine PF.aA ?_ ?_))<;>first|(simp -implicitDefEqProofs only[go_sem,γ,reduceCtorEq,wrap_i64 (show -9223372036854775808≤(m:Int)-1 by omega) (show (m:Int)-1≤9223372036854775807 by omega)]<;>rfl)|rfl
 ·have:k=0:=by omega
  subst this
  have hzz:¬ ((0:Nat):Int)-1≥0:=by decide
  rw[bgV] at hval
  have hS:S.length=a.length:=by omega
  have hq:val S=val a/d:=by
   rw[← hval,bgO,Nat.mul_add_div hd0,biW hr,bhY]
  have hrm:r=val a%d:=by rw[← hval,bgO,Nat.mul_add_mod,bgW hr]
  have hn0:bfV 0 0++S=S:=by simp
  simp -implicitDefEqProofs only[go_sem,υ,γ,reduceCtorEq,hzz,WR,biR]
  have hl:=L.length S hLim (by omega)
  have hnl:=eO hLim
  have hc:((nl (val S):Nat):Int)≤(S.length:Nat):=by omega
  refine nE (o:=q) (s:=1) (k:=a.length) (rs:=aE S) (v:=.int .i64 (nl (val S):Nat)) ?_ (by simp -implicitDefEqProofs only[go_sem,γ,reduceCtorEq]) (by simp -implicitDefEqProofs only[go_sem]) (by rw[bQ]; omega) ?_
  ·rw[bgH (by rw[bQ]; omega)]; exact hl
  ·have hfz:PV.frz q 1 (aE S) (.osl q 1 0 a.length)=aF S:=by
    have:0+a.length≤(aE S).length:=by rw[bQ]; omega
    simp only[PV.frz,PV.pR,PV.cR,if_true,true_and,if_pos this,bgV]
    rw[bgH (by rw[bQ]; omega)]
   have hfi:∀ n:Int,∀ k,PV.frz q 1 (aE S) (.int k n)=.int k n:=fun _ _=>rfl
   have er:IntKind.u32.wrap ((r:Nat):Int)=((r:Nat):Int):=by rw[bX,bgW (by omega)]
   simp -implicitDefEqProofs only[go_sem,ν,γ,reduceCtorEq,hfz,hfi,hc,or_true,bgV,gF hLim,er]
   refine aW (vs:=[aF (aG (val S)),.int .u32 ((r:Nat):Int)]) (.inr rfl) .nil (by simp -implicitDefEqProofs only[go_sem,γ,reduceCtorEq]<;>rfl) PH.nil_le ⟨?_,rfl⟩
   simp only[cN,← hq,← hrm]
end Go.PM
namespace Go.Na
theorem AO {L:List Nat} {i:Nat} (h:i<L.length) (v:Nat):val (L.set i v)+4294967296 ^ i*L[i]=val L+4294967296 ^ i*v:=by
 have h':i<(L.set i v).length:=by rw[bhO]; exact h
 rw[oX L h,oX (L.set i v) h',List.getElem_set_self,List.take_set_of_le (bfX _),List.drop_set_of_lt (by omega),bgC,bgC]
 omega
theorem ZH {L:List Nat} {i:Nat} (h:∀ (j x:Nat),i≤j→L[j]?=some x→x=0) (k v:Nat) (hk:k<i):∀ (j x:Nat),i≤j→(L.set k v)[j]?=some x→x=0:=fun j x hj hx=>by
 rw[List.getElem?_set_ne (by omega)] at hx
 exact h j x hj hx
end Go.Na
namespace Go.PM
open Go Go.Na
def iU (a b:List Nat) (o i:Nat):PF:=((((((PF.nil.set 0 (aF a)).set 1 (aF b)).set 6 (.osl o 1 0 (a.length+b.length))).set 32 (aF a)).set 33 (.int .i64 (a.length:Nat))).set 34 (.int .i64 i))
def aLL (a b:List Nat) (o i x c j:Nat):PF:=((((((((((((PF.nil.set 0 (aF a)).set 1 (aF b)).set 6 (.osl o 1 0 (a.length+b.length))).set 32 (aF a)).set 33 (.int .i64 (a.length:Nat))).set 34 (.int .i64 i)).set 7 (.int .i64 i)).set 8 (.int .u32 x)).set 9 (.int .u64 c)).set 39 (aF b)).set 40 (.int .i64 (b.length:Nat))).set 41 (.int .i64 j))
structure zO (a b L:List Nat) (i:Nat):Prop where
 len:L.length=a.length+b.length
 lim:Lim L
 v:val L=val (a.take i)*val b
 z:∀ j x,i+b.length≤j→L[j]?=some x→x=0
theorem aFE {x y:Nat} (hx:x<4294967296) (hy:y<4294967296):IntKind.u64.wrap ((x:Int)*(y:Int))=((x*y:Nat):Int):=by
 have:x*y≤4294967295*4294967295:=Nat.mul_le_mul (by omega) (by omega)
 rw[show (x:Int)*(y:Int)=((x*y:Nat):Int) by simp]
 exact aZ (by omega)
theorem fH {a b:Nat} (h:a+b≤9223372036854775807):IntKind.i64.wrap ((a:Int)+(b:Int))=((a+b:Nat):Int):=by
 rw[wrap_i64 (by omega) (by omega)]; omega
theorem aVU {C:Ctx} (a b:List Nat) (ha:Lim a) (hb:Lim b) (h1:a.length≤1000) (h2:b.length≤1000) (L:List Nat) (i:Nat) (hi:i<a.length) (hI:zO a b L i) (q:Nat) (K:cC) (F:PF) (H:PH) (hF:(iU a b q i).le F) (hH:H q=some (.rows 1 (aE L)))
  (hK:∀ L' F' H',zO a b L' (i+1)→(iU a b q i).le F'→H' q=some (.rows 1 (aE L'))→K .normal F' H') :
  aD.wp C (.block 1 (.seq (.region aaU) (.seq (.region aaV) (.seq (.seq (.region aaW) (.block 2 (.loop RN))) (.region RP))))) K F H:=by
 have f0:=hF 0 _ (by unfold iU; simp -implicitDefEqProofs only[go_sem,reduceCtorEq]; rfl)
 have f1:=hF 1 _ (by unfold iU; simp -implicitDefEqProofs only[go_sem,γ,reduceCtorEq]; rfl)
 have f6:=hF 6 _ (by unfold iU; simp -implicitDefEqProofs only[go_sem,γ,reduceCtorEq]; rfl)
 have f32:=hF 32 _ (by unfold iU; simp -implicitDefEqProofs only[go_sem,γ,reduceCtorEq]; rfl)
 have f33:=hF 33 _ (by unfold iU; simp -implicitDefEqProofs only[go_sem,γ,reduceCtorEq]; rfl)
 have f34:=hF 34 _ (by unfold iU; simp -implicitDefEqProofs only[go_sem,γ,reduceCtorEq]; rfl)
 have hx:=ha _ (bgA hi)
 have hta:=bT a hi
 generalize hxe:a[i]=x at *
 have hax:(aE a)[i]?=some [.int .u32 ((x:Nat):Int)]:=by rw[bJ a hi,hxe]
 simp -implicitDefEqProofs only[go_sem,γ,aaU,aaV,aaW,f32,f34,f1,hax]
 refine wp_loop (α:=List Nat × Nat × Nat) (fun t=>aLL a b q i x t.2.1 t.2.2) (fun t=>PH.nil.set q (.rows 1 (aE t.1)))
  (fun t=>t.2.2≤b.length∧t.1.length=a.length+b.length∧Lim t.1∧t.2.1<4294967296∧val t.1+4294967296 ^ (i+t.2.2)*t.2.1=val (a.take i)*val b+4294967296 ^ i*(x*val (b.take t.2.2))∧∀ j y,i+b.length≤j→t.1[j]?=some y→y=0) (fun t=>b.length-t.2.2) (L,0,0)
  ⟨by simp,hI.len,hI.lim,by simp,by simp[val,hI.v],hI.z⟩ ?_ (PH.aA PH.nil_le hH) ?_
 ·unfold aLL
  repeat' first|exact PF.nil_le|refine PF.aA ?_ ?_|rfl|assumption
 rintro⟨M,c,j⟩ ⟨hj,hM,hLim,hc,hval,hz⟩
 simp only at hj hM hLim hc hval hz
 simp -implicitDefEqProofs only[go_sem,γ,reduceCtorEq,RN,asY,aLL]
 by_cases c1:j<b.length
 ·have c1':(j:Int)<(b.length:Nat):=by omega
  have hy:=hb _ (bgA c1)
  have htb:=bT b c1
  generalize hye:b[j]=y at *
  have hby:(aE b)[j]?=some [.int .u32 ((y:Nat):Int)]:=by rw[bJ b c1,hye]
  have hij:i+j<M.length:=by omega
  have hz0:=hLim _ (bgA hij)
  have hset:=AO hij
  generalize hze:M[i+j]=z at *
  have hMz:(aE M)[i+j]?=some [.int .u32 ((z:Nat):Int)]:=by rw[bJ M hij,hze]
  have ex:IntKind.u64.wrap ((x:Nat):Int)=((x:Nat):Int):=aZ (by omega)
  have ey:IntKind.u64.wrap ((y:Nat):Int)=((y:Nat):Int):=aZ (by omega)
  have ez:IntKind.u64.wrap ((z:Nat):Int)=((z:Nat):Int):=aZ (by omega)
  have em:=aFE hx hy
  have hxy:x*y≤4294967295*4294967295:=Nat.mul_le_mul (by omega) (by omega)
  have e1:IntKind.u64.wrap (((x*y:Nat):Int)+(z:Int))=((x*y+z:Nat):Int):=eE (by omega)
  have e2:IntKind.u64.wrap ((c:Int)+((x*y+z:Nat):Int))=((c+(x*y+z):Nat):Int):=eE (by omega)
  have eij:IntKind.i64.wrap ((i:Int)+(j:Int))=((i+j:Nat):Int):=fH (by omega)
  have hlt:((i+j:Nat):Int)<((a.length+b.length:Nat):Int):=by omega
  generalize ht:c+(x*y+z)=t at *
  have htt:t<4294967296*4294967296:=by omega
  have hrow:(aE M).set (i+j) [.int .u32 ((t%4294967296:Nat):Int)]=aE (M.set (i+j) (t%4294967296)):=eP M (i+j) _
  simp -implicitDefEqProofs only[go_sem,γ,reduceCtorEq,c1',asZ,hby,atA,ex,ey,em,eij,hlt,hMz,ez,e1,e2,atB,bX,hrow,atC,tH,atD,aN (show j<9223372036854775807 by omega)]
  refine aJ (M.set (i+j) (t%4294967296),t/4294967296,j+1) ⟨by simp only; omega,by simp only[bhO]; exact hM,hLim.set _ (bgX _ (by decide)),by simp only; omega,?_,ZH hz _ _ (by omega)⟩ (by simp only; omega) ?_ (PH.aA PH.nil_le (by simp -implicitDefEqProofs only[go_sem]))
  ·simp only
   have h3:=hset (t%4294967296)
   have h4:4294967296 ^ (i+(j+1))*(t/4294967296)+4294967296 ^ (i+j)*(t%4294967296)=4294967296 ^ (i+j)*t:=by
    rw[← bhX,bhH,bgK,← bgC,biV]
   have h5:4294967296 ^ (i+j)*t=4294967296 ^ (i+j)*c+(4294967296 ^ (i+j)*(x*y)+4294967296 ^ (i+j)*z):=by rw[← ht,bgC,bgC]
   have h6:4294967296 ^ i*(x*val (b.take (j+1)))=4294967296 ^ i*(x*val (b.take j))+4294967296 ^ (i+j)*(x*y):=by
    rw[htb,bgC,bgC,Nat.pow_add]
    congr 1
    rw[Nat.mul_left_comm x,bgK]
   omega
  ·(repeat' (first|exact PF.nil_le|refine PF.aA ?_ ?_))<;>first|(simp -implicitDefEqProofs only[go_sem,γ,reduceCtorEq]<;>rfl)|rfl
 ·have he:j=b.length:=by omega
  have c1':¬ (j:Int)<(b.length:Nat):=by omega
  subst he
  have hij:i+b.length<M.length:=by omega
  have hz0:M[i+b.length]=0:=hz _ _ (bfX _) (bgF hij)
  have hset:=AO hij
  have hMz:(aE M)[i+b.length]?=some [.int .u32 ((0:Nat):Int)]:=by rw[bJ M hij,hz0]
  have eij:IntKind.i64.wrap ((i:Int)+((b.length:Nat):Int))=((i+b.length:Nat):Int):=fH (by omega)
  have hlt:((i+b.length:Nat):Int)<((a.length+b.length:Nat):Int):=by omega
  have hrow:(aE M).set (i+b.length) [.int .u32 ((c%4294967296:Nat):Int)]=aE (M.set (i+b.length) c):=by
   rw[bgW hc]; exact eP M _ _
  simp -implicitDefEqProofs only[go_sem,γ,reduceCtorEq,c1',RP,eij,bX,hlt,hMz,hrow]
  refine hK (M.set (i+b.length) c) _ _ ⟨by rw[bhO]; exact hM,hLim.set _ hc,?_,fun j y hj hy=>?_⟩ (by unfold iU; (repeat' (first|exact PF.nil_le|refine PF.aA ?_ ?_))<;>first|(simp -implicitDefEqProofs only[go_sem,γ,reduceCtorEq]<;>rfl)|rfl) (by simp -implicitDefEqProofs only[go_sem])
  ·have h3:=hset c
   rw[hz0,Nat.mul_zero,bhY] at h3
   rw[h3,hval,bhB,hta,bgS,bgK]
  ·rw[List.getElem?_set_ne (by omega)] at hy
   exact hz j y (by omega) hy
theorem aPL {C:Ctx} (L:nP C) (a b:List Nat) (ha:Lim a) (hb:Lim b) (h1:a.length≤1000) (h2:b.length≤1000) (F:PF) (f0:F 0=some (aF a)) (f1:F 1=some (aF b)) :
  aD.wp C (.seq (.region aaS) (.seq (.seq (.region aaT) (.block 0 (.loop RO))) (.seq (.region RQ) .ret))) (aX [.tmp 4,.tmp 5] (bY (szV (val a*val b)))) F .nil:=by
 have hlen:IntKind.i64.wrap (((a.length:Nat):Int)+((b.length:Nat):Int))=((a.length+b.length:Nat):Int):=fH (by omega)
 have hm1:((a.length+b.length:Nat):Int)*((4:Nat):Int)≤140737488355328:=by omega
 have hm2:((a.length+b.length:Nat):Int)≤9223372036854775807:=by omega
 have hz:bfV (a.length+b.length) [PV.int .u32 0]=aE (bfV (a.length+b.length) 0):=by
  simp[aE]
 simp -implicitDefEqProofs only[go_sem,γ,aaS,f0,f1,hlen,hm1,hm2,hz]
 refine aP fun o ho=>?_
 simp -implicitDefEqProofs only[go_sem,γ,reduceCtorEq,aaT,f0]
 refine wp_loop (α:=List Nat × Nat) (fun t=>iU a b o t.2) (fun t=>PH.nil.set o (.rows 1 (aE t.1))) (fun t=>t.2≤a.length∧zO a b t.1 t.2) (fun t=>a.length-t.2) (bfV (a.length+b.length) 0,0)
  ⟨by simp,by simp,rY _,by simp[val,pA],fun j x _ hx=>by rw[List.getElem?_replicate] at hx; split at hx<;>simp_all⟩ ?_ (PH.aA PH.nil_le (by simp -implicitDefEqProofs only[go_sem])) ?_
 ·unfold iU
  repeat' first|exact PF.nil_le|refine PF.aA ?_ ?_|rfl|assumption
 rintro⟨M,i⟩ ⟨hi,hI⟩
 simp only at hi hI
 simp -implicitDefEqProofs only[go_sem,γ,reduceCtorEq,RO,aGM,iU]
 by_cases c1:i<a.length
 ·have c1':(i:Int)<(a.length:Nat):=by omega
  have key:=aVU (C:=C) a b ha hb h1 h2 M i c1 hI o
  simp -implicitDefEqProofs only[go_sem] at key
  simp -implicitDefEqProofs only[go_sem,c1']
  refine key _ _ _ (by unfold iU; (repeat' (first|exact PF.nil_le|refine PF.aA ?_ ?_))<;>first|(simp -implicitDefEqProofs only[go_sem,γ,reduceCtorEq]<;>rfl)|rfl) (by simp -implicitDefEqProofs only[go_sem]) ?_
  intro L' F' H' hI' hF' hH'
  have g34:=hF' 34 _ (by unfold iU; simp -implicitDefEqProofs only[go_sem,γ,reduceCtorEq]; rfl)
  have g0:=hF' 0 _ (by unfold iU; simp -implicitDefEqProofs only[go_sem,reduceCtorEq]; rfl)
  have g1:=hF' 1 _ (by unfold iU; simp -implicitDefEqProofs only[go_sem,γ,reduceCtorEq]; rfl)
  have g6:=hF' 6 _ (by unfold iU; simp -implicitDefEqProofs only[go_sem,γ,reduceCtorEq]; rfl)
  have g32:=hF' 32 _ (by unfold iU; simp -implicitDefEqProofs only[go_sem,γ,reduceCtorEq]; rfl)
  have g33:=hF' 33 _ (by unfold iU; simp -implicitDefEqProofs only[go_sem,γ,reduceCtorEq]; rfl)
  simp -implicitDefEqProofs only[go_sem,atE,g34,aN (show i<9223372036854775807 by omega)]
  refine aJ (L',i+1) ⟨by simp only; omega,hI'⟩ (by simp only; omega) ?_ (PH.aA PH.nil_le hH')
  repeat' first|exact PF.nil_le|refine PF.aA ?_ ?_|rfl|assumption
 ·have he:i=a.length:=by omega
  subst he
  have c1':¬ ((a.length:Nat):Int)<(a.length:Nat):=by omega
  have hV:val M=val a*val b:=by rw[hI.v,bhB]
  simp -implicitDefEqProofs only[go_sem,γ,reduceCtorEq,RQ]
  have hs:=L.sized _ hI.lim (by rw[hI.len]; omega)
  rw[hV] at hs
  refine nE (o:=o) (s:=1) (k:=a.length+b.length) (rs:=aE M) (v:=szV (val a*val b)) ?_ rfl (by simp -implicitDefEqProofs only[go_sem]) (by rw[bQ,hI.len]; exact bfX _) ?_
  ·rw[bgH (by rw[bQ,hI.len]; exact bfX _)]; exact hs
  ·simp -implicitDefEqProofs only[go_sem,γ,reduceCtorEq,szV]
   exact aW (.inr rfl) .nil rfl PH.nil_le ⟨.refl _,rfl⟩
theorem a1D {C:Ctx} (L:nP C) (a b:List Nat) (ha:Lim a) (hb:Lim b) (la:a.length≤16777216) (lb:b.length≤16777216) :
  IH.wp C (aX asX.res (bY (opV (eK (val a) (val b)) (val a*val b)))) (PF.args [aF a,aF b]) .nil:=by
 simp -implicitDefEqProofs only[go_sem,reduceCtorEq,IH,aGJ,aGK,asX]
 refine aB (L.large a ha la) rfl ?_
 by_cases c1:nl (val a)>512
 ·simp -implicitDefEqProofs only[go_sem,γ,c1,aaR]
  rw[show opV (eK (val a) (val b)) (val a*val b)=.tup [aF [],.int .i64 2] by simp[opV,eK,c1]]
  exact gU rfl
 simp -implicitDefEqProofs only[go_sem,γ,c1]
 refine aB (L.large b hb lb) rfl ?_
 by_cases c2:nl (val b)>512
 ·simp -implicitDefEqProofs only[go_sem,γ,reduceCtorEq,c2,aaR]
  rw[show opV (eK (val a) (val b)) (val a*val b)=.tup [aF [],.int .i64 2] by simp[opV,eK,c2]]
  exact gU rfl
 have e:opV (eK (val a) (val b)) (val a*val b)=szV (val a*val b):=by simp[opV,eK,c1,c2]
 rw[e]
 simp -implicitDefEqProofs only[go_sem,γ,reduceCtorEq,c2]
 refine cD .nil aKZ PH.nil_le ?_
 simp -implicitDefEqProofs only[go_sem,reduceCtorEq,aGL]
 have h1:=eO ha
 have h2:=eO hb
 have h1':((nl (val a):Nat):Int)≤(a.length:Nat):=by omega
 have h2':((nl (val b):Nat):Int)≤(b.length:Nat):=by omega
 refine cU (lJ a) (L.length a ha la) rfl PH.nil_le ?_
 simp -implicitDefEqProofs only[go_sem,ν,γ,reduceCtorEq,h1',or_true,bgV,gF ha]
 refine cU (lJ b) (L.length b hb lb) rfl PH.nil_le ?_
 simp -implicitDefEqProofs only[go_sem,ν,γ,reduceCtorEq,h2',or_true,bgV,gF hb]
 have va:=aY (val a)
 have vb:=aY (val b)
 have:=aPL L (aG (val a)) (aG (val b)) (bE _) (bE _) (by rw[bH]; omega) (by rw[bH]; omega)
 rw[va,vb] at this
 have:=fun F f0 f1=>this F f0 f1
 simp -implicitDefEqProofs only[go_sem] at this
 exact this _ rfl rfl
end Go.PM
namespace Go.PM
open Go Go.Na
theorem XA {A P W Z:List Nat} {i:Nat} (hP:P.length=i) (hi:i<W.length):(aE (A++(P++W.drop i)++Z))[A.length+i]?=some [.int .u32 ((W[i]:Nat):Int)]:=by
 have hl:A.length+i<(A++(P++W.drop i)++Z).length:=by simp; omega
 rw[bJ _ hl]
 congr 4
 rw[List.getElem_append_left (by simp; omega),List.getElem_append_right (by omega),List.getElem_append_right (by omega),List.getElem_drop]
 congr 1
 omega
theorem AI {A P W Z:List Nat} {i:Nat} (hP:P.length=i) (hi:i<W.length) (v:Nat):(aE (A++(P++W.drop i)++Z)).set (A.length+i) [.int .u32 (v:Int)]=aE (A++((P++[v])++W.drop (i+1))++Z):=by
 rw[eP]
 congr 1
 rw[List.set_append_left _ _ (by simp; omega),biU _ _ (by omega),biU _ _ (by omega),bhP hi]
 rw[show A.length+i-A.length-P.length=0 by omega,List.set_cons_zero]
 simp
theorem aSW {t:Nat} (h:t<18446744073709551616):jC .and .u64 (t:Int) 4294967295=some (.int .u64 ((t%4294967296:Nat):Int)):=by
 show some (PV.int .u64 (IntKind.u64.wrap (((BitVec.ofInt 64 (t:Int) &&& BitVec.ofInt 64 (4294967295:Int)).toNat:Nat):Int)))=_
 have e:BitVec.ofInt 64 (4294967295:Int)=BitVec.ofNat 64 4294967295:=by rfl
 rw[e,BitVec.ofInt_natCast,BitVec.toNat_and,BitVec.toNat_ofNat,BitVec.toNat_ofNat,bgW (by simpa using h)]
 have e2:(4294967295:Nat)%2 ^ 64=2 ^ 32-1:=by decide
 rw[e2,Nat.and_two_pow_sub_one_eq_mod]
 rw[aZ (Nat.lt_of_lt_of_le (bgX _ (by decide)) (by decide))]
theorem aSZ {c f x:Nat} (hc:c<4294967296) (hf:f≤4294967296) (hx:x<4294967296):c+f*x<18446744073709551616∧(c+f*x)/4294967296<4294967296∧f*x≤4294967296*4294967295:=by
 have:f*x≤4294967296*4294967295:=Nat.mul_le_mul hf (by omega)
 refine⟨by omega,?_,this⟩
 omega
def atL (v:List Nat) (j o i c b:Nat) (f:Nat):PF:=((((((((PF.nil.set 0 (.osl o 1 j (v.length+1))).set 1 (aF v)).set 2 (.int .u64 f)).set 7 (.int .u64 c)).set 8 (.int .u64 b)).set 13 (aF v)).set 14 (.int .i64 (v.length:Nat))).set 15 (.int .i64 i))
def EA (n w m:Nat):Nat:=if w<m then w+4294967296 ^ n-m else w-m
theorem atM {C:Ctx} (A W Z v:List Nat) (f:Nat) (hW:Lim W) (hv:Lim v) (hl:W.length=v.length+1) (h1:A.length+v.length≤100000) (hf:f≤4294967296) (hfit:val v*f≤val W+4294967296 ^ (v.length+1)) (o:Nat) :
  qU.wp C (aX sC.res (fun r H'=>r=.bool (decide (val W<val v*f))∧H'=PH.nil.set o (.rows 1 (aE (A++cV (v.length+1) (EA (v.length+1) (val W) (val v*f))++Z)))))
   (PF.args [.osl o 1 A.length (v.length+1),aF v,.int .u64 f]) (PH.nil.set o (.rows 1 (aE (A++W++Z)))):=by
 simp -implicitDefEqProofs only[go_sem,γ,qU,IN,IP,IQ,sC]
 refine wp_loop (α:=List Nat × Nat × Nat) (fun t=>atL v A.length o t.1.length t.2.1 t.2.2 f) (fun t=>PH.nil.set o (.rows 1 (aE (A++(t.1++W.drop t.1.length)++Z))))
  (fun t=>t.1.length≤v.length∧Lim t.1∧t.2.1<4294967296∧t.2.2≤1∧val (W.take t.1.length)+4294967296 ^ t.1.length*t.2.2+4294967296 ^ t.1.length*t.2.1=val t.1+val (v.take t.1.length)*f) (fun t=>v.length-t.1.length) ([],0,0)
  ⟨by simp,by simp[Lim],by simp,by simp,by simp[val]⟩ ?_ (PH.aA PH.nil_le (by simp -implicitDefEqProofs only[go_sem,bhR,bgV,biR])) ?_
 ·unfold atL
  (repeat' (first|exact PF.nil_le|refine PF.aA ?_ ?_))<;>first|(simp -implicitDefEqProofs only[go_sem,γ,reduceCtorEq]<;>rfl)|rfl
 rintro⟨P,c,b⟩ ⟨hP,hLim,hc,hb,hval⟩
 simp only at hP hLim hc hb hval
 simp -implicitDefEqProofs only[go_sem,γ,reduceCtorEq,FP,IR,atL]
 by_cases c1:P.length<v.length
 ·have c1':(P.length:Int)<(v.length:Nat):=by omega
  have c2:P.length<W.length:=by omega
  have c2':(P.length:Int)<((v.length+1:Nat):Int):=by omega
  have hx:=hv _ (bgA c1)
  have hw:=hW _ (bgA c2)
  have htv:=bT v c1
  have htw:=bT W c2
  have hat:=XA (A:=A) (Z:=Z) (P:=P) rfl c2
  have hset:=AI (A:=A) (Z:=Z) (P:=P) rfl c2
  generalize hxe:v[P.length]=x at *
  generalize hwe:W[P.length]=y at *
  have hvx:(aE v)[P.length]?=some [.int .u32 ((x:Nat):Int)]:=by rw[bJ v c1,hxe]
  obtain⟨k1,k2,k3⟩:=aSZ hc hf hx
  have ex:IntKind.u64.wrap ((x:Nat):Int)=((x:Nat):Int):=aZ (by omega)
  have ey:IntKind.u64.wrap ((y:Nat):Int)=((y:Nat):Int):=aZ (by omega)
  have em:IntKind.u64.wrap ((f:Int)*(x:Int))=((f*x:Nat):Int):=by
   rw[show (f:Int)*(x:Int)=((f*x:Nat):Int) by simp]
   exact aZ (by omega)
  have hlt64:c+f*x<18446744073709551616:=k1
  have ea:IntKind.u64.wrap ((c:Int)+((f*x:Nat):Int))=((c+f*x:Nat):Int):=eE hlt64
  have eand:=aSW hlt64
  have hvt:val (v.take (P.length+1))*f=val (v.take P.length)*f+4294967296 ^ P.length*(f*x):=by rw[htv,bgS,bgK,bgO x f]
  generalize f*x=fx at *
  have hmod:(c+fx)%4294967296<4294967296:=bgX _ (by decide)
  obtain⟨s1,s2,s3,s4⟩:=auZ (a:=y) (bor:=b) (b:=(c+fx)%4294967296) hw hmod hb (IntKind.u64.wrap (IntKind.u64.wrap ((y:Int)-(((c+fx)%4294967296:Nat):Int))-(b:Int))) (by rw[eT,eT]; omega)
  generalize hd:JL y b ((c+fx)%4294967296)=d at *
  generalize hbb:SE y b ((c+fx)%4294967296)=b' at *
  have hb':b'≤1:=by rw[← hbb]; unfold SE; split<;>omega
  have hs:=hset d
  simp -implicitDefEqProofs only[go_sem,γ,reduceCtorEq,c1',IS,hvx,IT,ex,em,ea,IU,c2',hat,ey,eand,IV,s1,hs,IW,aMA,s2,IX,tH,FQ,aN (show P.length<9223372036854775807 by omega)]
  refine aJ (P++[d],(c+fx)/4294967296,b') ⟨by simp; omega,hLim.app fun z hz=>by simp at hz; omega,k2,hb',?_⟩ (by simp; omega) ?_ (PH.aA PH.nil_le ?_)
  ·simp only
   rw[bfW,bfZ,gI,htw,hvt,bhH,bgK,bgK]
   have h4:4294967296 ^ P.length*y+4294967296 ^ P.length*(4294967296*b')=4294967296 ^ P.length*d+4294967296 ^ P.length*((c+fx)%4294967296)+4294967296 ^ P.length*b:=by
    rw[← bgC,s3,bgC,bgC]
   have h5:4294967296 ^ P.length*(4294967296*((c+fx)/4294967296))+4294967296 ^ P.length*((c+fx)%4294967296)=4294967296 ^ P.length*c+4294967296 ^ P.length*fx:=by
    rw[← bgC,biV,bgC]
   omega
  ·simp only
   rw[bfW,bfZ]
   (repeat' (first|exact PF.nil_le|refine PF.aA ?_ ?_))<;>first|(simp -implicitDefEqProofs only[go_sem,γ,reduceCtorEq]<;>rfl)|rfl
  ·simp only
   rw[bfW,bfZ]
   simp -implicitDefEqProofs only[go_sem]
 ·have e:P.length=v.length:=by omega
  have c1':¬ (P.length:Int)<(v.length:Nat):=by omega
  have c2:v.length<W.length:=by omega
  have c2':((v.length:Nat):Int)<((v.length+1:Nat):Int):=by omega
  have hw:=hW _ (bgA c2)
  have htw:=bT W c2
  have hat:=XA (A:=A) (Z:=Z) (P:=P) e c2
  have hset:=AI (A:=A) (Z:=Z) (P:=P) e c2
  have hWall:val (W.take (v.length+1))=val W:=by rw[bgH (by omega)]
  generalize hwe:W[v.length]=y at *
  have ey:IntKind.u64.wrap ((y:Nat):Int)=((y:Nat):Int):=aZ (by omega)
  have hP':=eD hLim
  rw[e] at hval hP'
  rw[bhB] at hval
  rw[hWall] at htw
  have hpow:4294967296 ^ (v.length+1)=4294967296 ^ v.length*4294967296:=bhH _ _
  have key:val W+4294967296 ^ v.length*(b+c)=val P+val v*f+4294967296 ^ v.length*y:=by rw[htw,bgC]; omega
  have hbc:b+c≤y+4294967296:=by
   rcases bgI (y+4294967296) (b+c) with h | h
   ·exfalso
    have:4294967296 ^ v.length*(y+4294967296+1)≤4294967296 ^ v.length*(b+c):=bhZ _ h
    rw[bgC,bgC,Nat.mul_one] at this
    omega
   ·exact h
  have hlast:∃ d k:Nat,d<4294967296∧k≤1∧y+4294967296*k=d+(b+c)∧IntKind.u32.wrap (IntKind.u64.wrap (IntKind.u64.wrap ((y:Int)-(c:Int))-(b:Int)))=(d:Int)∧((IntKind.u64.wrap (IntKind.u64.wrap ((y:Int)-(c:Int))-(b:Int))/9223372036854775808==1)=decide (k=1)):=by
   rw[PD,eT,eT]
   by_cases h:y<b+c
   ·refine⟨y+4294967296-(b+c),1,by omega,by omega,by omega,by omega,?_⟩
    simp only[decide_true]
    exact bP (by omega)
   ·refine⟨y-(b+c),0,by omega,by omega,by omega,by omega,?_⟩
    exact bD (by omega)
  obtain⟨d,k,hd,hk,hy,w1,w2⟩:=hlast
  have hs:=hset d
  have hN:val (P++[d])+val v*f=val W+4294967296 ^ (v.length+1)*k:=by
   have:4294967296 ^ v.length*y+4294967296 ^ v.length*(4294967296*k)=4294967296 ^ v.length*d+4294967296 ^ v.length*(b+c):=by rw[← bgC,hy,bgC]
   rw[gI,e,hpow,bgK]
   omega
  have hLd:Lim (P++[d]):=hLim.app fun z hz=>by simp at hz; omega
  have hdl:=eD hLd
  rw[bfW,bfZ,e] at hdl
  have hk1:decide (k=1)=decide (val W<val v*f):=by
   congr 1
   apply propext
   constructor
   ·intro h; subst h; omega
   ·intro h
    rcases biB k with h0 | h0
    ·subst h0; omega
    ·omega
  have hval':EA (v.length+1) (val W) (val v*f)=val (P++[d]):=by
   unfold EA
   split
   ·rename_i h
    have:k=1:=by simpa [h] using hk1
    subst this; omega
   ·rename_i h
    have:k=0:=by
     have:¬ k=1:=by simpa [h] using hk1
     omega
    subst this; omega
  have hD:cV (v.length+1) (EA (v.length+1) (val W) (val v*f))=P++[d]:=by
   have:=AX hLd
   rw[bfW,bfZ,e] at this
   rw[hval',this]
  have hdr:W.drop (v.length+1)=[]:=bjA (by omega)
  simp -implicitDefEqProofs only[go_sem,γ,reduceCtorEq,c1',FS,e,c2',hat,ey,FT,w1,hs,FU,aMA,w2,hk1]
  refine aW (vs:=[.bool (decide (val W<val v*f))]) (.inr rfl) (PH.nil.set o (.rows 1 (aE (A++(P++[d]++W.drop (v.length+1))++Z)))) rfl (PH.aA PH.nil_le (by simp -implicitDefEqProofs only[go_sem])) ⟨rfl,?_⟩
  rw[hD,hdr,bhN]
end Go.PM
namespace Go.Na
theorem aEH {xs ys:List Nat} (hx:Lim xs) (hy:Lim ys) (hl:xs.length=ys.length) (hv:val xs=val ys):xs=ys:=by
 rw[← AX hx,← AX hy,hl,hv]
theorem aYP {k n:Nat} {xs:List Nat} (hx:Lim xs) (hl:xs.length=k) (hv:val xs=n%4294967296 ^ k):cV k n=xs :=
 aEH (kC k n) hx (by rw[jE,hl]) (by rw[vH,hv])
end Go.Na
namespace Go.PM
open Go Go.Na
def atF (v:List Nat) (j o i c:Nat):PF:=((((((PF.nil.set 0 (.osl o 1 j (v.length+1))).set 1 (aF v)).set 4 (.int .u64 c)).set 7 (aF v)).set 8 (.int .i64 (v.length:Nat))).set 9 (.int .i64 i))
theorem aAT {C:Ctx} (A W Z v:List Nat) (hW:Lim W) (hv:Lim v) (hl:W.length=v.length+1) (h1:A.length+v.length≤100000) (o:Nat) :
  sM.wp C (aX uU.res (fun r H'=>r=.tup []∧H'=PH.nil.set o (.rows 1 (aE (A++cV (v.length+1) (val W+val v)++Z)))))
   (PF.args [.osl o 1 A.length (v.length+1),aF v]) (PH.nil.set o (.rows 1 (aE (A++W++Z)))):=by
 simp -implicitDefEqProofs only[go_sem,γ,sM,NY,NZ,uU]
 refine wp_loop (α:=List Nat × Nat) (fun t=>atF v A.length o t.1.length t.2) (fun t=>PH.nil.set o (.rows 1 (aE (A++(t.1++W.drop t.1.length)++Z))))
  (fun t=>t.1.length≤v.length∧Lim t.1∧t.2≤1∧val (W.take t.1.length)+val (v.take t.1.length)=val t.1+4294967296 ^ t.1.length*t.2) (fun t=>v.length-t.1.length) ([],0)
  ⟨by simp,by simp[Lim],by simp,by simp[val]⟩ ?_ (PH.aA PH.nil_le (by simp -implicitDefEqProofs only[go_sem,bhR,bgV,biR])) ?_
 ·unfold atF
  (repeat' (first|exact PF.nil_le|refine PF.aA ?_ ?_))<;>first|(simp -implicitDefEqProofs only[go_sem,γ,reduceCtorEq]<;>rfl)|rfl
 rintro⟨P,c⟩ ⟨hP,hLim,hc,hval⟩
 simp only at hP hLim hc hval
 simp -implicitDefEqProofs only[go_sem,γ,reduceCtorEq,NX,OA,atF]
 by_cases c1:P.length<v.length
 ·have c1':(P.length:Int)<(v.length:Nat):=by omega
  have c2:P.length<W.length:=by omega
  have c2':(P.length:Int)<((v.length+1:Nat):Int):=by omega
  have hx:=hv _ (bgA c1)
  have hw:=hW _ (bgA c2)
  have htv:=bT v c1
  have htw:=bT W c2
  have hat:=XA (A:=A) (Z:=Z) (P:=P) rfl c2
  have hset:=AI (A:=A) (Z:=Z) (P:=P) rfl c2
  generalize hxe:v[P.length]=x at *
  generalize hwe:W[P.length]=y at *
  have hvx:(aE v)[P.length]?=some [.int .u32 ((x:Nat):Int)]:=by rw[bJ v c1,hxe]
  have ex:IntKind.u64.wrap ((x:Nat):Int)=((x:Nat):Int):=aZ (by omega)
  have ey:IntKind.u64.wrap ((y:Nat):Int)=((y:Nat):Int):=aZ (by omega)
  have e1:IntKind.u64.wrap ((y:Int)+(x:Int))=((y+x:Nat):Int):=eE (by omega)
  have e2:IntKind.u64.wrap ((c:Int)+((y+x:Nat):Int))=((c+(y+x):Nat):Int):=eE (by omega)
  have hs:=hset ((c+(y+x))%4294967296)
  simp -implicitDefEqProofs only[go_sem,γ,reduceCtorEq,c1',OB,hvx,OC,c2',hat,ex,ey,e1,e2,OD,bX,hs,OE,tH,OF,aN (show P.length<9223372036854775807 by omega)]
  refine aJ (P++[(c+(y+x))%4294967296],(c+(y+x))/4294967296) ⟨by simp; omega,hLim.app fun z hz=>by simp at hz; subst hz; exact bgX _ (by decide),by simp only; omega,?_⟩ (by simp; omega) ?_ (PH.aA PH.nil_le ?_)
  ·simp only
   rw[bfW,bfZ,gI,htw,htv,bhH,bgK]
   have h5:4294967296 ^ P.length*(4294967296*((c+(y+x))/4294967296))+4294967296 ^ P.length*((c+(y+x))%4294967296)=4294967296 ^ P.length*c+(4294967296 ^ P.length*y+4294967296 ^ P.length*x):=by
    rw[← bgC,biV,bgC,bgC]
   omega
  ·simp only
   rw[bfW,bfZ]
   (repeat' (first|exact PF.nil_le|refine PF.aA ?_ ?_))<;>first|(simp -implicitDefEqProofs only[go_sem,γ,reduceCtorEq]<;>rfl)|rfl
  ·simp only
   rw[bfW,bfZ]
   simp -implicitDefEqProofs only[go_sem]
 ·have e:P.length=v.length:=by omega
  have c1':¬ (P.length:Int)<(v.length:Nat):=by omega
  have c2:v.length<W.length:=by omega
  have c2':((v.length:Nat):Int)<((v.length+1:Nat):Int):=by omega
  have hw:=hW _ (bgA c2)
  have htw:=bT W c2
  have hat:=XA (A:=A) (Z:=Z) (P:=P) e c2
  have hset:=AI (A:=A) (Z:=Z) (P:=P) e c2
  have hWall:val (W.take (v.length+1))=val W:=by rw[bgH (by omega)]
  generalize hwe:W[v.length]=y at *
  have hP':=eD hLim
  rw[e] at hval hP'
  rw[bhB] at hval
  rw[hWall] at htw
  have ec:IntKind.u32.wrap ((c:Nat):Int)=((c:Nat):Int):=by rw[bX,bgW (by omega)]
  have ey:IntKind.u32.wrap ((y:Int)+(c:Int))=(((y+c)%4294967296:Nat):Int):=by
   rw[show (y:Int)+(c:Int)=((y+c:Nat):Int) by omega,bX]
  have hs:=hset ((y+c)%4294967296)
  have hLd:Lim (P++[(y+c)%4294967296]):=hLim.app fun z hz=>by simp at hz; subst hz; exact bgX _ (by decide)
  have hdl:=eD hLd
  rw[bfW,bfZ,e] at hdl
  have hD:cV (v.length+1) (val W+val v)=P++[(y+c)%4294967296]:=by
   refine aYP hLd (by rw[bfW,bfZ,e]) ?_
   have:val W+val v=val (P++[(y+c)%4294967296])+4294967296 ^ (v.length+1)*((y+c)/4294967296):=by
    rw[gI,e,bhH,bgK,bhX,← bgC,Nat.mod_add_div,bgC]
    omega
   rw[this,Nat.add_mul_mod_self_left,bgW hdl]
  have hdr:W.drop (v.length+1)=[]:=bjA (by omega)
  simp -implicitDefEqProofs only[go_sem,γ,reduceCtorEq,c1',OG,e,c2',hat,ec,ey,hs]
  refine aW (vs:=[]) (.inl rfl) (PH.nil.set o (.rows 1 (aE (A++(P++[(y+c)%4294967296]++W.drop (v.length+1))++Z)))) rfl (PH.aA PH.nil_le (by simp -implicitDefEqProofs only[go_sem])) ⟨rfl,?_⟩
  rw[hD,hdr,bhN]
def aLI (o n:Nat) (len:Nat):PF:=((PF.nil.set 0 (.osl o 1 0 len)).set 3 (.int .i64 n))
theorem aAS {C:Ctx} (xs:List Nat) (hx:Lim xs) (hl:xs.length≤16777216) (o:Nat):mJ.wp C (aX qT.res (fun r H'=>r=.int .i64 (nl (val xs):Nat)∧H'=PH.nil.set o (.rows 1 (aE xs)))) (PF.args [.osl o 1 0 xs.length]) (PH.nil.set o (.rows 1 (aE xs))):=by
 simp -implicitDefEqProofs only[go_sem,γ,reduceCtorEq,mJ,DK,DL,qT]
 refine wp_loop (α:=Nat) (fun n=>aLI o n xs.length) (fun _=>PH.nil.set o (.rows 1 (aE xs))) (fun n=>n≤xs.length∧∀ j x,n≤j→xs[j]?=some x→x=0) (fun n=>n) xs.length ⟨bfX _,fun j x h e=>by rw[bhD h] at e; cases e⟩ ?_ PH.le_refl ?_
 ·unfold aLI
  (repeat' (first|exact PF.nil_le|refine PF.aA ?_ ?_))<;>first|(simp -implicitDefEqProofs only[go_sem,γ,reduceCtorEq]<;>rfl)|rfl
 rintro n ⟨hn,hz⟩
 have out:(∀ x,0<n→xs[n-1]?=some x→x≠0)→nl (val xs)=n:=fun h=>aHC hx hn hz h
 simp -implicitDefEqProofs only[go_sem,γ,reduceCtorEq,DJ,DM,aLI]
 by_cases h0:(n:Int)>0
 ·have hp:0<n:=by omega
  have hi:=bJ xs (show n-1<xs.length by omega)
  have hlt:((n-1:Nat):Int)<(xs.length:Nat):=by omega
  simp -implicitDefEqProofs only[go_sem,γ,reduceCtorEq,h0,sI (show n≤9223372036854775807 by omega) hp,hi,hlt]
  by_cases hz0:xs[n-1]=0
  ·simp -implicitDefEqProofs only[go_sem,γ,reduceCtorEq,bP (show ((xs[n-1]:Nat):Int)=0 by omega),DN,sI (show n≤9223372036854775807 by omega) hp]
   refine aJ (n-1) ⟨by omega,fun j x hj he=>?_⟩ (by omega) ?_ PH.le_refl
   ·rcases bgI j n with h | h
    ·have:j=n-1:=by omega
     subst this
     rw[bgF (by omega)] at he
     cases he; exact hz0
    ·exact hz j x h he
   ·(repeat' (first|exact PF.nil_le|refine PF.aA ?_ ?_))<;>first|(simp -implicitDefEqProofs only[go_sem,γ,reduceCtorEq]<;>rfl)|rfl
  ·simp -implicitDefEqProofs only[go_sem,γ,reduceCtorEq,bD (show ((xs[n-1]:Nat):Int)≠0 by omega),pZ]
   refine aW (.inr rfl) _ rfl PH.le_refl ⟨?_,rfl⟩
   rw[out fun x _ he=>by rw[bgF (by omega)] at he; cases he; exact hz0]
   rfl
 ·simp -implicitDefEqProofs only[go_sem,γ,reduceCtorEq,h0,pZ]
  refine aW (.inr rfl) _ rfl PH.le_refl ⟨?_,rfl⟩
  rw[out fun x h=>by omega]
  rfl
end Go.PM
namespace Go.Na
structure Kn (V W top next Vr head u2 Wr p:Nat):Prop where
 hV:V=top*(4294967296*p)+next*p+Vr
 hW:W=head*(4294967296*p)+u2*p+Wr
 hVr:Vr<p
 hWr:Wr<p
 htop:2147483648≤top
 hnext:next<4294967296
 hu2:u2<4294967296
 hlt:W<V*4294967296
section
variable {V W top next Vr head u2 Wr p:Nat}
theorem Kn.low (K:Kn V W top next Vr head u2 Wr p):next*p+Vr<4294967296*p∧u2*p+Wr<4294967296*p:=by
 have h1:(next+1)*p≤4294967296*p:=bgU _ K.hnext
 have h2:(u2+1)*p≤4294967296*p:=bgU _ K.hu2
 rw[bgS,Nat.one_mul] at h1 h2
 have:=K.hVr
 have:=K.hWr
 omega
theorem Kn.akR (K:Kn V W top next Vr head u2 Wr p):0<V∧4294967296*p≤V∧0<p:=by
 have:=K.hVr
 have h:1*(4294967296*p)≤top*(4294967296*p):=bgU _ (by have:=K.htop; omega)
 have:=K.hV
 omega
theorem Kn.a4G (K:Kn V W top next Vr head u2 Wr p):W/V<4294967296:=by
 rw[biJ K.akR.1,bgO]; exact K.hlt
theorem Kn.g0 (K:Kn V W top next Vr head u2 Wr p):W/V≤head/top:=by
 have ht:0<top:=by have:=K.htop; omega
 rw[Nat.le_div_iff_mul_le ht]
 have h1:W/V*V≤W:=Nat.div_mul_le_self W V
 have h2:W/V*(top*(4294967296*p))≤W/V*V:=bhZ _ (by have:=K.hV; omega)
 have h3:=K.low.2
 have h4:=K.hW
 have h5:(W/V*top)*(4294967296*p)<(head+1)*(4294967296*p):=by
  rw[bgK,bgS,Nat.one_mul]; omega
 have:=Nat.lt_of_mul_lt_mul_right h5
 omega
theorem Kn.g1 (K:Kn V W top next Vr head u2 Wr p) {g r:Nat} (hg:g*top+r=head) (hq:W/V≤g) (h:g≥4294967296∨g*next>r*4294967296+u2):1≤g∧W/V≤g-1:=by
 have hql:=K.a4G
 have hdiv:=Nat.div_mul_le_self W V
 generalize W/V=Q at *
 rcases h with h | h
 ·omega
 ·have hne:Q≠g:=by
   intro e
   have h1:g*V≤W:=by rw[← e]; exact hdiv
   have h2:g*V=g*top*(4294967296*p)+g*next*p+g*Vr:=by rw[K.hV,bgC,bgC,bgK,bgK]
   have h3:(r*4294967296+u2+1)*p≤g*next*p:=bgU _ h
   rw[bgS,bgS,Nat.one_mul,bgK r] at h3
   have h4:g*top*(4294967296*p)+r*(4294967296*p)=head*(4294967296*p):=by rw[← bgS,hg]
   have:=K.hW
   have:=K.hWr
   omega
  omega
theorem Kn.g2 (K:Kn V W top next Vr head u2 Wr p) {g r:Nat} (hg:g*top+r=head) (hl:g≤4294967296) (h:g*next≤r*4294967296+u2):g≤W/V+1:=by
 rcases biB g with e | e
 ·rw[e]; exact bgE _
 have h2:g*V=g*top*(4294967296*p)+g*next*p+g*Vr:=by rw[K.hV,bgC,bgC,bgK,bgK]
 have h3:g*next*p≤(r*4294967296+u2)*p:=bgU _ h
 rw[bgS,bgK r] at h3
 have h4:g*top*(4294967296*p)+r*(4294967296*p)=head*(4294967296*p):=by rw[← bgS,hg]
 have h5:g*Vr≤4294967296*Vr:=bgU _ hl
 have h6:4294967296*(Vr+1)≤4294967296*p:=bhZ _ K.hVr
 have hV:=K.akR
 have hW:=K.hW
 have h7:(g-1)*V≤W:=by
  have:g*V=(g-1)*V+V:=by
   obtain⟨k,rfl⟩:∃ k,g=k+1:=⟨g-1,by omega⟩
   rw[bgS,Nat.one_mul]; rfl
  omega
 have:=(Nat.le_div_iff_mul_le hV.1).2 h7
 generalize W/V=Q at *
 clear h2 h3 h4 h5 h7
 omega
theorem Kn.g3 (K:Kn V W top next Vr head u2 Wr p) {g r:Nat} (hg:g*top+r=head) (hl:g≤4294967296) (hr:4294967296≤r):g≤W/V+1:=by
 have hlow:=K.low.1
 have hV:=K.akR
 have h2:g*V=g*top*(4294967296*p)+g*(next*p+Vr):=by rw[K.hV,bhX,bgC,bgK]
 have h3:g*(next*p+Vr)≤4294967296*(4294967296*p):=Nat.mul_le_mul hl (by omega)
 have h4:g*top*(4294967296*p)+r*(4294967296*p)=head*(4294967296*p):=by rw[← bgS,hg]
 have h5:4294967296*(4294967296*p)≤r*(4294967296*p):=bgU _ hr
 have hW:=K.hW
 have h7:g*V≤W:=by omega
 have:=(Nat.le_div_iff_mul_le hV.1).2 h7
 generalize W/V=Q at *
 clear h2 h3 h4 h5 h7
 omega
theorem Kn.g4 (K:Kn V W top next Vr head u2 Wr p):head/top≤4294967296+1:=by
 have hlow:=K.low.1
 have hV:=K.akR
 have hW:=K.hW
 have hlt:=K.hlt
 have ht:=K.htop
 have h1:head<(top+1)*4294967296:=by
  have h2:V<(top+1)*(4294967296*p):=by rw[K.hV,bgS,Nat.one_mul]; omega
  have h3:V*4294967296≤(top+1)*(4294967296*p)*4294967296:=bgU _ (Nat.le_of_lt h2)
  have h4:head*(4294967296*p)<(top+1)*4294967296*(4294967296*p):=by
   have:(top+1)*(4294967296*p)*4294967296=(top+1)*4294967296*(4294967296*p):=by rw[bgK,bgO (4294967296*p) 4294967296,← bgK]
   omega
  exact Nat.lt_of_mul_lt_mul_right h4
 have h5:head/top<4294967296+2:=by
  rw[biJ (by omega)]
  omega
 omega
end
theorem rS:∀ (k n:Nat),cV (k+1) n=cV k n++[n/4294967296 ^ k%4294967296]
 | 0,n=>by simp[cV]
 | k+1,n=>by
  show (n%4294967296)::cV (k+1) (n/4294967296)=(n%4294967296)::cV k (n/4294967296)++[n/4294967296 ^ (k+1)%4294967296]
  rw[rS k (n/4294967296),Nat.div_div_eq_div_mul,bhH,bgO 4294967296]
  rfl
theorem qZ {xs:List Nat} (h:Lim xs):∀ {k:Nat},k≤xs.length→val (xs.drop k)=val xs/4294967296 ^ k:=by
 intro k hk
 have e:val xs=val (xs.take k)+4294967296 ^ k*val (xs.drop k):=by
  conv=>lhs; rw[← biC k xs,eZ,bgJ,bhT hk]
 have hl:=eD (h.take k)
 rw[bgJ,bhT hk] at hl
 rw[e,Nat.add_mul_div_left _ _ (biE (by decide)),biW hl,bgQ]
theorem OI {R s i u0 u1 X:Nat} (hs:s<32) (h:R/4294967296 ^ i=u0+4294967296*(u1+4294967296*X)):(R/2 ^ s)/4294967296 ^ i%4294967296=(4294967296*u1+u0)/2 ^ s%4294967296:=by
 rw[Nat.div_div_eq_div_mul,bgO (2 ^ s),← Nat.div_div_eq_div_mul,h]
 have hp:4294967296*4294967296=2 ^ s*(2 ^ (32-s)*4294967296):=by
  rw[← bgK,← Nat.pow_add,show s+(32-s)=32 by omega]
 have e:u0+4294967296*(u1+4294967296*X)=(4294967296*u1+u0)+2 ^ s*(2 ^ (32-s)*X*4294967296):=by
  have:4294967296*(4294967296*X)=2 ^ s*(2 ^ (32-s)*X*4294967296):=by
   rw[← bgK,hp,bgK,bgK,bgK,bgO 4294967296 X]
  rw[bgC,this]; omega
 rw[e,Nat.add_mul_div_left _ _ (biE (by decide)),Nat.add_mul_mod_self_right]
end Go.Na
namespace Go.PM
open Go Go.Na
theorem a1K {A W Z:List Nat} {i:Nat} (hi:i<W.length):(aE (A++W++Z))[A.length+i]?=some [.int .u32 ((W[i]:Nat):Int)]:=by
 have hl:A.length+i<(A++W++Z).length:=by simp; omega
 rw[bJ _ hl]
 congr 4
 rw[List.getElem_append_left (by simp; omega),List.getElem_append_right (by omega)]
 congr 1
 omega
def dF (u v:PV) (n:Nat) (q:PV) (top next j s:Nat):PF:=((((((((PF.nil.set 8 (.int .u64 s)).set 9 (u)).set 10 (v)).set 11 (.int .i64 n)).set 12 (q)).set 13 (.int .u64 top)).set 14 (.int .u64 next)).set 15 (.int .i64 j))
def dG (u v:PV) (n:Nat) (q:PV) (top next j s g r:Nat):PF:=((((((((((PF.nil.set 8 (.int .u64 s)).set 9 (u)).set 10 (v)).set 11 (.int .i64 n)).set 12 (q)).set 13 (.int .u64 top)).set 14 (.int .u64 next)).set 15 (.int .i64 j)).set 17 (.int .u64 g)).set 18 (.int .u64 r))
theorem ajL {C:Ctx} {V Wv top next Vr head u2 Wr p:Nat} (Kk:Kn V Wv top next Vr head u2 Wr p) (htop:top<4294967296) (o lu m j s:Nat) (v q:PV) (hjm:j+m+2<lu) (hlu:lu≤100000) (U:List Nat) (hU:(aE U)[j+m]?=some [.int .u32 (u2:Nat)]) (K:cC) (F:PF) (H:PH)
  (hF:(dG (.osl o 1 0 lu) v (m+2) q top next j s (head/top) (head%top)).le F) (hH:H o=some (.rows 1 (aE U)))
  (hK:∀ g r F',Wv/V≤g→g≤Wv/V+1→g≤4294967296→(dG (.osl o 1 0 lu) v (m+2) q top next j s g r).le F'→K .normal F' H) :
  aD.wp C (.block 4 (.loop rG)) K F H:=by
 have ht0:0<top:=by have:=Kk.htop; omega
 have hn:=Kk.hnext
 have hu2:=Kk.hu2
 simp -implicitDefEqProofs only[go_sem]
 refine wp_loop (α:=Nat × Nat) (fun t=>dG (.osl o 1 0 lu) v (m+2) q top next j s t.1 t.2) (fun _=>H) (fun t=>t.1*top+t.2=head∧Wv/V≤t.1∧t.1≤4294967296+1∧t.2<4294967296) (fun t=>t.1) (head/top,head%top)
  ⟨by simp only; rw[bgO]; exact biV head top,Kk.g0,Kk.g4,Nat.lt_trans (bgX _ ht0) htop⟩ hF PH.le_refl ?_
 rintro⟨g,r⟩ ⟨hg,hq,hgl,hr⟩
 simp only at hg hq hgl hr
 have e1:IntKind.i64.wrap ((j:Int)+((m+2:Nat):Int))=((j+(m+2):Nat):Int):=fH (by omega)
 have e2:IntKind.i64.wrap (((j+(m+2):Nat):Int)-2)=((j+m:Nat):Int):=by rw[wrap_i64 (by omega) (by omega)]; omega
 have hlt:((j+m:Nat):Int)<(lu:Nat):=by omega
 have eu2:IntKind.u64.wrap ((u2:Nat):Int)=((u2:Nat):Int):=aZ (by omega)
 have esh:shift .shl .u64 (r:Int) 32=some (.int .u64 ((2 ^ 32*r:Nat):Int)):=DZ (s:=32) (by omega) (by omega)
 have e32:(2:Nat) ^ 32=4294967296:=by decide
 have eor:=orI (a:=2 ^ 32*r) (b:=u2) (n:=2 ^ 32*r+u2) (by omega) (by omega) (Nat.two_pow_add_eq_or_of_lt (by omega) r).symm (by omega)
 rw[e32] at esh eor
 have more:(g≥4294967296∨g*next>r*4294967296+u2)→∀ F':PF,(dG (.osl o 1 0 lu) v (m+2) q top next j s g r).le F'→aD.wp C (.block 5 (.seq (.region xZ) (.seq (.region yA) (.seq (.region yB) (.cond (.tmp 136) (.exit 4) .skip)))))
   (fQ (fun t:Nat × Nat=>dG (.osl o 1 0 lu) v (m+2) q top next j s t.1 t.2) (fun _=>H) (fun t=>t.1*top+t.2=head∧Wv/V≤t.1∧t.1≤4294967296+1∧t.2<4294967296) (fun t=>t.1) g (eG 4 K)) F' H:=by
  intro hc F' hF'
  obtain⟨g1,g2⟩:=Kk.g1 hg hq hc
  have f8:=hF' 8 _ (by unfold dG; simp -implicitDefEqProofs only[go_sem,γ]; rfl)
  have f9:=hF' 9 _ (by unfold dG; simp -implicitDefEqProofs only[go_sem,γ]; rfl)
  have f10:=hF' 10 _ (by unfold dG; simp -implicitDefEqProofs only[go_sem,γ]; rfl)
  have f11:=hF' 11 _ (by unfold dG; simp -implicitDefEqProofs only[go_sem,γ]; rfl)
  have f12:=hF' 12 _ (by unfold dG; simp -implicitDefEqProofs only[go_sem,γ]; rfl)
  have f13:=hF' 13 _ (by unfold dG; simp -implicitDefEqProofs only[go_sem,γ]; rfl)
  have f14:=hF' 14 _ (by unfold dG; simp -implicitDefEqProofs only[go_sem,γ]; rfl)
  have f15:=hF' 15 _ (by unfold dG; simp -implicitDefEqProofs only[go_sem,γ]; rfl)
  have f17:=hF' 17 _ (by unfold dG; simp -implicitDefEqProofs only[go_sem,γ]; rfl)
  have f18:=hF' 18 _ (by unfold dG; simp -implicitDefEqProofs only[go_sem,γ]; rfl)
  have w1:IntKind.u64.wrap ((g:Int)-1)=((g-1:Nat):Int):=by rw[wrap_u64 (by omega) (by omega)]; omega
  have w2:IntKind.u64.wrap ((r:Int)+(top:Int))=((r+top:Nat):Int):=eE (by omega)
  have hg':(g-1)*top+(r+top)=head:=by
   obtain⟨k,rfl⟩:∃ k,g=k+1:=⟨g-1,by omega⟩
   rw[bgS,Nat.one_mul] at hg
   simp only[Nat.add_sub_cancel]
   omega
  simp -implicitDefEqProofs only[go_sem,δ,γ,xZ,yA,yB,f17,f18,f13,w1,w2]
  by_cases c:r+top≥4294967296
  ·have c':((r+top:Nat):Int)≥4294967296:=by omega
   simp -implicitDefEqProofs only[go_sem,γ,c']
   refine hK (g-1) (r+top) _ g2 (Kk.g3 hg' (by omega) c) (by omega) ?_
   unfold dG
   repeat' first|exact PF.nil_le|refine PF.aA ?_ ?_|rfl|assumption
  ·have c':¬ ((r+top:Nat):Int)≥4294967296:=by omega
   simp -implicitDefEqProofs only[go_sem,c']
   refine aJ (g-1,r+top) ⟨hg',g2,by simp only; omega,by simp only; omega⟩ (by simp only; omega) ?_ PH.le_refl
   unfold dG
   repeat' first|exact PF.nil_le|refine PF.aA ?_ ?_|rfl|assumption
 simp -implicitDefEqProofs only[go_sem,δ,γ,rG,NQ,dG]
 by_cases c1:g≥4294967296
 ·have c1':(g:Int)≥4294967296:=by omega
  simp -implicitDefEqProofs only[go_sem,γ,c1']
  have:=more (.inl c1)
  simp -implicitDefEqProofs only[go_sem,δ,dG] at this
  refine this _ ?_
  (repeat' (first|exact PF.nil_le|refine PF.aA ?_ ?_))<;>first|(simp -implicitDefEqProofs only[go_sem,γ]<;>rfl)|rfl
 ·have c1':¬ (g:Int)≥4294967296:=by omega
  have hgn:g*next≤4294967295*4294967295:=Nat.mul_le_mul (by omega) (by omega)
  have em:IntKind.u64.wrap ((g:Int)*(next:Int))=((g*next:Nat):Int):=by
   rw[show (g:Int)*(next:Int)=((g*next:Nat):Int) by simp]
   exact aZ (by omega)
  simp -implicitDefEqProofs only[go_sem,γ,reduceCtorEq,c1',em,esh,e1,e2,hlt,hH,hU,eu2,eor]
  by_cases c2:g*next>r*4294967296+u2
  ·have c2':((g*next:Nat):Int)>((4294967296*r+u2:Nat):Int):=by omega
   simp -implicitDefEqProofs only[go_sem,c2']
   have:=more (.inr c2)
   simp -implicitDefEqProofs only[go_sem,δ,dG] at this
   refine this _ ?_
   (repeat' (first|exact PF.nil_le|refine PF.aA ?_ ?_))<;>first|(simp -implicitDefEqProofs only[go_sem,γ]<;>rfl)|rfl
  ·have c2':¬ ((g*next:Nat):Int)>((4294967296*r+u2:Nat):Int):=by omega
   simp -implicitDefEqProofs only[go_sem,c2']
   refine hK g r _ hq (Kk.g2 hg (by omega) (by omega)) (by omega) ?_
   unfold dG
   (repeat' (first|exact PF.nil_le|refine PF.aA ?_ ?_))<;>first|(simp -implicitDefEqProofs only[go_sem,γ]<;>rfl)|rfl
end Go.PM
namespace Go.Na
theorem a6X {W v:List Nat} {m:Nat} (hW:Lim W) (hv:Lim v) (hlv:v.length=m+2) (hlW:W.length=m+3) (ht:2147483648≤v[m+1]) (hlt:val W<val v*4294967296) :
  Kn (val v) (val W) (v[m+1]) (v[m]) (val (v.take m)) (W[m+2]*4294967296+W[m+1]) (W[m]) (val (W.take m)) (4294967296 ^ m):=by
 have e1:val v=val (v.take m)+4294967296 ^ m*(v[m]+4294967296*v[m+1]):=by
  rw[oX v (show m<v.length by omega)]
  congr 4
  have:v.drop (m+1)=[v[m+1]]:=by
   rw[bhP (by omega),bjA (by omega)]
  rw[this]; simp[val]
 have e2:val W=val (W.take m)+4294967296 ^ m*(W[m]+4294967296*(W[m+1]+4294967296*W[m+2])):=by
  rw[oX W (show m<W.length by omega)]
  congr 4
  have:W.drop (m+1)=[W[m+1],W[m+2]]:=by
   rw[bhP (by omega),bhP (by omega),bjA (by omega)]
  rw[this]; simp[val]
 have l1:=eD (hv.take m)
 have l2:=eD (hW.take m)
 rw[bgJ,bhT (by omega)] at l1 l2
 refine⟨?_,?_,l1,l2,ht,hv _ (bgA _),hW _ (bgA _),hlt⟩
 ·rw[e1,bgC,bgO (4294967296 ^ m) (v[m]),← bgK (4294967296 ^ m),bgO (4294967296 ^ m*4294967296),bgO (4294967296 ^ m) 4294967296]
  omega
 ·rw[e2,bgC,bgO (4294967296 ^ m) (W[m]),← bgK (4294967296 ^ m),bgO (4294967296 ^ m*4294967296),bgO (4294967296 ^ m) 4294967296,bgO (W[m+2]),Nat.add_comm (4294967296*W[m+2])]
  omega
end Go.Na
namespace Go.PM
open Go Go.Na
structure ajV (C:Ctx):Prop where
 subtract:∀ (A W Z v:List Nat) (f o:Nat),Lim W→Lim v→W.length=v.length+1→A.length+v.length≤100000→f≤4294967296→val v*f≤val W+4294967296 ^ (v.length+1) →
  aI C 142 [.osl o 1 A.length (v.length+1),aF v,.int .u64 f] (PH.nil.set o (.rows 1 (aE (A++W++Z)))) (fun r H'=>r=.bool (decide (val W<val v*f))∧H'=PH.nil.set o (.rows 1 (aE (A++cV (v.length+1) (EA (v.length+1) (val W) (val v*f))++Z))))
 restore:∀ (A W Z v:List Nat) (o:Nat),Lim W→Lim v→W.length=v.length+1→A.length+v.length≤100000 →
  aI C 139 [.osl o 1 A.length (v.length+1),aF v] (PH.nil.set o (.rows 1 (aE (A++W++Z)))) (fun r H'=>r=.tup []∧H'=PH.nil.set o (.rows 1 (aE (A++cV (v.length+1) (val W+val v)++Z))))
theorem alI (k n:Nat):cV k (n%4294967296 ^ k)=cV k n :=
 aEH (kC _ _) (kC _ _) (by rw[jE,jE]) (by rw[vH,vH,Nat.mod_mod])
theorem ajK {C:Ctx} (D:ajV C) (A W Z v Q:List Nat) (m o oq lu s:Nat) (hne:oq≠o) (hW:Lim W) (hv:Lim v) (hlv:v.length=m+2) (hlW:W.length=m+3) (ht:2147483648≤v[m+1]) (hlt:val W<val v*4294967296)
  (hlu:lu=A.length+(m+3)+Z.length) (hmax:lu≤10000) (hjq:A.length<Q.length) (K:cC) (F:PF) (H:PH) (hF:(dF (.osl o 1 0 lu) (aF v) (m+2) (.osl oq 1 0 Q.length) (v[m+1]) (v[m]) A.length s).le F)
  (hH:H o=some (.rows 1 (aE (A++W++Z)))) (hHq:H oq=some (.rows 1 (aE Q)))
  (hK:∀ F' H',(dF (.osl o 1 0 lu) (aF v) (m+2) (.osl oq 1 0 Q.length) (v[m+1]) (v[m]) A.length s).le F'→H' o=some (.rows 1 (aE (A++cV (m+3) (val W%val v)++Z)))→H' oq=some (.rows 1 (aE (Q.set A.length (val W/val v))))→K .normal F' H') :
  aD.wp C (.block 3 (.seq (.draw xX) (.seq (.draw xY) (.seq (.block 4 (.loop rG)) (.seq (.seq (.region yC) (.cond (.tmp 146) (.seq (.region yD) (.region yE)) .skip)) (.region rH)))))) K F H:=by
 have Kk:=a6X hW hv hlv hlW ht hlt
 have hgetU:∀ i (h:i<W.length),(aE (A++W++Z))[A.length+i]?=some [.int .u32 ((W[i]:Nat):Int)]:=fun i h=>a1K h
 have g0:=hgetU (m+2) (by omega)
 have g1:=hgetU (m+1) (by omega)
 have g2:=hgetU m (by omega)
 have hq:=Kk.a4G
 have htop:v[m+1]<4294967296:=hv _ (bgA _)
 have hu0:=hW _ (bgA (show m+2<W.length by omega))
 have hu1:=hW _ (bgA (show m+1<W.length by omega))
 have hVpos:=Kk.akR.1
 generalize hte:v[m+1]=top at *
 generalize hnx:v[m]=next at *
 generalize hw0:W[m+2]=u0 at *
 generalize hw1:W[m+1]=u1 at *
 generalize hw2:W[m]=u2 at *
 have f8:=hF 8 _ (by unfold dF; simp -implicitDefEqProofs only[go_sem,γ]; rfl)
 have f9:=hF 9 _ (by unfold dF; simp -implicitDefEqProofs only[go_sem,γ]; rfl)
 have f10:=hF 10 _ (by unfold dF; simp -implicitDefEqProofs only[go_sem,γ]; rfl)
 have f11:=hF 11 _ (by unfold dF; simp -implicitDefEqProofs only[go_sem,γ]; rfl)
 have f12:=hF 12 _ (by unfold dF; simp -implicitDefEqProofs only[go_sem,γ]; rfl)
 have f13:=hF 13 _ (by unfold dF; simp -implicitDefEqProofs only[go_sem,γ]; rfl)
 have f14:=hF 14 _ (by unfold dF; simp -implicitDefEqProofs only[go_sem,γ]; rfl)
 have f15:=hF 15 _ (by unfold dF; simp -implicitDefEqProofs only[go_sem,γ]; rfl)
 have e1:IntKind.i64.wrap ((A.length:Int)+((m+2:Nat):Int))=((A.length+(m+2):Nat):Int):=fH (by omega)
 have e2:IntKind.i64.wrap (((A.length+(m+2):Nat):Int)-1)=((A.length+(m+1):Nat):Int):=by rw[wrap_i64 (by omega) (by omega)]; omega
 have c0:((A.length+(m+2):Nat):Int)<(lu:Nat):=by omega
 have c1:((A.length+(m+1):Nat):Int)<(lu:Nat):=by omega
 have eu0:IntKind.u64.wrap ((u0:Nat):Int)=((u0:Nat):Int):=aZ (by omega)
 have eu1:IntKind.u64.wrap ((u1:Nat):Int)=((u1:Nat):Int):=aZ (by omega)
 have esh:shift .shl .u64 (u0:Int) 32=some (.int .u64 ((2 ^ 32*u0:Nat):Int)):=DZ (s:=32) (by omega) (by omega)
 have e32:(2:Nat) ^ 32=4294967296:=by decide
 have eor:=orI (a:=2 ^ 32*u0) (b:=u1) (n:=2 ^ 32*u0+u1) (by omega) (by omega) (Nat.two_pow_add_eq_or_of_lt (by omega) u0).symm (by omega)
 rw[e32] at esh eor
 have hcm:4294967296*u0+u1=u0*4294967296+u1:=by omega
 rw[hcm] at eor
 simp -implicitDefEqProofs only[go_sem]
 refine cD H dS PH.le_refl ?_
 simp -implicitDefEqProofs only[go_sem,γ,reduceCtorEq,xX,f9,f15,f11,e1,e2,c0,c1,hH,g0,g1,eu0,eu1,esh,eor]
 refine cD H dS PH.le_refl ?_
 have ht0:0<top:=by omega
 have htz:¬ ((top:Nat):Int)=0:=by omega
 generalize hhd:u0*4294967296+u1=head at *
 have equo:IntKind.u64.wrap (Int.tdiv ((head:Nat):Int) ((top:Nat):Int))=((head/top:Nat):Int):=by
  rw[show Int.tdiv ((head:Nat):Int) ((top:Nat):Int)=((head/top:Nat):Int) from rfl]
  exact aZ (by have:=Kk.g4; omega)
 have erem:Int.tmod ((head:Nat):Int) ((top:Nat):Int)=((head%top:Nat):Int):=rfl
 simp -implicitDefEqProofs only[go_sem,γ,xY,f13,htz,equo,erem]
 have guess:=ajL (C:=C) Kk htop o lu m A.length s (aF v) (.osl oq 1 0 Q.length) (by omega) (by omega) (A++W++Z) g2
 simp -implicitDefEqProofs only[go_sem] at guess
 refine guess _ _ H ?_ hH ?_
 ·unfold dG
  refine PF.aA (PF.aA (PF.aA (PF.aA (PF.aA (PF.aA (PF.aA (PF.aA (PF.aA (PF.aA PF.nil_le ?_) ?_) ?_) ?_) ?_) ?_) ?_) ?_) ?_) ?_<;>simp -implicitDefEqProofs only[go_sem,γ,f8,f9,f10,f11,f12,f13,f14,f15]
 clear guess
 intro g r F' q1 q2 q3 hF'
 have h8:=hF' 8 _ (by unfold dG; simp -implicitDefEqProofs only[go_sem,γ]; rfl)
 have h9:=hF' 9 _ (by unfold dG; simp -implicitDefEqProofs only[go_sem,γ]; rfl)
 have h10:=hF' 10 _ (by unfold dG; simp -implicitDefEqProofs only[go_sem,γ]; rfl)
 have h11:=hF' 11 _ (by unfold dG; simp -implicitDefEqProofs only[go_sem,γ]; rfl)
 have h12:=hF' 12 _ (by unfold dG; simp -implicitDefEqProofs only[go_sem,γ]; rfl)
 have h13:=hF' 13 _ (by unfold dG; simp -implicitDefEqProofs only[go_sem,γ]; rfl)
 have h14:=hF' 14 _ (by unfold dG; simp -implicitDefEqProofs only[go_sem,γ]; rfl)
 have h15:=hF' 15 _ (by unfold dG; simp -implicitDefEqProofs only[go_sem,γ]; rfl)
 have h17:=hF' 17 _ (by unfold dG; simp -implicitDefEqProofs only[go_sem,γ]; rfl)
 have e3:IntKind.i64.wrap (((A.length+(m+2):Nat):Int)+1)=((A.length+(m+3):Nat):Int):=by rw[wrap_i64 (by omega) (by omega)]; omega
 have c3:((A.length:Nat):Int)≤((A.length+(m+3):Nat):Int):=by omega
 have c4:((A.length+(m+3):Nat):Int)≤(lu:Nat):=by omega
 have e4:A.length+(m+3)-A.length=v.length+1:=by omega
 have hvl:v.length+1=m+3:=by omega
 have hdm:val v*(val W/val v)+val W%val v=val W:=biV _ _
 have hWlt:=eD hW
 rw[hlW] at hWlt
 have hmodlt:val W%val v<val v:=bgX _ hVpos
 have hvlt:=eD hv
 rw[hlv] at hvlt
 have hpow:4294967296 ^ (m+3)=4294967296 ^ (m+2)*4294967296:=bhH _ _
 generalize hQd:val W/val v=qd at *
 generalize hRd:val W%val v=rd at *
 have hfin:∀ (F2:PF) (H2:PH),F2 8=some (.int .u64 s)→F2 9=some (.osl o 1 0 lu)→F2 10=some (aF v)→F2 11=some (.int .i64 ((m+2:Nat):Int))→F2 12=some (.osl oq 1 0 Q.length)→F2 13=some (.int .u64 top)→F2 14=some (.int .u64 next)→F2 15=some (.int .i64 A.length)→F2 17=some (.int .u64 qd) →
   H2 o=some (.rows 1 (aE (A++cV (m+3) rd++Z)))→H2 oq=some (.rows 1 (aE Q))→aD.wp C (.region rH) (eG 3 K) F2 H2:=by
  intro F2 H2 k8 k9 k10 k11 k12 k13 k14 k15 k17 kH kQ
  have hqr:(aE Q)[A.length]?=some [.int .u32 ((Q[A.length]:Nat):Int)]:=bJ Q hjq
  have hlq:((A.length:Nat):Int)<(Q.length:Nat):=by omega
  have eq:IntKind.u32.wrap ((qd:Nat):Int)=((qd:Nat):Int):=by rw[bX,bgW hq]
  have hrow:=eP Q A.length qd
  have hne':¬ o=oq:=fun h=>hne h.symm
  simp -implicitDefEqProofs only[go_sem,γ,rH,k12,k15,k17,eq,hlq,kQ,hqr,hrow]
  refine hK _ _ ?_ (by simp -implicitDefEqProofs only[go_sem,hne',kH]) (by simp -implicitDefEqProofs only[go_sem])
  unfold dF
  refine PF.aA (PF.aA (PF.aA (PF.aA (PF.aA (PF.aA (PF.aA (PF.aA PF.nil_le ?_) ?_) ?_) ?_) ?_) ?_) ?_) ?_<;>simp -implicitDefEqProofs only[go_sem,γ,k8,k9,k10,k11,k12,k13,k14,k15]
 have hle:(PH.nil.set o (.rows 1 (aE (A++W++Z)))).le H:=PH.aA PH.nil_le hH
 have hfit:val v*g≤val W+4294967296 ^ (v.length+1):=by
  have:val v*g≤val v*(qd+1):=bhZ _ q2
  rw[bgC,Nat.mul_one] at this
  rw[hvl,hpow]; omega
 simp -implicitDefEqProofs only[go_sem,γ,reduceCtorEq,yC,h9,h15,h11,e1,e3,c3,c4,e4,h10,h17]
 refine lE (D.subtract A W Z v g o hW hv (by omega) (by omega) q3 hfit) rfl hle ?_
 rintro rr H' ⟨rfl,rfl⟩ -
 rw[PH.qB]
 by_cases hgq:g=qd
 ·subst hgq
  have hneg:¬ val W<val v*g:=by omega
  have hN:EA (v.length+1) (val W) (val v*g)=rd:=by unfold EA; rw[if_neg hneg]; omega
  rw[hN,hvl]
  simp -implicitDefEqProofs only[go_sem,γ,hneg]
  have:=hfin
  simp -implicitDefEqProofs only[go_sem] at this
  refine this _ _ ?_ ?_ ?_ ?_ ?_ ?_ ?_ ?_ ?_ ?_ ?_<;>simp -implicitDefEqProofs only[go_sem,γ,h8,h9,h10,h11,h12,h13,h14,h15,h17,hne,hHq]
 ·have hg1:g=qd+1:=by omega
  subst hg1
  rw[bgC,Nat.mul_one]
  have hneg:val W<val v*qd+val v:=by omega
  have hN:EA (v.length+1) (val W) (val v*qd+val v)=rd+4294967296 ^ (m+3)-val v:=by unfold EA; rw[if_pos hneg,hvl]; omega
  rw[hN]
  have w1:IntKind.u64.wrap (((qd+1:Nat):Int)-1)=((qd:Nat):Int):=by rw[wrap_u64 (by omega) (by omega)]; omega
  simp -implicitDefEqProofs only[go_sem,γ,reduceCtorEq,hneg,yD,h17,w1,yE,h9,h15,h11,e1,e3,c3,c4,e4,h10]
  have hD':val (cV (v.length+1) (rd+4294967296 ^ (m+3)-val v))=rd+4294967296 ^ (m+3)-val v:=lM (by rw[hvl]; omega)
  refine lE (D.restore A (cV (v.length+1) (rd+4294967296 ^ (m+3)-val v)) Z v o (kC _ _) hv (jE _ _) (by omega)) rfl (PH.aA PH.nil_le (by simp -implicitDefEqProofs only[go_sem])) ?_
  rintro rr H' ⟨rfl,rfl⟩ -
  rw[PH.qB,PH.set_set,hD']
  have hfinal:cV (v.length+1) (rd+4294967296 ^ (m+3)-val v+val v)=cV (m+3) rd:=by
   rw[hvl,← alI (m+3) (rd+4294967296 ^ (m+3)-val v+val v)]
   rw[show rd+4294967296 ^ (m+3)-val v+val v=rd+4294967296 ^ (m+3) by omega,Nat.add_mod_right,alI]
  rw[hfinal]
  simp -implicitDefEqProofs only[go_sem]
  have:=hfin
  simp -implicitDefEqProofs only[go_sem] at this
  refine this _ _ ?_ ?_ ?_ ?_ ?_ ?_ ?_ ?_ ?_ ?_ ?_<;>simp -implicitDefEqProofs only[go_sem,γ,h8,h9,h10,h11,h12,h13,h14,h15,hne,hHq]
end Go.PM
namespace Go.PM
open Go
section
variable {C:Ctx} {K:cC} {F:PF} {H Hs:PH} {S:Spec}
theorem aBP {name:Nat} {vs:List PV} {R:PV→PH→Prop} {args:List aM} {st:Bool} {d:Option Nat} {K:PF→PH→Prop} (hS:S name vs=some ([],fun _=>R)) (h:aI C name vs .nil R) (ha:aM.evs F args=some vs)
  (hex:∀ G:PH,∃ r H',R r H'∧kU G .nil H') (hk:∀ r H',R r H'→kU H .nil H'→Hs.le (H.over .nil H')∧K (F.put d r) (H.over .nil H')):dOp C Hs S st (.call name args) d K F H:=by
 refine⟨vs,[],fun _=>R,ha,hS,fun o ho=>by simp at ho,by rw[DQ]; exact h,fun G=>?_,fun r H' hr ha=>?_⟩
 ·obtain⟨r,H',h1,h2⟩:=hex G
  exact⟨r,H',h1,fun o x hx hn=>h2 o x hx (by simp[PH.nil])⟩
 ·rw[DQ] at ha ⊢
  exact hk r H' hr ha
theorem PH.over_self (H0:PH) (h:H0.le H):H.over H0 H0=H:=PH.ext fun q=>by
 rw[lK]
 cases e:H0 q with
 | none=>rfl
 | some x=>exact (h q x e).symm
theorem atW {o:Nat} {x:bV} (h:H o=some x):H.only [o]=PH.nil.set o x:=PH.ext fun q=>by
 rw[oU,aV]
 by_cases e:q=o
 ·subst e; simp[h]
 ·simp[e,ZZ]
theorem PI {name o:Nat} {x:bV} {vs:List PV} {v:PV} {R:PH→PV→PH→Prop} {args:List aM} {st:Bool} {d:Option Nat} {K:PF→PH→Prop} (hS:S name vs=some ([o],R)) (ho:H o=some x)
  (h:aI C name vs (PH.nil.set o x) (fun r H'=>r=v∧H'=PH.nil.set o x)) (hR1:R (PH.nil.set o x) v (PH.nil.set o x)) (hR2:∀ r H',R (PH.nil.set o x) r H'→r=v∧H'=PH.nil.set o x) (ha:aM.evs F args=some vs) (hle:Hs.le H) (hk:K (F.put d v) H) :
  dOp C Hs S st (.call name args) d K F H:=by
 have e:=atW ho
 refine⟨vs,[o],_,ha,hS,fun q hq=>?_,?_,fun G=>⟨v,_,by rw[e]; exact hR1,fun q y hy hn=>?_⟩,fun r H' hr _=>?_⟩
 ·simp at hq; subst hq; exact⟨x,ho⟩
 ·rw[e]
  exact h.post fun r H' hr=>⟨r,.refl _,by rw[hr.1,hr.2]; exact hR1⟩
 ·rw[e] at hn; rw[hy] at hn; cases hn
 ·rw[e] at hr
  obtain⟨rfl,rfl⟩:=hR2 r H' hr
  rw[e,PH.over_self _ (by rw[← e]; exact abD H [o])]
  exact⟨hle,hk⟩
theorem aBE {c:aD} {α:Type} (Fs:α→PF) (Hs:α→PH) (Pr:α→Prop) (m:α→Nat) (a0:α) (o:Nat) {s:Nat} {rs:List (List PV)} (ho:H o=some (.rows s rs)) (h0:Pr a0) (hF:(Fs a0).le (F.frz o s rs)) (hH:(Hs a0).le (H.frz o s rs))
  (hb:∀ a,Pr a→c.wp C (fQ Fs Hs Pr m (m a) K) (Fs a) (Hs a)):aD.wp C (.loop c) K F H :=
 ⟨α,Fs,Hs,Pr,m,a0,_,_,.step o ho (.refl _ _),h0,hF,hH,hb⟩
@[go_sem] theorem MA (o s:Nat) (rs:List (List PV)) (q:Nat):(H.frz o s rs) q=if q=o then none else (H q).map (bV.frz o s rs):=rfl
theorem aQL {t u o1 o2 s1 s2 k1 k2:Nat} {rs1 rs2:List (List PV)} {R:PV→PH→Prop} {e:kE} (he:e=.normal∨e=.ret) (hne:o1≠o2) (h1:F t=some (.osl o1 s1 0 k1)) (h2:F u=some (.osl o2 s2 0 k2)) (ho1:H o1=some (.rows s1 rs1)) (ho2:H o2=some (.rows s2 rs2))
  (hk1:k1≤rs1.length) (hk2:k2≤rs2.length) (hp2:rs2.map (fun r=>r.map (PV.cR o1 s1 rs1))=rs2) (hp1:(rs1.take k1)=rs1.take k1) (hR:R (.tup [.sl s1 (rs1.take k1),.sl s2 (rs2.take k2)]) .nil):aX [.tmp t,.tmp u] R e F H:=by
 have key:∃ vs,dC.evs F H [.tmp t,.tmp u]=some vs∧∃ F1 H1 H2,gO (PF.nil.set 0 (cN vs)) H F1 H1∧H2.le H1∧∃ w,F1 0=some w∧R w H2:=by
  have hne':o2≠o1:=fun h=>hne h.symm
  have e2:(H.frz o1 s1 rs1) o2=some (.rows s2 rs2):=by rw[MA,if_neg hne',ho2]; simp only[bhC,bV.frz,hp2]
  refine⟨[.osl o1 s1 0 k1,.osl o2 s2 0 k2],by rw[jK,lL,h1,jK,lL,h2,nB],_,_,.nil,.step o1 ho1 (.step o2 e2 (.refl _ _)),PH.nil_le,_,?_,hR⟩
  have a1:0+k1≤rs1.length:=by omega
  have a2:0+k2≤rs2.length:=by omega
  simp only[PF.frz,kS,if_true,cN,bhC,PV.frz,PV.pR,PV.cR,bhA,bhV,true_and,if_pos a1,if_pos a2,bgV,if_neg hne']
 rcases he with rfl | rfl<;>exact key
end
end Go.PM
namespace Go.Na
structure mB (U0 V n lu lq:Nat) (k:Nat) (U Q:List Nat):Prop where
 lu':U.length=lu
 lq':Q.length=lq
 limU:Lim U
 limQ:Lim Q
 v:val U+val Q*V=U0
 r:val (U.drop k)<V
 z:∀ i x,i<k→Q[i]?=some x→x=0
theorem alJ {U0 V n lu lq j:Nat} {U Q:List Nat} (h:mB U0 V n lu lq (j+1) U Q) (hV:V<4294967296 ^ n) (hj:j<lq) (hl:lu=lq+n) :
  val ((U.drop j).take (n+1))<V*4294967296∧mB U0 V n lu lq j (U.take j++cV (n+1) (val ((U.drop j).take (n+1))%V)++U.drop (j+(n+1))) (Q.set j (val ((U.drop j).take (n+1))/V)):=by
 have hlu:=h.lu'
 have hlq:=h.lq'
 have hVpos:0<V:=by have:=h.r; omega
 have hju:j<U.length:=by omega
 have e1:val (U.drop j)=U[j]+4294967296*val (U.drop (j+1)):=by rw[bhP hju]; rfl
 have hUj:=h.limU _ (bgA hju)
 have hlt:val (U.drop j)<V*4294967296:=by have:=h.r; omega
 have hlW:((U.drop j).take (n+1)).length=n+1:=by rw[bgJ,bhQ]; omega
 have e2:val (U.drop j)=val ((U.drop j).take (n+1))+4294967296 ^ (n+1)*val (U.drop (j+(n+1))):=by
  conv=>lhs; rw[← biC (n+1) (U.drop j),eZ,hlW,List.drop_drop]
 have hpow:4294967296 ^ (n+1)=4294967296 ^ n*4294967296:=bhH _ _
 have hVB:V*4294967296≤4294967296 ^ n*4294967296:=bgU _ (Nat.le_of_lt hV)
 have hZ:val (U.drop (j+(n+1)))=0:=by
  rcases biB (val (U.drop (j+(n+1)))) with h0 | h0
  ·exact h0
  ·have:=bhZ (4294967296 ^ (n+1)) h0
   omega
 rw[hZ,Nat.mul_zero,bhY] at e2
 generalize hW:val ((U.drop j).take (n+1))=W at *
 have e3:val U=val (U.take j)+4294967296 ^ j*W:=by
  conv=>lhs; rw[← biC j U,eZ,bgJ,bhT (by omega),e2]
 have hmod:W%V<V:=bgX _ hVpos
 have hdm:V*(W/V)+W%V=W:=biV _ _
 have hqB:W/V<4294967296:=by rw[biJ hVpos,bgO]; omega
 have hD:val (cV (n+1) (W%V))=W%V:=lM (by omega)
 have hQj:Q[j]=0:=h.z j _ (by omega) (bgF (by omega))
 have hset:=AO (show j<Q.length by omega) (W/V)
 rw[hQj,Nat.mul_zero,bhY] at hset
 have hlt':(U.take j).length=j:=by rw[bgJ]; omega
 refine⟨by omega,?_,?_,?_,?_,?_,?_,?_⟩
 ·simp only[bfW,jE,bhQ,bgJ]; omega
 ·rw[bhO]; exact hlq
 ·exact ((h.limU.take j).app (kC _ _)).app (h.limU.drop _)
 ·exact h.limQ.set _ hqB
 ·rw[bgY,eZ,eZ,hlt',hD,jE,hZ,Nat.mul_zero,bhY,hset]
  have:=h.v
  have h5:(val Q+4294967296 ^ j*(W/V))*V=val Q*V+4294967296 ^ j*(V*(W/V)):=by
   rw[bgS,bgK,bgO (W/V) V]
  have h6:4294967296 ^ j*W=4294967296 ^ j*(V*(W/V))+4294967296 ^ j*(W%V):=by rw[← bgC,hdm]
  omega
 ·rw[bgY,List.drop_append_of_le_length (by omega),bjA (by omega),biR,eZ,hD,hZ,Nat.mul_zero,bhY]
  exact hmod
 ·intro i x hi hx
  rw[List.getElem?_set_ne (by omega)] at hx
  exact h.z i x (by omega) hx
end Go.Na
namespace Go.PM
open Go Go.Na
def dI (u v:PV) (n:Nat) (q:PV) (top next s:Nat) (j:Int):PF:=((((((((PF.nil.set 8 (.int .u64 s)).set 9 (u)).set 10 (v)).set 11 (.int .i64 n)).set 12 (q)).set 13 (.int .u64 top)).set 14 (.int .u64 next)).set 15 (.int .i64 j))
theorem oQ (o s:Nat) (rs:List (List PV)) (L:List Nat):(aE L).map (fun r=>r.map (PV.cR o s rs))=aE L:=by
 unfold aE
 rw[List.map_map]
 rfl
theorem asR {C:Ctx} (D:ajV C) (U0 m lu lq o o2 oq s:Nat) (v vfull:List Nat) (h2:o2≠o) (h3:oq≠o) (h4:oq≠o2) (hv:Lim v) (hlv:v.length=m+2) (hvf:(aE vfull).take (m+2)=aE v) (hvl:m+2≤vfull.length) (ht:2147483648≤v[m+1])
  (hlu:lu=lq+(m+2)) (hmax:lu≤10000) (U:List Nat) (hI:mB U0 (val v) (m+2) lu lq lq U (bfV lq 0)) (K:cC) (F:PF) (H:PH)
  (hF:(dI (.osl o 1 0 lu) (.osl o2 1 0 (m+2)) (m+2) (.osl oq 1 0 lq) (v[m+1]) (v[m]) s ((lq:Int)-1)).le F) (hH:H o=some (.rows 1 (aE U))) (hHv:H o2=some (.rows 1 (aE vfull))) (hHq:H oq=some (.rows 1 (aE (bfV lq 0))))
  (hK:∀ U' Q' F',mB U0 (val v) (m+2) lu lq 0 U' Q'→(dI (.osl o 1 0 lu) (aF v) (m+2) (.osl oq 1 0 lq) (v[m+1]) (v[m]) s (-1)).le F'→K .normal F' ((PH.nil.set o (.rows 1 (aE U'))).set oq (.rows 1 (aE Q')))) :
  aD.wp C (.block 2 (.loop xV)) K F H:=by
 have f8:=hF 8 _ (by unfold dI; simp -implicitDefEqProofs only[go_sem,γ]; rfl)
 have f9:=hF 9 _ (by unfold dI; simp -implicitDefEqProofs only[go_sem,γ]; rfl)
 have f10:=hF 10 _ (by unfold dI; simp -implicitDefEqProofs only[go_sem,γ]; rfl)
 have f11:=hF 11 _ (by unfold dI; simp -implicitDefEqProofs only[go_sem,γ]; rfl)
 have f12:=hF 12 _ (by unfold dI; simp -implicitDefEqProofs only[go_sem,γ]; rfl)
 have f13:=hF 13 _ (by unfold dI; simp -implicitDefEqProofs only[go_sem,γ]; rfl)
 have f14:=hF 14 _ (by unfold dI; simp -implicitDefEqProofs only[go_sem,γ]; rfl)
 have f15:=hF 15 _ (by unfold dI; simp -implicitDefEqProofs only[go_sem,γ]; rfl)
 have hne2:¬ o=o2:=fun h=>h2 h.symm
 have hne4:¬ oq=o2:=h4
 have hne3:¬ o=oq:=fun h=>h3 h.symm
 have hfi:∀ (k:IntKind) (n:Int),PV.frz o2 1 (aE vfull) (.int k n)=.int k n:=fun _ _=>rfl
 have hfu:∀ l,PV.frz o2 1 (aE vfull) (.osl o 1 0 l)=.osl o 1 0 l:=fun l=>by simp only[PV.frz,PV.pR,PV.cR,if_neg hne2]
 have hfq:∀ l,PV.frz o2 1 (aE vfull) (.osl oq 1 0 l)=.osl oq 1 0 l:=fun l=>by simp only[PV.frz,PV.pR,PV.cR,if_neg hne4]
 have hfv:PV.frz o2 1 (aE vfull) (.osl o2 1 0 (m+2))=aF v:=by
  have:0+(m+2)≤(aE vfull).length:=by rw[bQ]; omega
  simp only[PV.frz,PV.pR,PV.cR,if_true,true_and,if_pos this,bgV,hvf]
 simp -implicitDefEqProofs only[go_sem]
 refine aBE (α:=Nat × List Nat × List Nat) (fun t=>dI (.osl o 1 0 lu) (aF v) (m+2) (.osl oq 1 0 lq) (v[m+1]) (v[m]) s ((t.1:Int)-1)) (fun t=>(PH.nil.set o (.rows 1 (aE t.2.1))).set oq (.rows 1 (aE t.2.2)))
  (fun t=>t.1≤lq∧mB U0 (val v) (m+2) lu lq t.1 t.2.1 t.2.2) (fun t=>t.1) (lq,U,bfV lq 0) o2 hHv ⟨bfX _,hI⟩ ?_ ?_ ?_
 ·unfold dI
  refine PF.aA (PF.aA (PF.aA (PF.aA (PF.aA (PF.aA (PF.aA (PF.aA PF.nil_le ?_) ?_) ?_) ?_) ?_) ?_) ?_) ?_<;>simp -implicitDefEqProofs only[go_sem,f8,f9,f10,f11,f12,f13,f14,f15,hfi,hfu,hfq,hfv]
 ·refine PH.aA (PH.aA PH.nil_le ?_) ?_
  ·simp -implicitDefEqProofs only[go_sem,hne2,hH,bV.frz,oQ]
  ·simp -implicitDefEqProofs only[go_sem,hne4,hHq,bV.frz,oQ]
 rintro⟨k,U,Q⟩ ⟨hk,hI⟩
 simp only at hk hI
 simp -implicitDefEqProofs only[go_sem,γ,xV,NP,dI]
 by_cases h0:0<k
 ·obtain⟨j,rfl⟩:∃ j,k=j+1:=⟨k-1,by omega⟩
  have hz:((j+1:Nat):Int)-1=(j:Int):=by omega
  have hge:(j:Int)≥0:=by omega
  have hVlt:val v<4294967296 ^ (m+2):=by have:=eD hv; rw[hlv] at this; exact this
  obtain⟨hlt,hI'⟩:=alJ hI hVlt (by omega) hlu
  have hUl:=hI.lu'
  have hQl:=hI.lq'
  have hA:(U.take j).length=j:=by rw[bgJ]; omega
  have hWl:((U.drop j).take (m+3)).length=m+3:=by rw[bgJ,bhQ]; omega
  have hsplit:U.take j++(U.drop j).take (m+3)++U.drop (j+(m+3))=U:=by
   rw[bgY,← List.drop_drop,biC,biC]
  have hZl:(U.drop (j+(m+3))).length=lu-(j+(m+3)):=by rw[bhQ,hUl]
  have key:=ajK (C:=C) D (U.take j) ((U.drop j).take (m+3)) (U.drop (j+(m+3))) v Q m o oq lu s h3 ((hI.limU.drop _).take _) hv hlv hWl ht hlt (by rw[hA,hZl]; omega) hmax (by rw[hA]; omega)
  rw[hA,hsplit,hQl] at key
  have e15:IntKind.i64.wrap ((j:Int)-1)=(j:Int)-1:=wrap_i64 (by omega) (by omega)
  simp -implicitDefEqProofs only[go_sem,hz,hge]
  simp -implicitDefEqProofs only[go_sem] at key
  refine key _ _ _ ?_ (by simp -implicitDefEqProofs only[go_sem,hne3]) (by simp -implicitDefEqProofs only[go_sem]) ?_
  ·unfold dF
   (repeat' (first|exact PF.nil_le|refine PF.aA ?_ ?_))<;>first|(simp -implicitDefEqProofs only[go_sem,γ]<;>rfl)|rfl
  ·intro F' H' hF' hH' hHq'
   have g8:=hF' 8 _ (by unfold dF; simp -implicitDefEqProofs only[go_sem,γ]; rfl)
   have g9:=hF' 9 _ (by unfold dF; simp -implicitDefEqProofs only[go_sem,γ]; rfl)
   have g10:=hF' 10 _ (by unfold dF; simp -implicitDefEqProofs only[go_sem,γ]; rfl)
   have g11:=hF' 11 _ (by unfold dF; simp -implicitDefEqProofs only[go_sem,γ]; rfl)
   have g12:=hF' 12 _ (by unfold dF; simp -implicitDefEqProofs only[go_sem,γ]; rfl)
   have g13:=hF' 13 _ (by unfold dF; simp -implicitDefEqProofs only[go_sem,γ]; rfl)
   have g14:=hF' 14 _ (by unfold dF; simp -implicitDefEqProofs only[go_sem,γ]; rfl)
   have g15:=hF' 15 _ (by unfold dF; simp -implicitDefEqProofs only[go_sem,γ]; rfl)
   simp -implicitDefEqProofs only[go_sem,γ,NR,g15,e15]
   refine aJ (j,_,_) ⟨by simp only; omega,hI'⟩ (by simp only; omega) ?_ (PH.aA (PH.aA PH.nil_le hH') hHq')
   refine PF.aA (PF.aA (PF.aA (PF.aA (PF.aA (PF.aA (PF.aA (PF.aA PF.nil_le ?_) ?_) ?_) ?_) ?_) ?_) ?_) ?_<;>simp -implicitDefEqProofs only[go_sem,γ,g8,g9,g10,g11,g12,g13,g14]
 ·have:k=0:=by omega
  subst this
  have hz:¬ ((0:Nat):Int)-1≥0:=by decide
  simp -implicitDefEqProofs only[go_sem,hz]
  refine hK U Q _ hI ?_
  unfold dI
  (repeat' (first|exact PF.nil_le|refine PF.aA ?_ ?_))<;>first|(simp -implicitDefEqProofs only[go_sem,ο,γ,show ((0:Nat):Int)-1=-1 from rfl]<;>rfl)|rfl
end Go.PM
namespace Go.PM
open Go Go.Na
def rFr (o lu oq lq or n s i:Nat):PF:=((((((PF.nil.set 8 (.int .u64 s)).set 9 (.osl o 1 0 lu)).set 12 (.osl oq 1 0 lq)).set 19 (.osl or 1 0 n)).set 166 (.int .i64 n)).set 167 (.int .i64 i))
theorem a4O {x s:Nat} (hs:s≤64):shift .shr .u64 (x:Int) (s:Int)=some (.int .u64 ((x/2 ^ s:Nat):Int)):=by
 unfold shift
 rw[if_neg (by omega)]
 simp only
 have:min (Int.toNat (s:Int)) IntKind.u64.bits=s:=by
  rw[show IntKind.u64.bits=64 from rfl]; omega
 rw[this,Int.fdiv_eq_ediv_of_nonneg _ (by exact_mod_cast bgE _)]
 norm_cast
theorem asS {C:Ctx} (o lu oq lq n s:Nat) (U Q:List Nat) (hs:s<32) (h3:oq≠o) (hU:Lim U) (hl:U.length=lu) (hn:n<lu) (hmax:lu≤10000) (K:cC) (F:PF)
  (f8:F 8=some (.int .u64 s)) (f9:F 9=some (.osl o 1 0 lu)) (f11:F 11=some (.int .i64 n)) (f12:F 12=some (.osl oq 1 0 lq))
  (hK:∀ or F' H',or≠o→or≠oq→(rFr o lu oq lq or n s n).le F'→H' oq=some (.rows 1 (aE Q))→H' or=some (.rows 1 (aE (cV n (val U/2 ^ s))))→K .normal F' H') :
  aD.wp C (.seq (.region yF) (.seq (.region yG) (.block 6 (.loop xW)))) K F ((PH.nil.set o (.rows 1 (aE U))).set oq (.rows 1 (aE Q))):=by
 have hm1:((n:Nat):Int)*((4:Nat):Int)≤140737488355328:=by omega
 have hm2:((n:Nat):Int)≤9223372036854775807:=by omega
 have hz:bfV n [PV.int .u32 0]=aE ([]++bfV n 0):=by
  simp[aE]
 simp -implicitDefEqProofs only[go_sem,yF,f11,hm1,hm2,hz]
 refine aP fun or hor=>?_
 have n1:¬ or=oq:=(fW.1 hor).1
 have n2:¬ or=o:=(fW.1 (fW.1 hor).2).1
 have n1':¬ oq=or:=fun h=>n1 h.symm
 have n2':¬ o=or:=fun h=>n2 h.symm
 have n3:¬ oq=o:=h3
 have n3':¬ o=oq:=fun h=>n3 h.symm
 simp -implicitDefEqProofs only[go_sem,γ,yG]
 refine wp_loop (α:=List Nat) (fun P=>rFr o lu oq lq or n s P.length) (fun P=>((PH.nil.set o (.rows 1 (aE U))).set oq (.rows 1 (aE Q))).set or (.rows 1 (aE (P++bfV (n-P.length) 0)))) (fun P=>P.length≤n∧P=cV P.length (val U/2 ^ s)) (fun P=>n-P.length) []
  ⟨by simp,rfl⟩ ?_ ?_ ?_
 ·unfold rFr
  repeat' first|exact PF.nil_le|refine PF.aA ?_ ?_|rfl|assumption
 ·refine PH.aA (PH.aA (PH.aA PH.nil_le ?_) ?_) ?_<;>simp -implicitDefEqProofs only[go_sem,n1,n1',n2,n2',n3,n3',bhR]
 rintro P ⟨hP,hD⟩
 simp -implicitDefEqProofs only[go_sem,γ,xW,NS,rFr]
 by_cases c1:P.length<n
 ·have c1':(P.length:Int)<(n:Nat):=by omega
  obtain⟨k,hk⟩:∃ k,n-P.length=k+1:=⟨n-P.length-1,by omega⟩
  have hin:(aE (P++bfV (k+1) 0))[P.length]?=some [.int .u32 ((0:Nat):Int)]:=by
   rw[bJ _ (by simp)]; simp
  have a0:P.length<U.length:=by omega
  have a1:P.length+1<U.length:=by omega
  have b0:(P.length:Int)<(lu:Nat):=by omega
  have b1:((P.length+1:Nat):Int)<(lu:Nat):=by omega
  have hu0:=hU _ (bgA a0)
  have hu1:=hU _ (bgA a1)
  have e:val U/4294967296 ^ P.length=U[P.length]+4294967296*(U[P.length+1]+4294967296*val (U.drop (P.length+2))):=by
   rw[← qZ hU (by omega),bhP a0,bhP a1]
   rfl
  have hdig:=OI hs e
  have g0:=bJ U a0
  have g1:=bJ U a1
  generalize hx0:U[P.length]=u0 at *
  generalize hx1:U[P.length+1]=u1 at *
  have e1:IntKind.i64.wrap ((P.length:Int)+1)=((P.length+1:Nat):Int):=aN (by omega)
  have eu0:IntKind.u64.wrap ((u0:Nat):Int)=((u0:Nat):Int):=aZ (by omega)
  have eu1:IntKind.u64.wrap ((u1:Nat):Int)=((u1:Nat):Int):=aZ (by omega)
  have esh:shift .shl .u64 (u1:Int) 32=some (.int .u64 ((2 ^ 32*u1:Nat):Int)):=DZ (s:=32) (by omega) (by omega)
  have e32:(2:Nat) ^ 32=4294967296:=by decide
  have eor:=orI (a:=2 ^ 32*u1) (b:=u0) (n:=2 ^ 32*u1+u0) (by omega) (by omega) (Nat.two_pow_add_eq_or_of_lt (by omega) u1).symm (by omega)
  rw[e32] at esh eor
  have eshr:=a4O (x:=4294967296*u1+u0) (s:=s) (by omega)
  have hrow:(aE (P++bfV (k+1) 0)).set P.length [.int .u32 (((4294967296*u1+u0)/2 ^ s%4294967296:Nat):Int)]=aE ((P++[(4294967296*u1+u0)/2 ^ s%4294967296])++bfV k 0):=by
   rw[eP,uC]
  simp -implicitDefEqProofs only[go_sem,γ,c1',NT]
  refine cD .nil dS PH.nil_le ?_
  simp -implicitDefEqProofs only[go_sem,γ,reduceCtorEq,NU,c1',e1,b0,b1,n2',n3',g0,g1,eu0,eu1,esh,eor,eshr,bX,hk,hin,hrow]
  refine⟨PH.nil_le,?_⟩
  simp -implicitDefEqProofs only[go_sem,γ,NV,e1]
  refine aJ (P++[(4294967296*u1+u0)/2 ^ s%4294967296]) ⟨by simp; omega,?_⟩ (by simp; omega) ?_ (PH.aA (PH.aA (PH.aA PH.nil_le ?_) ?_) ?_)
  ·rw[bfW,bfZ,rS,← hD,hdig]
  ·rw[bfW,bfZ]
   (repeat' (first|exact PF.nil_le|refine PF.aA ?_ ?_))<;>first|(simp -implicitDefEqProofs only[go_sem,γ]<;>rfl)|rfl
  ·simp -implicitDefEqProofs only[go_sem,n2',n3']
  ·simp -implicitDefEqProofs only[go_sem,n1']
  ·rw[bfW,bfZ,show n-(P.length+1)=k by omega]
   simp -implicitDefEqProofs only[go_sem]
 ·have e:P.length=n:=by omega
  have c1':¬ (P.length:Int)<(n:Nat):=by omega
  have hrep:bfV (n-P.length) 0=[]:=by rw[show n-P.length=0 by omega]; rfl
  rw[e] at hD
  simp -implicitDefEqProofs only[go_sem,c1',hrep,bhN]
  refine hK or _ _ n2 n1 ?_ (by simp -implicitDefEqProofs only[go_sem,n1']) (by simp -implicitDefEqProofs only[go_sem]; rw[← hD])
  unfold rFr
  rw[e]
  (repeat' (first|exact PF.nil_le|refine PF.aA ?_ ?_))<;>first|(simp -implicitDefEqProofs only[go_sem,γ]<;>rfl)|rfl
end Go.PM
namespace Go.PM
open Go Go.Na
structure akK (C:Ctx):Prop where
 L:nP C
 D:ajV C
 up:∀ (a:List Nat) (s:Nat),Lim a→s<32→a.length≤1000→aI C 143 [aF a,.int .u64 s] .nil (upR a s)
 short:∀ (a:List Nat) (d:Nat),Lim a→0<d→d<4294967296→a.length≤1000→aI C 140 [aF a,.int .u32 d] .nil (aL (.tup [aF (aG (val a/d)),.int .u32 ((val a%d:Nat):Int)]))
 lengthO:∀ (xs:List Nat) (o:Nat),Lim xs→xs.length≤16777216→aI C 138 [.osl o 1 0 xs.length] (PH.nil.set o (.rows 1 (aE xs))) (fun r H'=>r=.int .i64 (nl (val xs):Nat)∧H'=PH.nil.set o (.rows 1 (aE xs)))
def aTI:Spec:=fun name vs=>match name,vs with
 | 143,[x,.int _ s]=>some ([],fun _=>upR (jD x) s.toNat)
 | 138,[.osl q _ _ _]=>some ([q],fun H0 r H'=>H'=H0∧∀ xs,Lim xs→H0 q=some (.rows 1 (aE xs))→r=.int .i64 (nl (val xs):Nat))
 | _,_=>none
theorem aBQ (a:List Nat) (s:Nat):aTI 143 [aF a,.int .u64 s]=some ([],fun _=>upR a s):=by
 show some _=_; rw[eH,Int.toNat_natCast]
theorem axP (a:List Nat) (s:Nat):∀ G:PH,∃ r H',upR a s r H'∧kU G .nil H':=fun G=>by
 obtain⟨o,ho⟩:=G.fresh
 refine⟨_,_,⟨o,rfl,rfl⟩,fun q x hx _=>?_⟩
 rw[aV] at hx
 split at hx
 ·rename_i e; subst e; exact ho
 ·cases hx
theorem IJ {xs ys:List Nat} (h:aE xs=aE ys):xs=ys:=by
 have:=congrArg jD (show aF xs=aF ys by show PV.sl 1 (aE xs)=PV.sl 1 (aE ys); rw[h])
 rwa [eH,eH] at this
theorem afK (q:Nat) (L:List Nat):(PH.nil.set q (.rows 1 (aE L)))=(PH.nil.set q (.rows 1 (aE L)))∧∀ xs,Lim xs→(PH.nil.set q (.rows 1 (aE L))) q=some (.rows 1 (aE xs))→(PV.int .i64 (nl (val L):Nat))=.int .i64 (nl (val xs):Nat):=by
 refine⟨rfl,fun xs hx e=>?_⟩
 rw[gS] at e
 have:aE L=aE xs:=(bV.rows.inj (biA.inj e)).2
 rw[IJ this]
def nG (A B:Nat):PV:=.tup [aF (aG (A/B)),aF (aG (A%B))]
def aLB (a b:List Nat) (s:Nat):PF:=(((PF.nil.set 0 (aF a)).set 1 (aF b)).set 8 (.int .u64 s))
theorem a1N {x s:Nat} (hs:s≤31) (h:x*2 ^ s<4294967296):shift .shl .u32 (x:Int) (s:Int)=some (.int .u32 ((x*2 ^ s:Nat):Int)):=by
 unfold shift
 rw[if_neg (by omega)]
 simp only
 have:min (Int.toNat (s:Int)) IntKind.u32.bits=s:=by
  rw[show IntKind.u32.bits=32 from rfl]; omega
 rw[this,show (x:Int)*2 ^ s=((x*2 ^ s:Nat):Int) by simp,bX,bgW h]
theorem ayP {n i x:Nat} (hx:(bfV n 0)[i]?=some x):x=0:=by
 have:=biF hx
 rw[List.mem_replicate] at this
 exact this.2
theorem aLD {C:Ctx} (Lb:akK C) (A B:Nat) (hB:B≠0) (hA:nl A≤900) (hBl:nl B≤900) :
  uT.wp C (aX AC.res (bY (nG A B))) (PF.args [aF (aG A),aF (aG B)]) .nil:=by
 have LA:=bE A
 have LB:=bE B
 have vA:=aY A
 have vB:=aY B
 have lA:(aG A).length=nl A:=rfl
 have lB:(aG B).length=nl B:=rfl
 simp -implicitDefEqProofs only[go_sem,γ,reduceCtorEq,uT,WH,WI,AC]
 refine aB (Lb.L.cmp _ _ LA LB (by omega) (by omega)) rfl ?_
 rw[vA,vB]
 by_cases c1:A<B
 ·have hc:dD A B<0:=by simp[dD,c1]
  simp -implicitDefEqProofs only[go_sem,γ,reduceCtorEq,hc,WJ]
  refine aB (Lb.L.trim _ LA (by omega)) rfl ?_
  rw[vA]
  simp -implicitDefEqProofs only[go_sem,γ]
  refine aW (vs:=[.nils,aF (aG A)]) (.inr rfl) .nil rfl PH.nil_le ⟨?_,rfl⟩
  rw[nG,biW c1,bgW c1,eY]
  refine .tup rfl fun j p q hp hq=>?_
  match j with
  | 0=>simp at hp hq; subst hp; subst hq; exact .nil 1
  | 1=>simp at hp hq; subst hp; subst hq; exact .refl _
  | j+2=>simp at hp
 have hc:¬ dD A B<0:=by
  unfold dD
  rw[if_neg c1]
  split<;>decide
 have hB0:0<B:=biD hB
 have hnB:nl B≠0:=fun h=>hB (iT.1 h)
 simp -implicitDefEqProofs only[go_sem,γ,hc,WK]
 by_cases c2:nl B=1
 ·have hBB:B<4294967296:=by have:=(gM B 1).1 (by omega); simpa using this
  have hlb:aG B=[B]:=lI hB hBB
  have hr:A%B<B:=bgX _ hB0
  have ew:IntKind.u64.wrap ((A%B:Nat):Int)=((A%B:Nat):Int):=aZ (by omega)
  rw[hlb]
  have hsh:=Lb.short (aG A) B LA hB0 hBB (by omega)
  rw[vA] at hsh
  simp -implicitDefEqProofs only[go_sem,ν,γ,reduceCtorEq,show (((1:Nat):Int)==1)=true from rfl,WL]
  refine aB hsh rfl ?_
  simp -implicitDefEqProofs only[go_sem,γ,WM,ew]
  refine aB (Lb.L.make (A%B) (by omega)) rfl ?_
  simp -implicitDefEqProofs only[go_sem,γ]
  exact aW (vs:=[aF (aG (A/B)),aF (aG (A%B))]) (.inr rfl) .nil rfl PH.nil_le ⟨.refl _,rfl⟩
 obtain⟨m,hm⟩:∃ m,nl B=m+2:=⟨nl B-2,by omega⟩
 have hAB:nl B≤nl A:=gK (by omega)
 obtain⟨bt,hbt,hbt0⟩:=avG LB (n:=m+1) (by rw[vB]; exact hm)
 have hml:m+1<(aG B).length:=by omega
 have hbtl:bt<4294967296:=LB bt (biF hbt)
 have hBv:B=val ((aG B).take (m+1))+4294967296 ^ (m+1)*bt:=by
  have h1:=bT (aG B) hml
  rw[bgH (by omega),vB] at h1
  rw[bgF hml] at hbt
  rw[biA.inj hbt] at h1
  exact h1
 have hBlow:=eD (LB.take (m+1))
 rw[bgJ,bhT (by omega)] at hBlow
 have hrow:(aE (aG B))[m+1]?=some [.int .u32 ((bt:Nat):Int)]:=by
  rw[bJ _ hml]
  rw[bgF hml] at hbt
  rw[biA.inj hbt]
 have i1:IntKind.i64.wrap ((((aG B).length:Nat):Int)-1)=((m+1:Nat):Int):=by rw[wrap_i64 (by omega) (by omega)]; omega
 have hne1:¬ (((aG B).length:Nat):Int)=1:=by omega
 simp -implicitDefEqProofs only[go_sem,bD hne1,WN]
 refine wp_loop (α:=Nat) (fun s=>aLB (aG A) (aG B) s) (fun _=>.nil) (fun s=>s≤31∧bt*2 ^ s<4294967296) (fun s=>32-s) 0 ⟨by omega,by simpa using hbtl⟩ ?_ PH.nil_le ?_
 ·unfold aLB
  (repeat' (first|exact PF.nil_le|refine PF.aA ?_ ?_))<;>first|(simp -implicitDefEqProofs only[go_sem,γ,reduceCtorEq]<;>rfl)|rfl
 rintro s ⟨hs,hbs⟩
 have esh:=a1N hs hbs
 simp -implicitDefEqProofs only[go_sem,γ,reduceCtorEq,WG,WO,aLB,i1,hrow,esh]
 refine aTE ?_ ?_
 ·intro c3
  have c3':=of_decide_eq_true c3
  have hs30:s<31:=by
   rcases bgI s 31 with h | h
   ·exact h
   ·exfalso
    have h1:2147483648≤2 ^ s:=Nat.pow_le_pow_right (show 0<2 by decide) h
    have h2:1*2 ^ s≤bt*2 ^ s:=bgU _ (by omega)
    omega
  have es:IntKind.u64.wrap ((s:Int)+1)=((s+1:Nat):Int):=by rw[wrap_u64 (by omega) (by omega)]; omega
  simp -implicitDefEqProofs only[go_sem,γ,reduceCtorEq,WP,es]
  refine aJ (s+1) ⟨by omega,by rw[bhH,← bgK]; omega⟩ (by omega) ?_ PH.nil_le
  (repeat' (first|exact PF.nil_le|refine PF.aA ?_ ?_))<;>first|(simp -implicitDefEqProofs only[go_sem,γ,reduceCtorEq]<;>rfl)|rfl
 intro c3
 have c3':=of_decide_eq_false c3
 have hs32:s<32:=by omega
 have hp2:0<2 ^ s:=biE (by decide)
 have hVlo:2147483648*4294967296 ^ (m+1)≤B*2 ^ s:=by
  have h1:2147483648*4294967296 ^ (m+1)≤(bt*2 ^ s)*4294967296 ^ (m+1):=bgU _ (by omega)
  have h2:(4294967296 ^ (m+1)*bt)*2 ^ s≤B*2 ^ s:=bgU _ (by omega)
  have h3:(4294967296 ^ (m+1)*bt)*2 ^ s=(bt*2 ^ s)*4294967296 ^ (m+1):=by rw[bgK,bgO]
  omega
 have hVhi:B*2 ^ s<4294967296 ^ (m+2):=by
  have h0:(bt+1)*2 ^ s≤4294967296:=by
   have e32:(4294967296:Nat)=2 ^ (32-s)*2 ^ s:=by rw[← Nat.pow_add,show 32-s+s=32 by omega]
   have:bt<2 ^ (32-s):=by
    rcases bgI bt (2 ^ (32-s)) with h | h
    ·exact h
    ·have:=bgU (2 ^ s) h
     omega
   have:=bgU (2 ^ s) (show bt+1≤2 ^ (32-s) from this)
   omega
  have h1:B<(bt+1)*4294967296 ^ (m+1):=by rw[bgS,Nat.one_mul,bgO bt]; omega
  have h2:B*2 ^ s<(bt+1)*4294967296 ^ (m+1)*2 ^ s:=Nat.mul_lt_mul_of_pos_right h1 hp2
  have h3:(bt+1)*4294967296 ^ (m+1)*2 ^ s=(bt+1)*2 ^ s*4294967296 ^ (m+1):=Nat.mul_right_comm _ _ _
  have h4:(bt+1)*2 ^ s*4294967296 ^ (m+1)≤4294967296*4294967296 ^ (m+1):=bgU _ h0
  have h5:4294967296 ^ (m+2)=4294967296*4294967296 ^ (m+1):=by rw[bhH,bgO]
  omega
 have hAlt:A<4294967296 ^ nl A:=(gM A _).1 (bfX _)
 simp -implicitDefEqProofs only[go_sem]
 refine cD .nil aTI PH.nil_le ?_
 simp -implicitDefEqProofs only[go_sem,γ,reduceCtorEq,NK]
 have ua:=Lb.up (aG A) s LA hs32 (by omega)
 have ub:=Lb.up (aG B) s LB hs32 (by omega)
 refine aBP (aBQ (aG A) s) ua rfl (axP _ _) ?_
 rintro r H' ⟨o,rfl,rfl⟩ -
 rw[PH.kP,lA,vA]
 refine⟨PH.nil_le,?_⟩
 simp -implicitDefEqProofs only[go_sem,γ,reduceCtorEq]
 refine aBP (aBQ (aG B) s) ub rfl (axP _ _) ?_
 rintro r H' ⟨o2,rfl,rfl⟩ hap
 rw[PH.kP,lB,vB,hm]
 refine⟨PH.nil_le,?_⟩
 have hfr:=hap o2 _ (by rw[aV,if_pos rfl]) (by rfl)
 have n21:¬ o2=o:=(fW.1 hfr).1
 have n12:¬ o=o2:=fun h=>n21 h.symm
 have k1:((m+2:Nat):Int)≤((m+2+1:Nat):Int):=by omega
 have k2:IntKind.i64.wrap (((nl A+1:Nat):Int)-((m+2:Nat):Int))=((nl A+1-(m+2):Nat):Int):=by rw[wrap_i64 (by omega) (by omega)]; omega
 obtain⟨lq,hlq⟩:∃ lq,nl A+1-(m+2)=lq:=⟨_,rfl⟩
 have hlu:nl A+1=lq+(m+2):=by omega
 rw[hlq] at k2
 have k3:((lq:Nat):Int)*((4:Nat):Int)≤140737488355328:=by omega
 have k4:((lq:Nat):Int)≤9223372036854775807:=by omega
 have hz:bfV lq [PV.int .u32 0]=aE (bfV lq 0):=by simp[aE]
 have k5:m+2-0=m+2:=by omega
 simp -implicitDefEqProofs only[go_sem,ν,γ,reduceCtorEq,lB,hm,k1,k5,NL,NM,k2,k3,k4,hz]
 refine aP fun oq hoq=>?_
 have q2:¬ oq=o2:=(fW.1 hoq).1
 have q1:¬ oq=o:=(fW.1 (fW.1 hoq).2).1
 have q2':¬ o2=oq:=fun h=>q2 h.symm
 have q1':¬ o=oq:=fun h=>q1 h.symm
 have hsn:cV (m+2+1) (B*2 ^ s)=cV (m+2) (B*2 ^ s)++[B*2 ^ s/4294967296 ^ (m+2)%4294967296]:=rS _ _
 have Lv:=kC (m+2) (B*2 ^ s)
 have lv:=jE (m+2) (B*2 ^ s)
 have vv:val (cV (m+2) (B*2 ^ s))=B*2 ^ s:=lM hVhi
 have hvf:(aE (cV (m+2+1) (B*2 ^ s))).take (m+2)=aE (cV (m+2) (B*2 ^ s)):=by
  unfold aE
  rw[← List.map_take,hsn,List.take_append_of_le_length (by omega),bgH (by omega)]
 generalize hvv:cV (m+2) (B*2 ^ s)=v at *
 have lvf:(cV (m+2+1) (B*2 ^ s)).length=m+2+1:=jE _ _
 have gtop:∀ i (h:i<v.length),(aE (cV (m+2+1) (B*2 ^ s)))[i]?=some [.int .u32 ((v[i]:Nat):Int)]:=by
  intro i h
  have h1:(aE v)[i]?=some [.int .u32 ((v[i]:Nat):Int)]:=bJ v h
  rw[← hvf,List.getElem?_take_of_lt (by omega)] at h1
  exact h1
 have g1:=gtop (m+1) (by omega)
 have g0:=gtop m (by omega)
 have htop:2147483648≤v[m+1]:=by
  have h1:=bT v (show m+1<v.length by omega)
  rw[bgH (by omega),vv] at h1
  have h2:=eD (Lv.take (m+1))
  rw[bgJ,bhT (by omega)] at h2
  rcases bgI v[m+1] 2147483648 with h | h
  ·exfalso
   have h3:4294967296 ^ (m+1)*(v[m+1]+1)≤4294967296 ^ (m+1)*2147483648:=bhZ _ h
   rw[bgC,Nat.mul_one] at h3
   rw[bgO 2147483648] at hVlo
   omega
  ·exact h
 have ht1:=Lv _ (bgA (show m+1<v.length by omega))
 have ht0:=Lv _ (bgA (show m<v.length by omega))
 have w1:IntKind.u64.wrap ((v[m+1]:Nat):Int)=((v[m+1]:Nat):Int):=aZ (by omega)
 have w0:IntKind.u64.wrap ((v[m]:Nat):Int)=((v[m]:Nat):Int):=aZ (by omega)
 have j1:IntKind.i64.wrap (((m+2:Nat):Int)-1)=((m+1:Nat):Int):=by rw[wrap_i64 (by omega) (by omega)]; omega
 have j0:IntKind.i64.wrap (((m+2:Nat):Int)-2)=((m:Nat):Int):=by rw[wrap_i64 (by omega) (by omega)]; omega
 have d1:((m+1:Nat):Int)<((m+2:Nat):Int):=by omega
 have d0:((m:Nat):Int)<((m+2:Nat):Int):=by omega
 have jq:IntKind.i64.wrap ((lq:Int)-1)=(lq:Int)-1:=wrap_i64 (by omega) (by omega)
 simp -implicitDefEqProofs only[go_sem,γ,reduceCtorEq]
 refine cD .nil dS PH.nil_le ?_
 simp -implicitDefEqProofs only[go_sem,γ,reduceCtorEq,NN,j1,j0,d1,d0,q2',g1,g0,w1,w0,NO,jq]
 have hUlt:A*2 ^ s<4294967296 ^ (nl A+1):=by
  have h0:2 ^ s≤4294967296:=by
   have:(2:Nat) ^ s≤2 ^ 32:=Nat.pow_le_pow_right (by decide) (by omega)
   simpa using this
  have h1:A*2 ^ s<4294967296 ^ nl A*2 ^ s:=Nat.mul_lt_mul_of_pos_right hAlt hp2
  have h2:4294967296 ^ nl A*2 ^ s≤4294967296 ^ nl A*4294967296:=bhZ _ h0
  rw[bhH]; omega
 have LU:=kC (nl A+1) (A*2 ^ s)
 have lU:=jE (nl A+1) (A*2 ^ s)
 have vU:val (cV (nl A+1) (A*2 ^ s))=A*2 ^ s:=lM hUlt
 have hI:mB (A*2 ^ s) (val v) (m+2) (nl A+1) lq lq (cV (nl A+1) (A*2 ^ s)) (bfV lq 0):=by
  refine⟨lU,List.length_replicate,LU,rY _,by rw[vU,pA]; omega,?_,fun i x _ hx=>ayP hx⟩
  ·rw[qZ LU (by omega),vU,vv,biJ (biE (by decide))]
   have h1:A*2 ^ s<4294967296 ^ nl A*2 ^ s:=Nat.mul_lt_mul_of_pos_right hAlt hp2
   have hx:nl A=m+1+lq:=by omega
   have h2:4294967296 ^ nl A=4294967296 ^ (m+1)*4294967296 ^ lq:=by rw[hx,Nat.pow_add]
   have h3:2 ^ s≤2147483648:=by
    have:(2:Nat) ^ s≤2 ^ 31:=Nat.pow_le_pow_right (by decide) hs
    simpa using this
   have h4:4294967296 ^ nl A*2 ^ s≤(2147483648*4294967296 ^ (m+1))*4294967296 ^ lq:=by
    rw[h2,bgO (4294967296 ^ (m+1)*4294967296 ^ lq),← bgK]
    exact bgU _ (bgU _ h3)
   have h5:(2147483648*4294967296 ^ (m+1))*4294967296 ^ lq≤B*2 ^ s*4294967296 ^ lq:=bgU _ hVlo
   omega
 have key:=asR (C:=C) Lb.D (A*2 ^ s) m (nl A+1) lq o o2 oq s v (cV (m+2+1) (B*2 ^ s)) n21 q1 q2 Lv lv hvf (by omega) htop hlu (by omega) _ hI
 simp -implicitDefEqProofs only[go_sem,ο] at key
 refine key _ _ _ ?_ (by simp -implicitDefEqProofs only[go_sem,n12,q1']) (by simp -implicitDefEqProofs only[go_sem,q2']) (by simp -implicitDefEqProofs only[go_sem]) ?_
 ·unfold dI
  (repeat' (first|exact PF.nil_le|refine PF.aA ?_ ?_))<;>first|(simp -implicitDefEqProofs only[go_sem,γ,reduceCtorEq]<;>rfl)|rfl
 clear key
 intro U' Q' F' hI' hF'
 have hu:val U'<val v:=by have:=hI'.r; rwa [bgV] at this
 have hv':=hI'.v
 rw[vv] at hu hv'
 have hVp:0<B*2 ^ s:=by omega
 have hQv:val Q'=A/B:=by
  have:A*2 ^ s/(B*2 ^ s)=val Q':=by
   rw[← hv',Nat.add_mul_div_right _ _ hVp,biW hu,bgQ]
  rw[← this,Nat.mul_div_mul_right _ _ hp2]
 have hUv:val U'/2 ^ s=A%B:=by
  have:A*2 ^ s%(B*2 ^ s)=val U':=by rw[← hv',Nat.add_mul_mod_self_right,bgW hu]
  rw[← this,Nat.mul_mod_mul_right,Nat.mul_div_cancel _ hp2]
 have g8:=hF' 8 _ (by unfold dI; simp -implicitDefEqProofs only[go_sem,ο,γ]; rfl)
 have g9:=hF' 9 _ (by unfold dI; simp -implicitDefEqProofs only[go_sem,ο,γ]; rfl)
 have g11:=hF' 11 _ (by unfold dI; simp -implicitDefEqProofs only[go_sem,ο,γ]; rfl)
 have g12:=hF' 12 _ (by unfold dI; simp -implicitDefEqProofs only[go_sem,ο,γ]; rfl)
 have rest:=asS (C:=C) o (nl A+1) oq lq (m+2) s U' Q' hs32 q1 hI'.limU hI'.lu' (by omega) (by omega)
 simp -implicitDefEqProofs only[go_sem] at rest
 simp -implicitDefEqProofs only[go_sem]
 refine rest _ _ g8 g9 g11 g12 ?_
 clear rest
 intro or F2 H2 r1 r2 hF2 hQ2 hR2
 rw[hUv] at hR2
 have k12:=hF2 12 _ (by unfold rFr; simp -implicitDefEqProofs only[go_sem,γ]; rfl)
 have k19:=hF2 19 _ (by unfold rFr; simp -implicitDefEqProofs only[go_sem,γ]; rfl)
 have hRlt:A%B<4294967296 ^ (m+2):=by
  have h1:A%B<B:=bgX _ hB0
  have h2:B<4294967296 ^ nl B:=(gM B _).1 (bfX _)
  rw[hm] at h2; omega
 have LR:=kC (m+2) (A%B)
 have lR:=jE (m+2) (A%B)
 have vR:val (cV (m+2) (A%B))=A%B:=lM hRlt
 have nQ:=eO hI'.limQ
 have nR:=eO LR
 have e1:=hI'.lq'
 generalize hRR:cV (m+2) (A%B)=R at *
 simp -implicitDefEqProofs only[go_sem]
 refine cD .nil aTI PH.nil_le ?_
 simp -implicitDefEqProofs only[go_sem,γ,NW,k12]
 have LOq:=Lb.lengthO Q' oq hI'.limQ (by omega)
 rw[e1] at LOq
 have LOr:=Lb.lengthO R or LR (by omega)
 rw[lR] at LOr
 refine PI (o:=oq) (x:=.rows 1 (aE Q')) (v:=.int .i64 (nl (val Q'):Nat)) rfl hQ2 LOq (afK oq Q') (fun r H' hr=>⟨hr.2 Q' hI'.limQ (by rw[gS]),hr.1⟩) rfl PH.nil_le ?_
 have c4:((nl (val Q'):Nat):Int)≤(lq:Nat):=by omega
 simp -implicitDefEqProofs only[go_sem,ν,γ,reduceCtorEq,c4,k19,Nat.sub_zero]
 refine PI (o:=or) (x:=.rows 1 (aE R)) (v:=.int .i64 (nl (val R):Nat)) rfl hR2 LOr (afK or R) (fun r H' hr=>⟨hr.2 R LR (by rw[gS]),hr.1⟩) rfl PH.nil_le ?_
 have c5:((nl (val R):Nat):Int)≤((m+2:Nat):Int):=by omega
 simp -implicitDefEqProofs only[go_sem,ν,γ,reduceCtorEq,c5]
 refine aQL (o1:=oq) (o2:=or) (s1:=1) (s2:=1) (k1:=nl (val Q')) (k2:=nl (val R)) (rs1:=aE Q') (rs2:=aE R) (.inr rfl) (fun h=>r2 h.symm) rfl rfl hQ2 hR2 (by rw[bQ]; exact nQ) (by rw[bQ]; exact nR) (oQ _ _ _ _) rfl ⟨?_,rfl⟩
 have t1:(aE Q').take (nl (val Q'))=aE (aG (A/B)):=by
  have:=gF hI'.limQ
  rw[hQv] at this ⊢
  exact this
 have t2:(aE R).take (nl (val R))=aE (aG (A%B)):=by
  have:=gF LR
  rw[vR] at this ⊢
  exact this
 rw[t1,t2]
 exact .refl _
end Go.PM
namespace Go.PM
open Go Go.Na
def aTZ (a b:Nat):PF:=((PF.nil.set 0 (aF (aG a))).set 1 (aF (aG b)))
theorem a1B {C:Ctx} (L:nP C) (hdiv:∀ A B:Nat,B≠0→nl A≤900→nl B≤900→aI C 136 [aF (aG A),aF (aG B)] .nil (aL (nG A B))) (a b:List Nat) (ha:Lim a) (hb:Lim b) (la:a.length≤16777216) (lb:b.length≤16777216) :
  IF.wp C (aX asT.res (bY (if eK (val a) (val b) then .tup [aF [],.int .i64 2] else .tup [aF (aG (bfU (val a) (val b))),.int .i64 0]))) (PF.args [aF a,aF b]) .nil:=by
 simp -implicitDefEqProofs only[go_sem,reduceCtorEq,IF,aGC,aGD,asT]
 refine aB (L.large a ha la) rfl ?_
 by_cases c1:nl (val a)>512
 ·simp -implicitDefEqProofs only[go_sem,γ,c1,aaQ]
  rw[if_pos (by simp[eK,c1])]
  exact gU rfl
 simp -implicitDefEqProofs only[go_sem,γ,c1]
 refine aB (L.large b hb lb) rfl ?_
 by_cases c2:nl (val b)>512
 ·simp -implicitDefEqProofs only[go_sem,γ,reduceCtorEq,c2,aaQ]
  rw[if_pos (by simp[eK,c2])]
  exact gU rfl
 rw[if_neg (by simp[eK,c1,c2])]
 simp -implicitDefEqProofs only[go_sem,γ,reduceCtorEq,c2,aGE]
 refine aB (L.trim a ha la) rfl ?_
 simp -implicitDefEqProofs only[go_sem,γ]
 refine aB (L.trim b hb lb) rfl ?_
 simp -implicitDefEqProofs only[go_sem,γ,reduceCtorEq]
 refine wp_loop (α:=Nat × Nat) (fun t=>aTZ t.1 t.2) (fun _=>.nil) (fun t=>bfU t.1 t.2=bfU (val a) (val b)∧nl t.1≤512∧nl t.2≤512) (fun t=>t.2) (val a,val b) ⟨rfl,by simp only; omega,by simp only; omega⟩ ?_ PH.nil_le ?_
 ·unfold aTZ
  (repeat' (first|exact PF.nil_le|refine PF.aA ?_ ?_))<;>first|(simp -implicitDefEqProofs only[go_sem,γ,reduceCtorEq]<;>rfl)|rfl
 rintro⟨x,y⟩ ⟨hg,hx,hy⟩
 simp only at hg hx hy
 simp -implicitDefEqProofs only[go_sem,γ,reduceCtorEq,aGB,aGF,aTZ,bH]
 by_cases c3:y=0
 ·subst c3
  have:¬ ((nl 0:Nat):Int)>0:=by rw[uA]; decide
  simp -implicitDefEqProofs only[go_sem,γ,reduceCtorEq,this,aGI]
  refine aW (vs:=[aF (aG x),.int .i64 0]) (.inr rfl) .nil rfl PH.nil_le ⟨?_,rfl⟩
  rw[← hg,Nat.gcd_zero_right]
  exact .refl _
 ·have h0:nl y≠0:=fun h=>c3 (iT.1 h)
  have:((nl y:Nat):Int)>0:=by omega
  simp -implicitDefEqProofs only[go_sem,γ,reduceCtorEq,this,aGG]
  refine aB (hdiv x y c3 (by omega) (by omega)) rfl ?_
  simp -implicitDefEqProofs only[go_sem,γ,reduceCtorEq,nG,aGH]
  have hlt:x%y<y:=bgX _ (biD c3)
  refine aJ (y,x%y) ⟨?_,hy,?_⟩ hlt ?_ PH.nil_le
  ·simp only
   rw[← hg,Nat.gcd_comm y,← Nat.gcd_rec y x,Nat.gcd_comm]
  ·have:=gK (Nat.le_of_lt hlt)
   simp only; omega
  ·(repeat' (first|exact PF.nil_le|refine PF.aA ?_ ?_))<;>first|(simp -implicitDefEqProofs only[go_sem,γ,reduceCtorEq]<;>rfl)|rfl
def kG (A B:Nat):PV:=if eK A B then .tup [aF [],aF [],.int .i64 2] else if B=0 then .tup [aF [],aF [],.int .i64 3] else .tup [aF (aG (A/B)),aF (aG (A%B)),.int .i64 0]
def aLC:Spec:=fun name vs=>match name,vs with
 | 138,[x]=>some ([],fun _=>aL (.int .i64 (nl (val (jD x)):Nat)))
 | 136,[x,y]=>some ([],fun _=>aL (nG (val (jD x)) (val (jD y))))
 | _,_=>none
theorem IC (xs:List Nat):aLC 138 [aF xs]=some ([],fun _=>aL (.int .i64 (nl (val xs):Nat))):=by
 show some _=_; rw[eH]
theorem asQ (A B:Nat):aLC 136 [aF (aG A),aF (aG B)]=some ([],fun _=>aL (nG A B)):=by
 show some _=_; rw[eH,eH,aY,aY]
theorem oT {res:List dC} {F:PF} {H:PH} {e:Int} (h:dC.evs F H res=some [.nils,.nils,.int .i64 e]):aX res (bY (.tup [aF [],aF [],.int .i64 e])) .ret F H:=by
 refine aW (.inr rfl) .nil h PH.nil_le ⟨?_,rfl⟩
 refine .tup rfl fun j p q hp hq=>?_
 match j with
 | 0=>simp at hp hq; subst hp; subst hq; exact .nil 1
 | 1=>simp at hp hq; subst hp; subst hq; exact .nil 1
 | 2=>simp at hp hq; subst hp; subst hq; exact .refl _
 | j+3=>simp at hp
theorem a0Y {C:Ctx} (L:nP C) (hdiv:∀ A B:Nat,B≠0→nl A≤900→nl B≤900→aI C 136 [aF (aG A),aF (aG B)] .nil (aL (nG A B))) (a b:List Nat) (ha:Lim a) (hb:Lim b) (la:a.length≤16777216) (lb:b.length≤16777216) :
  ID.wp C (aX asP.res (bY (kG (val a) (val b)))) (PF.args [aF a,aF b]) .nil:=by
 simp -implicitDefEqProofs only[go_sem,reduceCtorEq,ID,aFV,aFW,asP]
 refine aB (L.large a ha la) rfl ?_
 by_cases c1:nl (val a)>512
 ·simp -implicitDefEqProofs only[go_sem,γ,c1,aaP]
  rw[show kG (val a) (val b)=.tup [aF [],aF [],.int .i64 2] by simp[kG,eK,c1]]
  exact oT rfl
 simp -implicitDefEqProofs only[go_sem,γ,c1]
 refine aB (L.large b hb lb) rfl ?_
 by_cases c2:nl (val b)>512
 ·simp -implicitDefEqProofs only[go_sem,γ,reduceCtorEq,c2,aaP]
  rw[show kG (val a) (val b)=.tup [aF [],aF [],.int .i64 2] by simp[kG,eK,c2]]
  exact oT rfl
 simp -implicitDefEqProofs only[go_sem,γ,reduceCtorEq,c2,aFX]
 refine aB (L.length b hb lb) rfl ?_
 by_cases c3:val b=0
 ·have:((nl (val b):Nat):Int)=0:=by rw[c3,uA]; rfl
  simp -implicitDefEqProofs only[go_sem,γ,bP this,aFY]
  rw[show kG (val a) (val b)=.tup [aF [],aF [],.int .i64 3] by simp[kG,eK,c1,c3,uA]]
  exact oT rfl
 have h0:nl (val b)≠0:=fun h=>c3 (iT.1 h)
 rw[show kG (val a) (val b)=.tup [aF (aG (val a/val b)),aF (aG (val a%val b)),.int .i64 0] by simp[kG,eK,c1,c2,c3]]
 simp -implicitDefEqProofs only[go_sem,γ,bD (show ((nl (val b):Nat):Int)≠0 by omega)]
 refine cD .nil aLC PH.nil_le ?_
 simp -implicitDefEqProofs only[go_sem,reduceCtorEq,aFZ]
 have h1:=eO ha
 have h2:=eO hb
 have h1':((nl (val a):Nat):Int)≤(a.length:Nat):=by omega
 have h2':((nl (val b):Nat):Int)≤(b.length:Nat):=by omega
 refine cU (IC a) (L.length a ha la) rfl PH.nil_le ?_
 simp -implicitDefEqProofs only[go_sem,ν,γ,reduceCtorEq,h1',or_true,bgV,gF ha]
 refine cU (IC b) (L.length b hb lb) rfl PH.nil_le ?_
 simp -implicitDefEqProofs only[go_sem,ν,γ,reduceCtorEq,h2',or_true,bgV,gF hb]
 refine cU (asQ (val a) (val b)) (hdiv _ _ c3 (by omega) (by omega)) rfl PH.nil_le ?_
 simp -implicitDefEqProofs only[go_sem,γ,nG,aGA]
 exact aW (.inr rfl) .nil rfl PH.nil_le ⟨.refl _,rfl⟩
end Go.PM
namespace Go.PM
open Go
def TL:Rg:=[iA 6 (.alloc [(.bool false),.nils,.nils]),iI 7 0]
def TM:Rg:=[iM 11 1,iM 12 2,iA 13 (.call 131 [(Tm 11),(Tm 12)]),iM 10 13,iA 14 (.extract (Tm 10) 0),iA 15 (.extract (Tm 10) 1),iM 8 14,iM 9 15]
def TN:Rg:=[iM 16 8,iA 17 (.call 128 [(Tm 16)]),iC 18 .gtr 17 1]
def TO:Rg:=[iM 20 1,iM 21 8,iA 22 (.call 130 [(Tm 20),(Tm 21)]),iM 19 22,iA 23 (.extract (Tm 19) 0),iA 24 (.extract (Tm 19) 1),iA 25 (.extract (Tm 19) 2),iM 1 23]
def TP:Rg:=[iM 27 2,iM 28 8,iA 29 (.call 130 [(Tm 27),(Tm 28)]),iM 26 29,iA 30 (.extract (Tm 26) 0),iA 31 (.extract (Tm 26) 1),iA 32 (.extract (Tm 26) 2),iM 2 30]
def BB:Rg:=[iM 33 1,iA 34 (.call 128 [(Tm 33)]),iC 35 .gtr 34 4096,iM 36 35,iG 37 (.mv (Tm 2)) 36 false,iG 38 (.call 128 [(Tm 37)]) 36 false,iG 39 (.bin .gtr (Tm 38) (Ci 4096)) 36 false,iA 40 (.pick (Tm 36) (.const (.bool true)) (Tm 39))]
def sQ:Rg:=[iA 41 (.build [(.bool false),.nils,.nils] []),iS 3 6 41,iI 7 2]
def BC:Rg:=[iM 42 0,iM 43 42,iG 44 (.mv (Tm 1)) 43 true,iG 45 (.call 128 [(Tm 44)]) 43 true,iG 46 (.bin .gtr (Tm 45) (Ci 0)) 43 true,iA 47 (.pick (Tm 43) (Tm 46) (.const (.bool false))),iM 48 1,iA 49 (.call 135 [(Tm 48)]),iM 50 2,iA 51 (.call 135 [(Tm 50)]),iA 52 (.build [(.bool false),.nils,.nils] [(0,1,(Tm 47)),(1,1,(Tm 49)),(2,1,(Tm 51))]),iS 3 6 52,iI 7 0]
def uI:aD:=(.seq (.region TL) (.seq (.seq (.region TM) (.seq (.region TN) (.cond (Tm 18) (.seq (.region TO) (.region TP)) .skip))) (.seq (.seq (.region BB) (.cond (Tm 40) (.seq (.region sQ) .ret) .skip)) (.seq (.region BC) .ret))))
def aJH:List Nat:=[]
def mT:bG:=⟨3,53,uI,[.cell 6 (some 3),.tmp 7]⟩
def abX:Rg:=[iA 4 (.mv (.const .nils))]
def abY:Rg:=[iM 8 0,iM 9 1,iA 10 (.call 133 [(Tm 8),(Tm 9)]),iM 7 10,iA 11 (.extract (Tm 7) 0),iA 12 (.extract (Tm 7) 1),iM 5 11,iM 6 12]
def abZ:Rg:=[iM 13 5,iM 4 13]
def wZ:aD:=(.seq (.region abX) (.seq (.region abY) (.seq (.region abZ) .ret)))
def aNS:List Nat:=[]
def GU:bG:=⟨2,14,wZ,[.tmp 4]⟩
def amA:Rg:=[iA 1 (.box true (Tm 0)),iA 2 (.mv (.const (.bool false)))]
def amB:Rg:=[iF 3 1 1,iL 4 3,iA 5 (.call 128 [(Tm 4)]),iC 6 .eql 5 0,iM 2 6]
def BF:aD:=(.seq (.region amA) (.seq (.region amB) .ret))
def aTS:List Nat:=[1]
def TW:bG:=⟨1,7,BF,[.tmp 2]⟩
def alU:Rg:=[iA 4 (.alloc [(.bool false),.nils,.nils]),iI 5 0]
def alV:Rg:=[iM 6 1,iC 7 .eql 6 0]
def alW:Rg:=[iA 8 (.build [(.bool false),.nils,.nils] []),iS 3 4 8,iI 5 3]
def alX:Rg:=[iM 9 0,iC 10 .lss 9 0,iM 11 1,iC 12 .lss 11 0,iA 13 (.eqb true (Tm 10) (Tm 12)),iM 14 0,iA 15 (.call 119 [(Tm 14)]),iM 16 1,iA 17 (.call 119 [(Tm 16)]),iA 18 (.call 120 [(Tm 13),(Tm 15),(Tm 17)]),iA 19 (.extract (Tm 18) 0),iA 20 (.extract (Tm 18) 1),iS 3 4 19,iM 5 20]
def BD:aD:=(.seq (.region alU) (.seq (.seq (.region alV) (.cond (Tm 7) (.seq (.region alW) .ret) .skip)) (.seq (.region alX) .ret)))
def aTQ:List Nat:=[]
def LP:bG:=⟨2,21,BD,[.cell 4 (some 3),.tmp 5]⟩
def aBU:Rg:=[iA 2 (.mv (.const .nils))]
def aBV:Rg:=[iM 3 0,iC 4 .lss 3 0]
def aBW:Rg:=[iM 5 0,iA 6 (.conv .u64 (Tm 5)),iA 7 (.un .neg (Tm 6)),iA 8 (.call 132 [(Tm 7)]),iM 2 8]
def aBX:Rg:=[iM 9 0,iA 10 (.conv .u64 (Tm 9)),iA 11 (.call 132 [(Tm 10)]),iM 2 11]
def GK:aD:=(.seq (.region aBU) (.seq (.seq (.region aBV) (.cond (Tm 4) (.seq (.region aBW) .ret) .skip)) (.seq (.region aBX) .ret)))
def aYW:List Nat:=[]
def alN:bG:=⟨1,12,GK,[.tmp 2]⟩
def acA:Rg:=[iA 1 (.box true (Tm 0)),iA 2 (.mv (.const (.bool false)))]
def acB:Rg:=[iF 4 2 1,iL 5 4,iA 6 (.call 128 [(Tm 5)]),iM 3 6]
def vQ:Rg:=[iM 7 3,iC 8 .gtr 7 0,iM 9 8,iG 10 (.mv (Tm 3)) 9 true,iG 11 (.bin .leq (Tm 10) (Ci 4096)) 9 true,iA 12 (.pick (Tm 9) (Tm 11) (.const (.bool false))),iM 13 12,iG 14 (.fieldA 1 (Tm 1)) 13 true,iG 15 (.load none (Tm 14)) 13 true,iG 16 (.call 128 [(Tm 15)]) 13 true,iG 17 (.bin .leq (Tm 16) (Ci 4096)) 13 true,iA 18 (.pick (Tm 13) (Tm 17) (.const (.bool false))),iM 2 18]
def xA:aD:=(.seq (.region acA) (.seq (.region acB) (.seq (.region vQ) .ret)))
def aNU:List Nat:=[1]
def GW:bG:=⟨1,19,xA,[.tmp 2]⟩
def TQ:Rg:=[iA 1 (.box true (Tm 0)),iA 2 (.alloc [(.bool false),.nils,.nils]),iI 3 0]
def TR:Rg:=[iA 4 (.load (some 3) (Tm 1)),iA 5 (.call 118 [(Tm 4)]),iA 6 (.un .not (Tm 5))]
def TS:Rg:=[iA 7 (.build [(.bool false),.nils,.nils] []),iS 3 2 7,iI 3 1]
def TT:Rg:=[iF 8 0 1,iL 9 8,iF 10 1 1,iL 11 10,iF 12 2 1,iL 13 12,iA 14 (.call 120 [(Tm 9),(Tm 11),(Tm 13)]),iA 15 (.extract (Tm 14) 0),iA 16 (.extract (Tm 14) 1),iS 3 2 15,iM 3 16]
def uJ:aD:=(.seq (.region TQ) (.seq (.seq (.region TR) (.cond (Tm 6) (.seq (.region TS) .ret) .skip)) (.seq (.region TT) .ret)))
def aJL:List Nat:=[1]
def tU:bG:=⟨1,17,uJ,[.cell 2 (some 3),.tmp 3]⟩
def aCH:Rg:=[iA 2 (.box true (Tm 0)),iA 3 (.box true (Tm 1)),iI 4 0,iI 5 0]
def aCI:Rg:=[iA 9 (.load (some 3) (Tm 2)),iA 10 (.call 118 [(Tm 9)]),iA 11 (.un .not (Tm 10)),iM 12 11,iG 13 (.load (some 3) (Tm 3)) 12 false,iG 14 (.call 118 [(Tm 13)]) 12 false,iG 15 (.un .not (Tm 14)) 12 false,iA 16 (.pick (Tm 12) (.const (.bool true)) (Tm 15))]
def ZN:Rg:=[iI 4 0,iI 5 1]
def aCJ:Rd:=[(iF 17 1 2,false),(iL 18 17,false),(iF 19 2 3,false),(iL 20 19,false),(iA 21 (.call 121 [(Tm 18),(Tm 20)]),true),(iF 22 1 3,true),(iL 23 22,true),(iF 24 2 2,true),(iL 25 24,true),(iA 26 (.call 121 [(Tm 23),(Tm 25)]),true),(iA 27 (.call 129 [(Tm 21),(Tm 26)]),true),(iM 6 27,false)]
def aCK:Rd:=[(iF 28 0 2,false),(iL 29 28,false),(iM 30 29,false),(iG 31 (.load (some 3) (Tm 2)) 30 true,false),(iG 32 (.call 122 [(Tm 31)]) 30 true,true),(iG 33 (.un .not (Tm 32)) 30 true,true),(iA 34 (.pick (Tm 30) (Tm 33) (.const (.bool false))),true),(iF 35 0 3,true),(iL 36 35,true),(iM 37 36,false),(iG 38 (.load (some 3) (Tm 3)) 37 true,false),(iG 39 (.call 122 [(Tm 38)]) 37 true,true),(iG 40 (.un .not (Tm 39)) 37 true,false),(iA 41 (.pick (Tm 37) (Tm 40) (.const (.bool false))),false),(iM 7 34,false),(iM 8 41,false)]
def tT:Rg:=[iM 43 7,iM 44 43,iG 45 (.mv (Tm 8)) 44 true,iA 46 (.pick (Tm 44) (Tm 45) (.const (.bool false))),iM 42 46]
def ZO:Rg:=[iM 47 6,iA 48 (.un .neg (Tm 47)),iM 4 48,iI 5 0]
def zT:Rg:=[iM 50 7,iM 49 50]
def ZP:Rg:=[iI 4 (-1),iI 5 0]
def LN:Rg:=[iM 52 8,iM 51 52]
def PL:Rg:=[iI 4 1,iI 5 0]
def PN:Rg:=[iM 53 6,iM 4 53,iI 5 0]
def GN:aD:=(.seq (.region aCH) (.seq (.seq (.region aCI) (.cond (Tm 16) (.seq (.region ZN) .ret) .skip)) (.seq (.draw aCJ) (.seq (.draw aCK) (.seq (.block 0 (.seq (.region tT) (.cond (Tm 42) (.seq (.region ZO) .ret) (.seq (.region zT) (.cond (Tm 49) (.seq (.region ZP) .ret) (.seq (.region LN) (.cond (Tm 51) (.seq (.region PL) .ret) .skip))))))) (.seq (.region PN) .ret))))))
def aZA:List Nat:=[2,3]
def alQ:bG:=⟨2,54,GN,[.tmp 4,.tmp 5]⟩
def aBY:Rg:=[iA 2 (.box true (Tm 0)),iA 3 (.box true (Tm 1)),iA 4 (.alloc [(.bool false),.nils,.nils]),iI 5 0]
def aBZ:Rg:=[iA 15 (.load (some 3) (Tm 2)),iA 16 (.call 118 [(Tm 15)]),iA 17 (.un .not (Tm 16)),iM 18 17,iG 19 (.load (some 3) (Tm 3)) 18 false,iG 20 (.call 118 [(Tm 19)]) 18 false,iG 21 (.un .not (Tm 20)) 18 false,iA 22 (.pick (Tm 18) (.const (.bool true)) (Tm 21))]
def ZM:Rg:=[iA 23 (.build [(.bool false),.nils,.nils] []),iS 3 4 23,iI 5 1]
def aCA:Rd:=[(iF 24 1 2,false),(iL 25 24,false),(iF 26 2 3,false),(iL 27 26,false),(iA 28 (.call 121 [(Tm 25),(Tm 27)]),true),(iF 29 1 3,true),(iL 30 29,true),(iF 31 2 2,true),(iL 32 31,true),(iA 33 (.call 121 [(Tm 30),(Tm 32)]),true),(iF 34 2 2,true),(iL 35 34,true),(iF 36 2 3,true),(iL 37 36,true),(iA 38 (.call 121 [(Tm 35),(Tm 37)]),true),(iM 6 28,false),(iM 7 33,false),(iM 8 38,false)]
def aCB:Rg:=[iF 39 0 2,iL 40 39,iF 41 0 3,iL 42 41,iA 43 (.eqb false (Tm 40) (Tm 42))]
def aCC:Rg:=[iM 45 6,iM 46 7,iA 47 (.call 127 [(Tm 45),(Tm 46)]),iM 44 47,iA 48 (.extract (Tm 44) 0),iA 49 (.extract (Tm 44) 1),iM 9 48,iM 10 49]
def aCD:Rg:=[iF 50 0 2,iL 51 50,iM 52 9,iM 53 8,iA 54 (.call 120 [(Tm 51),(Tm 52),(Tm 53)]),iA 55 (.extract (Tm 54) 0),iA 56 (.extract (Tm 54) 1),iS 3 4 55,iM 5 56]
def aCE:Rg:=[iM 57 6,iM 58 7,iA 59 (.call 129 [(Tm 57),(Tm 58)]),iC 60 .geq 59 0]
def aCF:Rg:=[iM 62 6,iM 63 7,iA 64 (.call 134 [(Tm 62),(Tm 63)]),iM 61 64,iA 65 (.extract (Tm 61) 0),iA 66 (.extract (Tm 61) 1),iM 11 65,iM 12 66]
def aCG:Rg:=[iF 67 0 2,iL 68 67,iM 69 11,iM 70 8,iA 71 (.call 120 [(Tm 68),(Tm 69),(Tm 70)]),iA 72 (.extract (Tm 71) 0),iA 73 (.extract (Tm 71) 1),iS 3 4 72,iM 5 73]
def alO:Rg:=[iM 75 7,iM 76 6,iA 77 (.call 134 [(Tm 75),(Tm 76)]),iM 74 77,iA 78 (.extract (Tm 74) 0),iA 79 (.extract (Tm 74) 1),iM 13 78,iM 14 79]
def alP:Rg:=[iF 80 0 3,iL 81 80,iM 82 13,iM 83 8,iA 84 (.call 120 [(Tm 81),(Tm 82),(Tm 83)]),iA 85 (.extract (Tm 84) 0),iA 86 (.extract (Tm 84) 1),iS 3 4 85,iM 5 86]
def GM:aD:=(.seq (.region aBY) (.seq (.seq (.region aBZ) (.cond (Tm 22) (.seq (.region ZM) .ret) .skip)) (.seq (.draw aCA) (.seq (.seq (.region aCB) (.cond (Tm 43) (.seq (.region aCC) (.seq (.region aCD) .ret)) .skip)) (.seq (.seq (.region aCE) (.cond (Tm 60) (.seq (.region aCF) (.seq (.region aCG) .ret)) .skip)) (.seq (.region alO) (.seq (.region alP) .ret)))))))
def aYY:List Nat:=[2,3]
def GL:bG:=⟨2,87,GM,[.cell 4 (some 3),.tmp 5]⟩
def aCM:Rg:=[iA 2 (.alloc [(.bool false),.nils,.nils]),iI 3 0]
def aCN:Rg:=[iA 9 (.call 132 [(.const (.int .u64 1))]),iA 10 (.build [(.bool false),.nils,.nils] [(2,1,(Tm 9))]),iA 4 (.alloc [(.bool false),.nils,.nils]),iS 3 4 10]
def aCO:Rg:=[iM 11 0,iN 12 11,iI 13 0]
def aCP:Rg:=[iB 14 .lss 13 12]
def aCQ:Rg:=[iX 15 3 11 13,iA 16 (.load (some 3) (Tm 15)),iA 6 (.alloc [(.bool false),.nils,.nils]),iS 3 6 16]
def aCR:Rg:=[iA 18 (.load (some 3) (Tm 4)),iA 19 (.load (some 3) (Tm 6)),iA 20 (.call 113 [(Tm 18),(Tm 19)]),iM 17 20,iA 21 (.extract (Tm 17) 0),iA 22 (.extract (Tm 17) 1),iA 7 (.alloc [(.bool false),.nils,.nils]),iS 3 7 21,iM 8 22]
def ZR:Rg:=[iM 23 8,iC 24 .neq 23 0]
def aCS:Rg:=[iA 25 (.build [(.bool false),.nils,.nils] []),iM 26 8,iS 3 2 25,iM 3 26]
def aCT:Rg:=[iA 27 (.load (some 3) (Tm 7)),iS 3 4 27]
def aCU:Rg:=[iC 28 .add 13 1,iM 13 28]
def alZ:aD:=(.seq (.region aCP) (.seq (.cond (Tm 14) .skip (.exit 0)) (.seq (.block 1 (.seq (.region aCQ) (.seq (.region aCR) (.seq (.seq (.region ZR) (.cond (Tm 24) (.seq (.region aCS) .ret) .skip)) (.region aCT))))) (.region aCU))))
def PS:Rg:=[iA 29 (.load (some 3) (Tm 4)),iS 3 2 29,iI 3 0]
def GT:aD:=(.seq (.region aCM) (.seq (.region aCN) (.seq (.seq (.region aCO) (.block 0 (.loop alZ))) (.seq (.region PS) .ret))))
def aZG:List Nat:=[]
def PR:bG:=⟨1,30,GT,[.cell 2 (some 3),.tmp 3]⟩
end Go.PM
namespace Go.PM
open Go Go.Na
theorem CoL.nil:CoL [] []:=.refl _
theorem CoL.cons {p q:PV} {ps qs:List PV} (h:Co p q) (hs:CoL ps qs):CoL (p::ps) (q::qs) :=
 ⟨by simp[hs.len],fun j a b ha hb=>by
  cases j with
  | zero=>simp at ha hb; subst ha; subst hb; exact h
  | succ j=>exact hs.at_ j a b (by simpa using ha) (by simpa using hb)⟩
theorem CoL.agg {ps qs:List PV} (h:CoL ps qs):Co (.agg ps) (.agg qs):=.agg h.len h.at_
theorem CoL.tup {ps qs:List PV} (h:CoL ps qs):Co (.tup ps) (.tup qs):=.tup h.len h.at_
structure pH (C:Ctx):Prop extends nP C where
 bits:∀ xs,Lim xs→xs.length≤16777216→aI C 128 [aF xs] .nil (aL (.int .i64 (cA (val xs):Nat)))
 add:∀ xs ys,Lim xs→Lim ys→xs.length≤16777216→ys.length≤16777216→aI C 127 [aF xs,aF ys] .nil (aL (opV (eK (val xs) (val ys)) (val xs+val ys)))
 sub:∀ xs ys,Lim xs→Lim ys→xs.length≤16777216→ys.length≤16777216→aI C 134 [aF xs,aF ys] .nil (aL (vC (val xs) (val ys)))
 mul:∀ xs ys,Lim xs→Lim ys→xs.length≤16777216→ys.length≤16777216→aI C 133 [aF xs,aF ys] .nil (aL (opV (eK (val xs) (val ys)) (val xs*val ys)))
 gcd:∀ xs ys,Lim xs→Lim ys→xs.length≤16777216→ys.length≤16777216→aI C 131 [aF xs,aF ys] .nil (aL (if eK (val xs) (val ys) then .tup [aF [],.int .i64 2] else .tup [aF (aG (bfU (val xs) (val ys))),.int .i64 0]))
 div:∀ xs ys,Lim xs→Lim ys→xs.length≤16777216→ys.length≤16777216→aI C 130 [aF xs,aF ys] .nil (aL (kG (val xs) (val ys)))
theorem iR {a b:Nat} (ha:nl a≤512) (hb:nl b≤512):eK a b=false:=by
 simp[eK]; omega
theorem sB {a b m n:Nat} (ha:nl a≤m) (hb:nl b≤n):nl (a*b)≤m+n:=by
 rw[gM] at ha hb ⊢
 rw[Nat.pow_add]
 by_cases h:b=0
 ·subst h; exact Nat.mul_pos (biE (by decide)) (biE (by decide))
 ·calc a*b<4294967296 ^ m*b:=Nat.mul_lt_mul_of_pos_right ha (biD h)
   _≤4294967296 ^ m*4294967296 ^ n:=bhZ _ (Nat.le_of_lt hb)
theorem avC {n:Nat} (h:nl n≤512):szV n=.tup [aF (aG n),.int .i64 0]:=by
 have:¬ nl n>512:=by omega
 simp[szV,szL,szE,this]
theorem aNR {C:Ctx} (L:pH C) (a b:List Nat) (ha:Lim a) (hb:Lim b) (la:a.length≤16777216) (lb:b.length≤16777216) (na:nl (val a)≤256) (nb:nl (val b)≤256) :
  wZ.wp C (aX GU.res (aL (aF (aG (val a*val b))))) (PF.args [aF a,aF b]) .nil:=by
 simp -implicitDefEqProofs only[go_sem,γ,reduceCtorEq,wZ,abX,abY,GU]
 refine aB (L.mul a b ha hb la lb) rfl ?_
 have:=sB na nb
 rw[iR (by omega) (by omega),opV,avC (by omega)]
 simp -implicitDefEqProofs only[go_sem,γ,reduceCtorEq,abZ]
 refine bZ (.inr rfl) rfl ?_
 rfl
abbrev eW (neg:Bool) (a b:List Nat):List PV:=[.bool neg,aF a,aF b]
theorem aTR {C:Ctx} (L:pH C) (neg:Bool) (a b:List Nat) (ha:Lim a) (la:a.length≤16777216) :
  BF.wp C (aX TW.res (aL (.bool (decide (val a=0))))) (PF.args [.agg (eW neg a b)]) .nil:=by
 simp -implicitDefEqProofs only[go_sem,δ,γ,θ,BF,amA,amB,TW]
 refine aB (L.bits a ha la) rfl ?_
 simp -implicitDefEqProofs only[go_sem,γ]
 refine bZ (.inr rfl) rfl ?_
 have:=@gQ (val a)
 by_cases c:val a=0
 ·rw[bP (by omega),decide_eq_true c]; rfl
 ·rw[bD (by omega),decide_eq_false c]; rfl
def dH (a b:Nat):Bool:=decide (0<cA b)&&decide (cA b≤4096)&&decide (cA a≤4096)
theorem aNT {C:Ctx} (L:pH C) (neg:Bool) (a b:List Nat) (ha:Lim a) (hb:Lim b) (la:a.length≤16777216) (lb:b.length≤16777216) :
  xA.wp C (aX GW.res (aL (.bool (dH (val a) (val b))))) (PF.args [.agg (eW neg a b)]) .nil:=by
 simp -implicitDefEqProofs only[go_sem,γ,xA,acA,acB,GW]
 refine aB (L.bits b hb lb) rfl ?_
 by_cases c1:0<cA (val b)
 ·have c1':((cA (val b):Nat):Int)>0:=by omega
  by_cases c2:cA (val b)≤4096
  ·have c2':((cA (val b):Nat):Int)≤4096:=by omega
   simp -implicitDefEqProofs only[go_sem,δ,γ,θ,vQ,c1',c2']
   refine aB (L.bits a ha la) rfl ?_
   simp -implicitDefEqProofs only[go_sem,γ]
   refine bZ (.inr rfl) rfl ?_
   show PV.bool (decide _)=_
   rw[dH,decide_eq_true c1,decide_eq_true c2,bgR,bgR]
   congr 1
   rw[decide_eq_decide]
   omega
  ·have c2':¬ ((cA (val b):Nat):Int)≤4096:=by omega
   simp -implicitDefEqProofs only[go_sem,γ,reduceCtorEq,vQ,c1',c2']
   refine bZ (.inr rfl) rfl ?_
   show PV.bool _=_
   simp[dH,c1,c2]
 ·have c1':¬ ((cA (val b):Nat):Int)>0:=by omega
  simp -implicitDefEqProofs only[go_sem,γ,reduceCtorEq,vQ,c1']
  refine bZ (.inr rfl) rfl ?_
  show PV.bool _=_
  simp[dH,c1]
theorem aYV {C:Ctx} (L:pH C) (v:Int) (h1:-9223372036854775808≤v) (h2:v≤9223372036854775807) :
  GK.wp C (aX alN.res (aL (aF (aG v.natAbs)))) (PF.args [.int .i64 v]) .nil:=by
 simp -implicitDefEqProofs only[go_sem,γ,reduceCtorEq,GK,aBU,aBV,alN]
 by_cases c:v<0
 ·have e:IntKind.u64.wrap (0-IntKind.u64.wrap v)=((v.natAbs:Nat):Int):=by
   rw[eT,eT]; omega
  simp -implicitDefEqProofs only[go_sem,γ,reduceCtorEq,c,aBW,e]
  refine aB (L.make v.natAbs (by omega)) rfl ?_
  simp -implicitDefEqProofs only[go_sem,γ]
  refine bZ (.inr rfl) rfl ?_
  rfl
 ·have e:IntKind.u64.wrap v=((v.natAbs:Nat):Int):=by
   rw[eT]; omega
  simp -implicitDefEqProofs only[go_sem,γ,reduceCtorEq,c,aBX,e]
  refine aB (L.make v.natAbs (by omega)) rfl ?_
  simp -implicitDefEqProofs only[go_sem,γ]
  refine bZ (.inr rfl) rfl ?_
  rfl
end Go.PM
namespace Go.PM
open Go Go.Na
abbrev vP (e:Int):PV:=.tup [.agg (eW false [] []),.int .i64 e]
abbrev aJM (neg:Bool) (a b:Nat):PV:=.tup [.agg (eW neg (aG a) (aG b)),.int .i64 0]
def CL (neg:Bool) (a b:Nat):PV :=
 if cA (a/bfU a b)>4096∨cA (b/bfU a b)>4096 then vP 2 else aJM (neg&&decide (a/bfU a b≠0)) (a/bfU a b) (b/bfU a b)
theorem kX {res:List dC} {F:PF} {H:PH} {e:Int} (h:dC.evs F H res=some [.agg [.bool false,.nils,.nils],.int .i64 e]):aX res (bY (vP e)) .ret F H :=
 aW (.inr rfl) .nil h PH.nil_le ⟨CoL.tup (.cons (CoL.agg (.cons (.refl _) (.cons (.nil 1) (.cons (.nil 1) .nil)))) (.cons (.refl _) .nil)),rfl⟩
theorem alA {n:Nat}:cA n>1↔n>1:=by
 have:=jQ n 1
 omega
theorem aPH {a n:Nat} (g:Nat) (h:nl a≤n):nl (a/g)≤n:=biK (gK (biS _ _)) h
theorem GR {C:Ctx} (L:pH C) (neg:Bool) (a b:List Nat) (ha:Lim a) (hb:Lim b) (la:a.length≤16777216) (lb:b.length≤16777216) (o:Nat) (F:PF) (H:PH)
  (f0:F 0=some (.bool neg)) (f1:F 1=some (aF a)) (f2:F 2=some (aF b)) (f6:F 6=some (.ptr o 3 0 0)) (f7:F 7=some (.int .i64 0)) (hH:H o=some (.rows 3 [[.bool false,.nils,.nils]])) :
  aD.wp C (.seq (.seq (.region BB) (.cond (.tmp 40) (.seq (.region sQ) .ret) .skip)) (.seq (.region BC) .ret)) (aX mT.res (bY (if cA (val a)>4096∨cA (val b)>4096 then vP 2 else aJM (neg&&decide (val a≠0)) (val a) (val b)))) F H:=by
 have fin:∀ (r:List (List PV)) F H,F 6=some (.ptr o 3 0 0)→F 7=some (.int .i64 2)→H o=some (.rows 3 [[.bool false,.nils,.nils]])→aX mT.res (bY (vP 2)) .ret F H:=by
  intro r F H h6 h7 h
  refine kX ?_
  simp -implicitDefEqProofs only[go_sem,δ,mT,h6,h7,h]
 simp -implicitDefEqProofs only[go_sem,BB,f1]
 refine aB (L.bits a ha la) rfl ?_
 by_cases c1:cA (val a)>4096
 ·have c1':((cA (val a):Nat):Int)>4096:=by omega
  rw[if_pos (.inl c1)]
  simp -implicitDefEqProofs only[go_sem,δ,γ,c1',sQ,f6,hH]
  exact fin [] _ _ (by simp -implicitDefEqProofs only[go_sem,γ,f6]) rfl (by simp -implicitDefEqProofs only[go_sem])
 ·have c1':¬ ((cA (val a):Nat):Int)>4096:=by omega
  simp -implicitDefEqProofs only[go_sem,γ,c1',f2]
  refine aB (L.bits b hb lb) rfl ?_
  by_cases c2:cA (val b)>4096
  ·have c2':((cA (val b):Nat):Int)>4096:=by omega
   rw[if_pos (.inr c2)]
   simp -implicitDefEqProofs only[go_sem,δ,γ,reduceCtorEq,c2',sQ,f6,hH]
   exact fin [] _ _ (by simp -implicitDefEqProofs only[go_sem,γ,f6]) rfl (by simp -implicitDefEqProofs only[go_sem])
  ·have c2':¬ ((cA (val b):Nat):Int)>4096:=by omega
   rw[if_neg (by omega)]
   have last:∀ F:PF,F 1=some (aF a)→F 2=some (aF b)→F 6=some (.ptr o 3 0 0)→∀ (q:Bool),q=(neg&&decide (val a≠0))→F 47=some (.bool q) →
     True:=fun _ _ _ _ _ _ _=>trivial
   simp -implicitDefEqProofs only[go_sem,γ,reduceCtorEq,c2',BC,f0,f1,f2,f6,hH]
   cases neg with
   | false =>
    simp -implicitDefEqProofs only[go_sem,γ,reduceCtorEq,f0,f1,f2,f6,hH]
    refine aB (L.trim a ha la) rfl ?_
    simp -implicitDefEqProofs only[go_sem,γ,f0,f1,f2,f6,hH]
    refine aB (L.trim b hb lb) rfl ?_
    simp -implicitDefEqProofs only[go_sem,δ,γ,θ,f0,f1,f2,f6,hH,bgG]
    refine aW (.inr rfl) .nil (vs:=[.agg (eW false (aG (val a)) (aG (val b))),.int .i64 0]) ?_ PH.nil_le ⟨.refl _,rfl⟩
    simp -implicitDefEqProofs only[go_sem,δ,γ,mT,f6,hH]
   | true =>
    simp -implicitDefEqProofs only[go_sem,γ,f0,f1,f2,f6,hH]
    refine aB (L.bits a ha la) rfl ?_
    have e:decide (((cA (val a):Nat):Int)>0)=decide (val a≠0):=by
     have:=@gQ (val a)
     rw[decide_eq_decide]; omega
    simp -implicitDefEqProofs only[go_sem,γ,f0,f1,f2,f6,hH,e]
    refine aB (L.trim a ha la) rfl ?_
    simp -implicitDefEqProofs only[go_sem,γ,f0,f1,f2,f6,hH]
    refine aB (L.trim b hb lb) rfl ?_
    simp -implicitDefEqProofs only[go_sem,δ,γ,θ,f0,f1,f2,f6,hH,bgR]
    refine aW (.inr rfl) .nil (vs:=[.agg (eW (decide (val a≠0)) (aG (val a)) (aG (val b))),.int .i64 0]) ?_ PH.nil_le ⟨.refl _,rfl⟩
    simp -implicitDefEqProofs only[go_sem,δ,γ,mT,f6,hH]
theorem aJG {C:Ctx} (L:pH C) (neg:Bool) (a b:List Nat) (ha:Lim a) (hb:Lim b) (la:a.length≤16777216) (lb:b.length≤16777216) (na:nl (val a)≤512) (nb:nl (val b)≤512) (h0:val b≠0) :
  uI.wp C (aX mT.res (bY (CL neg (val a) (val b)))) (PF.args [.bool neg,aF a,aF b]) .nil:=by
 simp -implicitDefEqProofs only[go_sem,δ,uI,TL,TM]
 refine aP fun o ho=>?_
 simp -implicitDefEqProofs only[go_sem,γ]
 refine aB (L.gcd a b ha hb la lb) rfl ?_
 rw[iR na nb]
 simp -implicitDefEqProofs only[go_sem,γ,reduceCtorEq,TN]
 have hg0:bfU (val a) (val b)≠0:=by
  intro h; exact h0 (Nat.gcd_eq_zero_iff.1 h).2
 have hgl:nl (bfU (val a) (val b))≤512:=biK (gK (Nat.gcd_le_right _ (biD h0))) nb
 have hll:(aG (bfU (val a) (val b))).length≤16777216:=by rw[bH]; omega
 refine aB (L.bits _ (bE _) hll) rfl ?_
 rw[aY]
 by_cases c:bfU (val a) (val b)>1
 ·have c':((cA (bfU (val a) (val b)):Nat):Int)>1:=by have:=alA.2 c; omega
  simp -implicitDefEqProofs only[go_sem,γ,c',TO]
  refine aB (L.div a _ ha (bE _) la hll) rfl ?_
  rw[aY,kG,iR na hgl,if_neg (by decide),if_neg hg0]
  simp -implicitDefEqProofs only[go_sem,γ,TP]
  refine aB (L.div b _ hb (bE _) lb hll) rfl ?_
  rw[aY,kG,iR nb hgl,if_neg (by decide),if_neg hg0]
  simp -implicitDefEqProofs only[go_sem,γ]
  have:=GR L neg (aG (val a/bfU (val a) (val b))) (aG (val b/bfU (val a) (val b))) (bE _) (bE _) (by rw[bH]; have:=aPH (bfU (val a) (val b)) na; omega) (by rw[bH]; have:=aPH (bfU (val a) (val b)) nb; omega) o
  rw[aY,aY] at this
  have:=fun F H=>this F H
  simp only[aD.wp,go_sem] at this
  exact this _ _ rfl rfl rfl rfl rfl (by simp -implicitDefEqProofs only[go_sem])
 ·have c':¬ ((cA (bfU (val a) (val b)):Nat):Int)>1:=by have:=(@alA (bfU (val a) (val b))); omega
  have e1:bfU (val a) (val b)=1:=by omega
  simp -implicitDefEqProofs only[go_sem,γ,c']
  rw[CL,e1,Nat.div_one,Nat.div_one]
  have:=GR L neg a b ha hb la lb o
  simp only[aD.wp,go_sem] at this
  exact this _ _ rfl rfl rfl rfl rfl (by simp -implicitDefEqProofs only[go_sem])
end Go.PM
