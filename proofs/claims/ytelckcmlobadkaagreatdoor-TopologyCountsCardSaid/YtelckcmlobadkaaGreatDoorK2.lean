/-
  Texts of ours, joined: Pm20c Pm21 Pm22 Pm23 Pm24 Pm25 Pm26 L11Code R1Code NaCode Pm27 Pm29 Pm30 Pm31 NaPlain NaW1 NaW2 NaW3 NaW4 NaW5 NaW6 NaW7 NaW8 NaW9 NaKn NaW10 NaW11 Pm32 NaW12 NaW13 NaW14 NaW15 FrCode FrW1 FrW2. No condition.
-/
import Derived.Test.YtelckcmlobadkaaGreatDoorK1
import Derived.ProofKit
set_option linter.unusedSimpArgs false
set_option linter.unusedVariables false
open Nat renaming reduceEqDiff → γ, reduceAdd → δ, reduceSub → ε, reduceMul → ζ, reduceLT → η, reduceLeDiff → θ, reduceBEq → τ
open Int renaming reduceLT → ι, reduceLE → κ, reduceEq → μ, reduceToNat → ν, reduceAdd → ξ, reduceNeg → ο, reduceBEq → ρ, reduceBNe → σ
open List renaming reduceReplicate → υ
open List renaming length_map → bgT, replicate → bgV, length_append → bgW, getElem_mem → bgY, length_singleton → bhA, range → bhB, mem_cons → bhF, getElem?_eq_getElem → bhH, take_of_length_le → bhI, length_take → bhJ, not_mem_nil → bhM, getD_eq_getElem?_getD → bhQ, drop_zero → bhV, all_eq_true → bhW, append_assoc → bhY, take_length → bhZ, mem_map → biA, map_cons → biC, getElem?_eq_none → biE, getElem?_eq_some_iff → biG, getElem?_map → biH, getElem_map → biI, getElem_of_mem → biL, mem_range → biM, append_nil → biN, mem_append → biO, drop_eq_getElem_cons → biQ, length_drop → biR, map_append → biS, Sublist → biU, map_nil → biV, take_succ_eq_append_getElem → biZ, length_nil → bjB, length_set → bjC, take_append_drop → bjE, ext_getElem → bjH, mem_of_getElem? → bjI, length_cons → bjJ, nodup_append → bjK, getElem?_take → bjO, getElem?_append_left → bjQ, set_append_right → bjR, getElem?_append_right → bjU, drop_of_length_le → bkA
open Nat renaming gcd → bgU, le_refl → bgX, mul_add → bhD, zero_le → bhE, lt_or_ge → bhK, mul_assoc → bhL, mul_comm → bhR, zero_add → bhS, add_mul → bhT, mul_le_mul_right → bhU, mod_eq_of_lt → bhX, mod_lt → biB, pow_succ → biJ, add_zero → biP, min_eq_left → biT, add_assoc → biW, mul_le_mul_left → biX, eq_zero_or_pos → bjA, pos_of_ne_zero → bjF, pow_pos → bjG, div_lt_iff_lt_mul → bjL, le_trans → bjM, div_le_self → bjS, div_add_mod → bjV, div_eq_of_lt → bjW
open Option renaming map_eq_some_iff → bgZ, map_some → biD, some → biY, getD_some → bjP, bind_eq_some_iff → bjX, bind_some → bkB
open Bool renaming not_true → bhC, false_and → bhG, not_false → bhN, and_eq_true → bhO, true_and → bhP, and_false → biF, and_true → bjD, false_eq_true → bjZ
open Array renaming replicate → biK, length_toList → bjN, getElem?_eq_getElem → bjY, getElem?_eq_some_iff → bkC
open Int renaming toNat_natCast → bjT
namespace Go.PM
open Go
inductive Co:PV→PV→Prop
 | refl (v:PV):Co v v
 | junk (v:PV):Co v .junk
 | nil (s:Nat):Co .nils (.sl s [])
 | osl0 (o s off s':Nat):Co (.osl o s off 0) (.sl s' [])
 | agg {cs ds:List PV} (hl:ds.length=cs.length) (h:∀ (j:Nat) p q,cs[j]?=some p→ds[j]?=some q→Co p q):Co (.agg cs) (.agg ds)
 | tup {cs ds:List PV} (hl:ds.length=cs.length) (h:∀ (j:Nat) p q,cs[j]?=some p→ds[j]?=some q→Co p q):Co (.tup cs) (.tup ds)
 | rptr {cs ds:List PV} (hl:ds.length=cs.length) (h:∀ (j:Nat) p q,cs[j]?=some p→ds[j]?=some q→Co p q):Co (.rptr cs) (.rptr ds)
 | sl {s:Nat} {rs ts:List (List PV)} (hl:ts.length=rs.length) (hr:∀ (i:Nat) r t,rs[i]?=some r→ts[i]?=some t→t.length=r.length)
   (h:∀ (i j:Nat) p q,at2 rs i j=some p→at2 ts i j=some q→Co p q):Co (.sl s rs) (.sl s ts)
structure CoL (ps qs:List PV):Prop where
 len:qs.length=ps.length
 at_:∀ (j:Nat) p q,ps[j]?=some p→qs[j]?=some q→Co p q
theorem CoL.refl (ps:List PV):CoL ps ps:=⟨rfl,fun j p q h k=>by rw[h] at k; cases k; exact .refl p⟩
theorem Co.sound {E:Env} {p q:PV} (h:Co p q):∀ {v:Value},aT E p v→aT E q v:=by
 induction h with
 | refl=>intro v r; exact r
 | junk=>intro v _; exact .junk v
 | nil s =>
  intro v r
  cases r
  exact .sl (fun _ _=>.bool false) (by simp) (by decide) (by simp) (by simp) (fun _ _=>rfl) (by simp[at2])
 | osl0 o s off s' =>
  intro v r
  cases r with
  | osl hb hsp hoff hlen hmax hn hroom=>exact .sl (fun _ _=>.bool false) (by simp) hmax (by simp) (by simp) (fun _ _=>rfl) (by simp[at2])
 | agg hl h ih =>
  intro v r
  cases r with
  | agg vs hl' h1 hr =>
  refine .agg vs (hl'.trans hl.symm) h1 fun j q u hq hu=>?_
  have hj:=(biG.1 hq).1
  have hp:=bhH (show j<_ by rw[hl] at hj; exact hj)
  exact ih j _ q hp hq (hr j _ u hp hu)
 | tup hl h ih =>
  intro v r
  cases r with
  | tup vs hl' hr =>
  refine .tup vs (hl'.trans hl.symm) fun j q u hq hu=>?_
  have hj:=(biG.1 hq).1
  have hp:=bhH (show j<_ by rw[hl] at hj; exact hj)
  exact ih j _ q hp hq (hr j _ u hp hu)
 | rptr hl h ih =>
  intro v r
  cases r with
  | rptr u hsp hc h1 hr =>
  refine .rptr u hsp (fun j q hq=>?_) h1 fun j q hq=>?_
  ·have hj:=(biG.1 hq).1
   exact hc j _ (bhH (show j<_ by rw[hl] at hj; exact hj))
  ·have hj:=(biG.1 hq).1
   have hp:=bhH (show j<_ by rw[hl] at hj; exact hj)
   exact ih j _ q hp hq (hr j _ hp)
 | @sl s rs ts hl hrr h ih =>
  intro v r
  have key:∀ (i j:Nat) q,at2 ts i j=some q→∃ p,at2 rs i j=some p:=by
   intro i j q hq
   unfold at2 at hq ⊢
   rw[bjX] at hq
   obtain⟨t,ht,hq⟩:=hq
   have hi:=(biG.1 ht).1
   have hr:=bhH (show i<rs.length by omega)
   have:=hrr i _ t hr ht
   have hj:=(biG.1 hq).1
   rw[hr]
   exact⟨(rs[i])[j]'(by omega),by simp⟩
  cases r with
  | sl u hcap hmax hs ha h1 hr =>
  rw[← hl]
  refine .sl u (by omega) hmax (fun t ht=>?_) (fun hne=>?_) h1 fun i j q hq=>?_
  ·obtain⟨i,hi,rfl⟩:=biL ht
   have:=hrr i rs[i] ts[i] (by simp) (by simp)
   rw[this]
   exact hs _ (by simp)
  ·obtain⟨ad,e,sp,hc⟩:=ha (by rintro rfl; exact hne (List.eq_nil_of_length_eq_zero (by simpa using hl)))
   refine⟨ad,e,sp,fun i j q hq=>?_⟩
   obtain⟨p,hp⟩:=key i j q hq
   exact hc i j p hp
  ·obtain⟨p,hp⟩:=key i j q hq
   exact ih i j p q hp hq (hr i j p hp)
theorem CoL.sound {E:Env}:∀ {ps qs:List PV} {vs:List Value},CoL ps qs→eI E ps vs→eI E qs vs
 | [],qs,vs,h,r=>by
  cases r
  have:qs=[]:=List.eq_nil_of_length_eq_zero h.len
  subst this
  exact .nil
 | p::ps,qs,vs,h,r=>by
  cases r with
  | cons r1 r2 =>
  cases qs with
  | nil=>have:=h.len; simp at this
  | cons q qs =>
   refine .cons ((h.at_ 0 p q rfl rfl).sound r1) (CoL.sound ⟨by simpa using h.len,fun j x y a b=>h.at_ (j+1) x y (by simpa using a) (by simpa using b)⟩ r2)
theorem aJ.args {C:Ctx} {name:Nat} {args args':List PV} {H:PH} {R:PV→PH→Prop} (h:aJ C name args' H R) (hc:CoL args args'):aJ C name args H R :=
 ⟨h.1,fun E w vs hN hW hvs=>h.2 E w vs hN hW (hc.sound hvs)⟩
theorem aJ.post {C:Ctx} {name:Nat} {args:List PV} {H:PH} {R R':PV→PH→Prop} (h:aJ C name args H R) (hR:∀ r H',R r H'→∃ r',Co r r'∧R' r' H'):aJ C name args H R' :=
 ⟨h.1,fun E w vs hN hW hvs=>(h.2 E w vs hN hW hvs).mono fun e w' he=>by
  obtain⟨v,pv,E',H',rfl,hW',hr,hE,hp⟩:=he
  obtain⟨pv',hco,hp'⟩:=hR pv H' hp
  exact⟨v,pv',E',H',rfl,hW',hco.sound hr,hE,hp'⟩⟩
end Go.PM
namespace Go.PM
open Go
attribute [go_sem] List.getElem?_cons_succ List.getElem?_cons_zero and_self and_true true_and or_true true_or or_false false_or bhC bhN biD bkB if_true if_false bjJ bjB List.drop_succ_cons bhV List.take_succ_cons List.take_zero biC biV biY.injEq PV.bool.injEq PV.int.injEq aM PV.bin
@[go_sem] theorem a6T (k:IntKind) (a b:Int):jF .add k a b=some (.int k (k.wrap (a+b))):=rfl
@[go_sem] theorem a7D (k:IntKind) (a b:Int):jF .sub k a b=some (.int k (k.wrap (a-b))):=rfl
@[go_sem] theorem a6Z (k:IntKind) (a b:Int):jF .mul k a b=some (.int k (k.wrap (a*b))):=rfl
@[go_sem] theorem a7B (k:IntKind) (a b:Int):jF .quo k a b=if b=0 then none else some (.int k (k.wrap (a.tdiv b))):=rfl
@[go_sem] theorem a7C (k:IntKind) (a b:Int):jF .rem k a b=if b=0 then none else some (.int k (a.tmod b)):=rfl
@[go_sem] theorem a6U (k:IntKind) (a b:Int):jF .eql k a b=some (.bool (a==b)):=rfl
@[go_sem] theorem a7A (k:IntKind) (a b:Int):jF .neq k a b=some (.bool (a != b)):=rfl
@[go_sem] theorem a6Y (k:IntKind) (a b:Int):jF .lss k a b=some (.bool (decide (a<b))):=rfl
@[go_sem] theorem a6X (k:IntKind) (a b:Int):jF .leq k a b=some (.bool (decide (a≤b))):=rfl
@[go_sem] theorem a6W (k:IntKind) (a b:Int):jF .gtr k a b=some (.bool (decide (a>b))):=rfl
@[go_sem] theorem a6V (k:IntKind) (a b:Int):jF .geq k a b=some (.bool (decide (a≥b))):=rfl
section
variable {C:Ctx} {K:bZ} {F:PF} {H:PH}
@[go_sem] theorem bfR:aD.wp C .skip K F H=K .normal F H:=rfl
@[go_sem] theorem a8M (ops:List bE):aD.wp C (.region ops) K F H=wpOps C ops (K .normal) F H:=rfl
@[go_sem] theorem adH (a b:aD):aD.wp C (.seq a b) K F H=a.wp C (iZ C (b.wp C) K) F H:=rfl
@[go_sem] theorem a9T (id:Nat) (c:aD):aD.wp C (.block id c) K F H=c.wp C (dY id K) F H:=rfl
@[go_sem] theorem bfQ (id:Nat):aD.wp C (.exit id) K F H=K (.exit id) F H:=rfl
@[go_sem] theorem bgC:aD.wp C .ret K F H=K .ret F H:=rfl
def MJ (C:Ctx) (v:Option PV) (a b:aD) (K:bZ) (F:PF) (H:PH):Prop :=
 match v with
 | some (.bool t)=>if t then a.wp C K F H else b.wp C K F H
 | _=>False
@[go_sem] theorem aYL (c:aN) (a b:aD):aD.wp C (.cond c a b) K F H=MJ C (c.ev F) a b K F H:=rfl
@[go_sem] theorem a7J (a b:aD):MJ C (some (.bool true)) a b K F H=a.wp C K F H:=rfl
@[go_sem] theorem a5Y (a b:aD):MJ C (some (.bool false)) a b K F H=b.wp C K F H:=rfl
theorem aTS {t:Bool} {a b:aD} (h1:t=true→a.wp C K F H) (h2:t=false→b.wp C K F H):MJ C (some (.bool t)) a b K F H:=by
 cases t
 ·exact h2 rfl
 ·exact h1 rfl
@[go_sem] theorem a6E (w:bZ→PF→PH→Prop):iZ C w K .normal F H=w K F H:=rfl
@[go_sem] theorem a5K (w:bZ→PF→PH→Prop):iZ C w K .normal=w K:=rfl
@[go_sem] theorem a9H (w:bZ→PF→PH→Prop) (id:Nat):iZ C w K (.exit id)=K (.exit id):=rfl
@[go_sem] theorem bfF (w:bZ→PF→PH→Prop):iZ C w K .ret=K .ret:=rfl
@[go_sem] theorem a3Z (id:Nat):dY id K .normal=K .normal:=rfl
@[go_sem] theorem a7G (id:Nat):dY id K .ret=K .ret:=rfl
@[go_sem] theorem xP (id id':Nat):dY id K (.exit id') F H=if id'=id then K .normal F H else K (.exit id') F H:=rfl
@[go_sem] theorem a8K (K:PF→PH→Prop):wpOps C [] K F H=K F H:=rfl
@[go_sem] theorem a8L (d:Option Nat) (op:POp) (rest:List bE) (K:PF→PH→Prop):wpOps C (⟨d,op,none⟩::rest) K F H=wpOp C op d (wpOps C rest K) F H:=rfl
def sP (C:Ctx) (v:Option PV) (want:Bool) (op:POp) (d:Option Nat) (rest:List bE) (K:PF→PH→Prop) (F:PF) (H:PH):Prop :=
 match v with
 | some (.bool b)=>if b=want then wpOp C op d (wpOps C rest K) F H else wpOps C rest K (F.put d (.tup [])) H
 | some (.tup [])=>wpOps C rest K (F.put d (.tup [])) H
 | _=>False
@[go_sem] theorem aAW (d:Option Nat) (op:POp) (t:Nat) (want:Bool) (rest:List bE) (K:PF→PH→Prop) :
  wpOps C (⟨d,op,some (t,want)⟩::rest) K F H=sP C (F t) want op d rest K F H:=rfl
@[go_sem] theorem a9D (op:POp) (d:Option Nat) (rest:List bE) (K:PF→PH→Prop):sP C (some (.bool true)) true op d rest K F H=wpOp C op d (wpOps C rest K) F H:=rfl
@[go_sem] theorem a9A (op:POp) (d:Option Nat) (rest:List bE) (K:PF→PH→Prop):sP C (some (.bool false)) false op d rest K F H=wpOp C op d (wpOps C rest K) F H:=rfl
@[go_sem] theorem a9C (op:POp) (d:Option Nat) (rest:List bE) (K:PF→PH→Prop):sP C (some (.bool true)) false op d rest K F H=wpOps C rest K (F.put d (.tup [])) H:=rfl
@[go_sem] theorem a9B (op:POp) (d:Option Nat) (rest:List bE) (K:PF→PH→Prop):sP C (some (.bool false)) true op d rest K F H=wpOps C rest K (F.put d (.tup [])) H:=rfl
@[go_sem] theorem a6D (want:Bool) (op:POp) (d:Option Nat) (rest:List bE) (K:PF→PH→Prop):sP C (some (.tup [])) want op d rest K F H=wpOps C rest K (F.put d (.tup [])) H:=rfl
@[go_sem] theorem bcY (d:Nat) (v:PV):F.put (some d) v=F.set d v:=rfl
@[go_sem] theorem bcX (v:PV):F.put none v=F:=rfl
@[go_sem] theorem kW (i j:Nat) (v:PV):(F.set i v) j=if j=i then some v else F j:=rfl
@[go_sem] theorem args_at (vs:List PV) (i:Nat):PF.args vs i=vs[i]?:=rfl
@[go_sem] theorem bgF (i:Nat):PF.nil i=none:=rfl
@[go_sem] theorem UY (t:Nat):(aN.tmp t).ev F=F t:=rfl
@[go_sem] theorem bcO (v:PV):(aN.const v).ev F=some v:=rfl
@[go_sem] theorem aV (i j:Nat) (x:bV):(H.set i x) j=if j=i then some x else H j:=rfl
@[go_sem] theorem abS (i:Nat):PH.nil i=none:=rfl
@[go_sem] theorem MM:aN.evs F []=some []:=rfl
@[go_sem] theorem uZ (x:aN) (xs:List aN):aN.evs F (x::xs)=(match x.ev F,aN.evs F xs with | some v,some vs=>some (v::vs) | _,_=>none):=rfl
theorem fZ {i j:Nat} {x:bV}:(H.set i x) j=none↔j≠i∧H j=none:=by
 rw[aV]
 split<;>simp_all
@[go_sem] theorem a6F (v:PV) (d:Option Nat) (K:PF→PH→Prop):bN (some v) d K F H=K (F.put d v) H:=by
 simp[bN]
theorem aQ {mk:Nat→PV} {x:bV} {d:Option Nat} {K:PF→PH→Prop} (h:∀ o,H o=none→K (F.put d (mk o)) (H.set o x)):kG (some (mk,x)) d K F H:=⟨mk,x,rfl,h⟩
@[go_sem] theorem bgA (x:aN) (d:Option Nat) (K:PF→PH→Prop):wpOp C (.mv x) d K F H=bN (aM (.mv x) F H) d K F H:=rfl
@[go_sem] theorem a9S (x:aN) (d:Option Nat) (K:PF→PH→Prop):wpOp C (.same x) d K F H=bN (aM (.same x) F H) d K F H:=rfl
@[go_sem] theorem a9R (c a b:aN) (d:Option Nat) (K:PF→PH→Prop):wpOp C (.pick c a b) d K F H=bN (aM (.pick c a b) F H) d K F H:=rfl
@[go_sem] theorem bfL (o:BinOp) (x y:aN) (d:Option Nat) (K:PF→PH→Prop):wpOp C (.bin o x y) d K F H=bN (aM (.bin o x y) F H) d K F H:=rfl
@[go_sem] theorem bfN (n:Bool) (x y:aN) (d:Option Nat) (K:PF→PH→Prop):wpOp C (.eqb n x y) d K F H=bN (aM (.eqb n x y) F H) d K F H:=rfl
@[go_sem] theorem bfO (n:Bool) (ks:List Sc) (x y:aN) (d:Option Nat) (K:PF→PH→Prop):wpOp C (.eqs n ks x y) d K F H=bN (aM (.eqs n ks x y) F H) d K F H:=rfl
@[go_sem] theorem bgB (o:UnOp) (x:aN) (d:Option Nat) (K:PF→PH→Prop):wpOp C (.un o x) d K F H=bN (aM (.un o x) F H) d K F H:=rfl
@[go_sem] theorem a9L (k:IntKind) (x:aN) (d:Option Nat) (K:PF→PH→Prop):wpOp C (.conv k x) d K F H=bN (aM (.conv k x) F H) d K F H:=rfl
@[go_sem] theorem a8E (z:List PV) (ps:List (Nat × Nat × aN)) (d:Option Nat) (K:PF→PH→Prop):wpOp C (.build z ps) d K F H=bN (aM (.build z ps) F H) d K F H:=rfl
@[go_sem] theorem a9P (n:Option Nat) (p:aN) (d:Option Nat) (K:PF→PH→Prop):wpOp C (.load n p) d K F H=bN (aM (.load n p) F H) d K F H:=rfl
@[go_sem] theorem a6Q (x:aN) (d:Option Nat) (K:PF→PH→Prop):wpOp C (.nilchk x) d K F H=bN (aM (.nilchk x) F H) d K F H:=rfl
@[go_sem] theorem a6J (off:Nat) (x:aN) (d:Option Nat) (K:PF→PH→Prop):wpOp C (.fieldA off x) d K F H=bN (aM (.fieldA off x) F H) d K F H:=rfl
@[go_sem] theorem a8G (off:Nat) (n:Option Nat) (x:aN) (d:Option Nat) (K:PF→PH→Prop):wpOp C (.field off n x) d K F H=bN (aM (.field off n x) F H) d K F H:=rfl
@[go_sem] theorem a9N (s:Nat) (x i:aN) (d:Option Nat) (K:PF→PH→Prop):wpOp C (.idxS s x i) d K F H=bN (aM (.idxS s x i) F H) d K F H:=rfl
@[go_sem] theorem a9M (n s:Nat) (x i:aN) (d:Option Nat) (K:PF→PH→Prop):wpOp C (.idxA n s x i) d K F H=bN (aM (.idxA n s x i) F H) d K F H:=rfl
@[go_sem] theorem a9O (n s:Nat) (g:Bool) (x i:aN) (d:Option Nat) (K:PF→PH→Prop):wpOp C (.idxV n s g x i) d K F H=bN (aM (.idxV n s g x i) F H) d K F H:=rfl
@[go_sem] theorem a6K (x i:aN) (d:Option Nat) (K:PF→PH→Prop):wpOp C (.idxStr x i) d K F H=bN (aM (.idxStr x i) F H) d K F H:=rfl
@[go_sem] theorem a8I (s:Nat) (x:aN) (lo hi mx:Option aN) (d:Option Nat) (K:PF→PH→Prop):wpOp C (.slice s x lo hi mx) d K F H=bN (aM (.slice s x lo hi mx) F H) d K F H:=rfl
@[go_sem] theorem a6R (n s:Nat) (x:aN) (lo hi mx:Option aN) (d:Option Nat) (K:PF→PH→Prop):wpOp C (.sliceA n s x lo hi mx) d K F H=bN (aM (.sliceA n s x lo hi mx) F H) d K F H:=rfl
@[go_sem] theorem a4C (x:aN) (lo hi:Option aN) (d:Option Nat) (K:PF→PH→Prop):wpOp C (.sliceStr x lo hi) d K F H=bN (aM (.sliceStr x lo hi) F H) d K F H:=rfl
@[go_sem] theorem a9E:PV.qG .nils=some (.int .i64 0):=rfl
@[go_sem] theorem bfZ (s:Nat) (rows:List (List PV)):PV.qG (.sl s rows)=some (.int .i64 rows.length):=rfl
@[go_sem] theorem bcV (o s off n:Nat):PV.qG (.osl o s off n)=some (.int .i64 n):=rfl
@[go_sem] theorem bfP (x:aN) (d:Option Nat) (K:PF→PH→Prop):wpOp C (.len x) d K F H=bN (aM (.len x) F H) d K F H:=rfl
@[go_sem] theorem a6M (x:aN) (d:Option Nat) (K:PF→PH→Prop):wpOp C (.lenStr x) d K F H=bN (aM (.lenStr x) F H) d K F H:=rfl
@[go_sem] theorem a6I (x:aN) (d:Option Nat) (K:PF→PH→Prop):wpOp C (.capNil x) d K F H=bN (aM (.capNil x) F H) d K F H:=rfl
@[go_sem] theorem a5W (x:aN) (i:Nat) (d:Option Nat) (K:PF→PH→Prop):wpOp C (.extract x i) d K F H=bN (aM (.extract x i) F H) d K F H:=rfl
@[go_sem] theorem a6P (m:Bool) (x y:aN) (d:Option Nat) (K:PF→PH→Prop):wpOp C (.minmax m x y) d K F H=bN (aM (.minmax m x y) F H) d K F H:=rfl
@[go_sem] theorem a9Q (n:Nat) (cs:List aN) (d:Option Nat) (K:PF→PH→Prop):wpOp C (.mkfn n cs) d K F H=bN (aM (.mkfn n cs) F H) d K F H:=rfl
@[go_sem] theorem a6N (sh:MSh) (z:PV) (x k:aN) (ok:Bool) (d:Option Nat) (K:PF→PH→Prop):wpOp C (.lookup sh z x k ok) d K F H=bN (aM (.lookup sh z x k ok) F H) d K F H:=rfl
@[go_sem] theorem a3Y (x:aN) (d:Option Nat) (K:PF→PH→Prop):wpOp C (.bytes2str x) d K F H=bN (aM (.bytes2str x) F H) d K F H:=rfl
@[go_sem] theorem a9J (x:aN) (d:Option Nat) (K:PF→PH→Prop):wpOp C (.box true x) d K F H=bN (aM (.box true x) F H) d K F H:=rfl
@[go_sem] theorem a5V (s l:Nat) (z:List PV) (ps:List (Nat × aN)) (d:Option Nat) (K:PF→PH→Prop):wpOp C (.bslice true s l z ps) d K F H=bN (aM (.bslice true s l z ps) F H) d K F H:=rfl
@[go_sem] theorem a8D (cs:List PV) (d:Option Nat) (K:PF→PH→Prop):wpOp C (.alloc cs) d K F H=kG (cJ (.alloc cs) F) d K F H:=rfl
@[go_sem] theorem a5X (s b:Nat) (z:List PV) (l c:aN) (d:Option Nat) (K:PF→PH→Prop):wpOp C (.mkslice s b z l c) d K F H=kG (cJ (.mkslice s b z l c) F) d K F H:=rfl
@[go_sem] theorem a8H (sh:MSh) (d:Option Nat) (K:PF→PH→Prop):wpOp C (.mkmap sh) d K F H=kG (cJ (.mkmap sh) F) d K F H:=rfl
@[go_sem] theorem bfM (x:aN) (d:Option Nat) (K:PF→PH→Prop):wpOp C (.box false x) d K F H=kG (cJ (.box false x) F) d K F H:=rfl
@[go_sem] theorem a6H (s l:Nat) (z:List PV) (ps:List (Nat × aN)) (d:Option Nat) (K:PF→PH→Prop):wpOp C (.bslice false s l z ps) d K F H=kG (cJ (.bslice false s l z ps) F) d K F H:=rfl
@[go_sem] theorem a8J (n:Nat) (p x:aN) (d:Option Nat) (K:PF→PH→Prop):wpOp C (.store n p x) d K F H=bQ (.store n p x) F H (fun r H'=>K (F.put d r) H'):=rfl
@[go_sem] theorem a6G (s b:Nat) (x y:aN) (d:Option Nat) (K:PF→PH→Prop):wpOp C (.append s b x y) d K F H=bQ (.append s b x y) F H (fun r H'=>K (F.put d r) H'):=rfl
@[go_sem] theorem a6O (sh:MSh) (x k v:aN) (d:Option Nat) (K:PF→PH→Prop):wpOp C (.mapset sh x k v) d K F H=bQ (.mapset sh x k v) F H (fun r H'=>K (F.put d r) H'):=rfl
@[go_sem] theorem a6L (sh:MSh) (x k v:aN) (d:Option Nat) (K:PF→PH→Prop):wpOp C (.insert sh x k v) d K F H=bQ (.insert sh x k v) F H (fun r H'=>K (F.put d r) H'):=rfl
@[go_sem] theorem a9K (n:Nat) (az:List aN) (d:Option Nat) (K:PF→PH→Prop):wpOp C (.call n az) d K F H=gC C n az [] d K F H:=rfl
@[go_sem] theorem a8F (x:aN) (az:List aN) (d:Option Nat) (K:PF→PH→Prop):wpOp C (.callv x az) d K F H=(∃ n cs,x.ev F=some (.fn n cs)∧gC C n az cs d K F H):=rfl
theorem PF.nil_le:PF.nil.le F:=fun _ _ h=>(by cases h)
theorem PF.aA {i:Nat} {v:PV} {G:PF} (h1:F.le G) (h2:G i=some v):(F.set i v).le G:=by
 intro j u hj
 rw[kW] at hj
 split at hj
 ·rename_i e; subst e; cases hj; exact h2
 ·exact h1 _ _ hj
theorem PF.le_refl:F.le F:=fun _ _ h=>h
theorem PH.nil_le:PH.nil.le H:=fun _ _ h=>(by cases h)
theorem PH.aA {i:Nat} {x:bV} {G:PH} (h1:H.le G) (h2:G i=some x):(H.set i x).le G:=by
 intro j u hj
 rw[aV] at hj
 split at hj
 ·rename_i e; subst e; cases hj; exact h2
 ·exact h1 _ _ hj
theorem PH.le_refl:H.le H:=fun _ _ h=>h
theorem wp_loop {c:aD} {α:Type} (Fs:α→PF) (Hs:α→PH) (Pr:α→Prop) (m:α→Nat) (a0:α) (h0:Pr a0) (hF:(Fs a0).le F) (hH:(Hs a0).le H)
  (hb:∀ a,Pr a→c.wp C (eZ Fs Hs Pr m (m a) K) (Fs a) (Hs a)):aD.wp C (.loop c) K F H :=
 ⟨α,Fs,Hs,Pr,m,a0,F,H,.refl F H,h0,hF,hH,hb⟩
theorem aI {α:Type} {Fs:α→PF} {Hs:α→PH} {Pr:α→Prop} {m:α→Nat} {n:Nat} (a:α) (h0:Pr a) (hm:m a<n) (hF:(Fs a).le F) (hH:(Hs a).le H):eZ Fs Hs Pr m n K .normal F H :=
 ⟨a,F,H,.refl F H,h0,hm,hF,hH⟩
@[go_sem] theorem a7X {α:Type} {Fs:α→PF} {Hs:α→PH} {Pr:α→Prop} {m:α→Nat} {n:Nat} (id:Nat):eZ Fs Hs Pr m n K (.exit id)=K (.exit id):=rfl
@[go_sem] theorem a9F {α:Type} {Fs:α→PF} {Hs:α→PH} {Pr:α→Prop} {m:α→Nat} {n:Nat}:eZ Fs Hs Pr m n K .ret=K .ret:=rfl
def aL (v:PV) (r:PV) (H:PH):Prop:=r=v∧H=PH.nil
theorem PH.vS:H.over .nil .nil=H:=PH.ext fun o=>rfl
theorem aAV {name:Nat} {vs cs:List PV} {v:PV} {args:List aN} {d:Option Nat} {K:PF→PH→Prop} (h:aJ C name (vs++cs) .nil (aL v)) (ha:aN.evs F args=some vs)
  (hk:K (F.put d v) H):gC C name args cs d K F H:=by
 refine .inl ⟨vs++cs,.nil,_,by rw[ha]; rfl,PH.nil_le,h,?_⟩
 rintro r H' ⟨rfl,rfl⟩ _
 rw[PH.vS]
 exact hk
theorem aB {name:Nat} {vs:List PV} {v:PV} {args:List aN} {d:Option Nat} {K:PF→PH→Prop} (h:aJ C name vs .nil (aL v)) (ha:aN.evs F args=some vs)
  (hk:K (F.put d v) H):gC C name args [] d K F H:=aAV (cs:=[]) (by rw[biN]; exact h) ha hk
theorem cC {res:List dD} {vs:List PV} {v:PV} {e:kJ} (he:e=.normal∨e=.ret) (h:dD.evs F H res=some vs) (hv:cN vs=v):aY res (aL v) e F H:=by
 have key:∃ vs,dD.evs F H res=some vs∧∃ F1 H1 H2,gS (PF.nil.set 0 (cN vs)) H F1 H1∧H2.le H1∧∃ u,F1 0=some u∧aL v u H2 :=
  ⟨vs,h,_,H,.nil,.refl _ _,PH.nil_le,v,by rw[kW,if_pos rfl,hv],rfl,rfl⟩
 rcases he with rfl | rfl<;>exact key
@[go_sem] theorem nG:dD.evs F H []=some []:=rfl
@[go_sem] theorem jO (x:dD) (xs:List dD):dD.evs F H (x::xs)=(match x.ev F H,dD.evs F H xs with | some v,some vs=>some (v::vs) | _,_=>none):=rfl
@[go_sem] theorem lP (t:Nat):dD.ev F H (.tmp t)=F t:=rfl
@[go_sem] theorem bfD (t:Nat):dD.ev F H (.cell t none)=(match F t with | some p=>(match loadCells H p 1 with | some [v]=>some v | _=>none) | none=>none):=rfl
@[go_sem] theorem a9G (t k:Nat):dD.ev F H (.cell t (some k))=(match F t with | some p=>(loadCells H p k).map .agg | none=>none):=rfl
end
end Go.PM
namespace Go.PM
open Go
section
variable {C:Ctx} {K:bZ} {F:PF} {H Hs:PH} {S:Spec}
theorem cA {ops:List (bE × Bool)} (Hs:PH) (S:Spec) (hle:Hs.le H) (h:wpD C Hs S ops (K .normal) F H):aD.wp C (.draw ops) K F H:=⟨Hs,S,hle,h⟩
def dU:Spec:=fun _ _=>none
def dOp (C:Ctx) (Hs:PH) (S:Spec) (st:Bool) (op:POp) (d:Option Nat) (K:PF→PH→Prop) (F:PF) (H:PH):Prop:=(op.kind F).run C Hs S st (fun v H'=>K (F.put d v) H') H
@[go_sem] theorem bfJ (K:PF→PH→Prop):wpD C Hs S [] K F H=K F H:=rfl
@[go_sem] theorem bfK (d:Option Nat) (op:POp) (st:Bool) (rest:List (bE × Bool)) (K:PF→PH→Prop):wpD C Hs S ((⟨d,op,none⟩,st)::rest) K F H=dOp C Hs S st op d (wpD C Hs S rest K) F H:=rfl
def vG (C:Ctx) (Hs:PH) (S:Spec) (v:Option PV) (want st:Bool) (op:POp) (d:Option Nat) (rest:List (bE × Bool)) (K:PF→PH→Prop) (F:PF) (H:PH):Prop :=
 match v with
 | some (.bool b)=>if b=want then dOp C Hs S st op d (wpD C Hs S rest K) F H else wpD C Hs S rest K (F.put d (.tup [])) H
 | some (.tup [])=>wpD C Hs S rest K (F.put d (.tup [])) H
 | _=>False
@[go_sem] theorem a9I (d:Option Nat) (op:POp) (t:Nat) (want st:Bool) (rest:List (bE × Bool)) (K:PF→PH→Prop) :
  wpD C Hs S ((⟨d,op,some (t,want)⟩,st)::rest) K F H=vG C Hs S (F t) want st op d rest K F H:=by
 have e1:wpD C Hs S ((⟨d,op,some (t,want)⟩,st)::rest) K F H=((⟨d,op,some (t,want)⟩:bE).kind F).run C Hs S st (fun v H'=>wpD C Hs S rest K (F.put d v) H') H:=rfl
 rw[e1]
 unfold bE.kind vG
 simp only
 cases F t with
 | none=>rfl
 | some v =>
  cases v
  case bool b =>
   simp only
   by_cases hb:b=want
   ·rw[if_pos hb,if_pos hb]; rfl
   ·rw[if_neg hb,if_neg hb]; simp[Kind.run]
  case tup vs=>cases vs<;>simp[Kind.run]
  all_goals rfl
@[go_sem] theorem a8Z (op:POp) (st:Bool) (d:Option Nat) (rest:List (bE × Bool)) (K:PF→PH→Prop):vG C Hs S (some (.bool true)) true st op d rest K F H=dOp C Hs S st op d (wpD C Hs S rest K) F H:=rfl
@[go_sem] theorem a8W (op:POp) (st:Bool) (d:Option Nat) (rest:List (bE × Bool)) (K:PF→PH→Prop):vG C Hs S (some (.bool false)) false st op d rest K F H=dOp C Hs S st op d (wpD C Hs S rest K) F H:=rfl
@[go_sem] theorem a8Y (op:POp) (st:Bool) (d:Option Nat) (rest:List (bE × Bool)) (K:PF→PH→Prop):vG C Hs S (some (.bool true)) false st op d rest K F H=wpD C Hs S rest K (F.put d (.tup [])) H:=rfl
@[go_sem] theorem a8X (op:POp) (st:Bool) (d:Option Nat) (rest:List (bE × Bool)) (K:PF→PH→Prop):vG C Hs S (some (.bool false)) true st op d rest K F H=wpD C Hs S rest K (F.put d (.tup [])) H:=rfl
@[go_sem] theorem a6C (want:Bool) (op:POp) (st:Bool) (d:Option Nat) (rest:List (bE × Bool)) (K:PF→PH→Prop):vG C Hs S (some (.tup [])) want st op d rest K F H=wpD C Hs S rest K (F.put d (.tup [])) H:=rfl
@[go_sem] theorem bgD (x:aN) (st:Bool) (d:Option Nat) (K:PF→PH→Prop):dOp C Hs S st (.mv x) d K F H=bN (aM (.mv x) F (if st then Hs else H)) d K F H:=rfl
@[go_sem] theorem bcN (x:aN) (st:Bool) (d:Option Nat) (K:PF→PH→Prop):dOp C Hs S st (.same x) d K F H=bN (aM (.same x) F (if st then Hs else H)) d K F H:=rfl
@[go_sem] theorem bcM (c a b:aN) (st:Bool) (d:Option Nat) (K:PF→PH→Prop):dOp C Hs S st (.pick c a b) d K F H=bN (aM (.pick c a b) F (if st then Hs else H)) d K F H:=rfl
@[go_sem] theorem bfS (o:BinOp) (x y:aN) (st:Bool) (d:Option Nat) (K:PF→PH→Prop):dOp C Hs S st (.bin o x y) d K F H=bN (aM (.bin o x y) F (if st then Hs else H)) d K F H:=rfl
@[go_sem] theorem bfU (n:Bool) (x y:aN) (st:Bool) (d:Option Nat) (K:PF→PH→Prop):dOp C Hs S st (.eqb n x y) d K F H=bN (aM (.eqb n x y) F (if st then Hs else H)) d K F H:=rfl
@[go_sem] theorem bfV (n:Bool) (ks:List Sc) (x y:aN) (st:Bool) (d:Option Nat) (K:PF→PH→Prop):dOp C Hs S st (.eqs n ks x y) d K F H=bN (aM (.eqs n ks x y) F (if st then Hs else H)) d K F H:=rfl
@[go_sem] theorem bgE (o:UnOp) (x:aN) (st:Bool) (d:Option Nat) (K:PF→PH→Prop):dOp C Hs S st (.un o x) d K F H=bN (aM (.un o x) F (if st then Hs else H)) d K F H:=rfl
@[go_sem] theorem bcG (k:IntKind) (x:aN) (st:Bool) (d:Option Nat) (K:PF→PH→Prop):dOp C Hs S st (.conv k x) d K F H=bN (aM (.conv k x) F (if st then Hs else H)) d K F H:=rfl
@[go_sem] theorem a8O (z:List PV) (ps:List (Nat × Nat × aN)) (st:Bool) (d:Option Nat) (K:PF→PH→Prop):dOp C Hs S st (.build z ps) d K F H=bN (aM (.build z ps) F (if st then Hs else H)) d K F H:=rfl
@[go_sem] theorem bcK (n:Option Nat) (p:aN) (st:Bool) (d:Option Nat) (K:PF→PH→Prop):dOp C Hs S st (.load n p) d K F H=bN (aM (.load n p) F (if st then Hs else H)) d K F H:=rfl
@[go_sem] theorem a7T (x:aN) (st:Bool) (d:Option Nat) (K:PF→PH→Prop):dOp C Hs S st (.nilchk x) d K F H=bN (aM (.nilchk x) F (if st then Hs else H)) d K F H:=rfl
@[go_sem] theorem a7N (off:Nat) (x:aN) (st:Bool) (d:Option Nat) (K:PF→PH→Prop):dOp C Hs S st (.fieldA off x) d K F H=bN (aM (.fieldA off x) F (if st then Hs else H)) d K F H:=rfl
@[go_sem] theorem a8P (off:Nat) (n:Option Nat) (x:aN) (st:Bool) (d:Option Nat) (K:PF→PH→Prop):dOp C Hs S st (.field off n x) d K F H=bN (aM (.field off n x) F (if st then Hs else H)) d K F H:=rfl
@[go_sem] theorem bcI (s:Nat) (x i:aN) (st:Bool) (d:Option Nat) (K:PF→PH→Prop):dOp C Hs S st (.idxS s x i) d K F H=bN (aM (.idxS s x i) F (if st then Hs else H)) d K F H:=rfl
@[go_sem] theorem bcH (n s:Nat) (x i:aN) (st:Bool) (d:Option Nat) (K:PF→PH→Prop):dOp C Hs S st (.idxA n s x i) d K F H=bN (aM (.idxA n s x i) F (if st then Hs else H)) d K F H:=rfl
@[go_sem] theorem bcJ (n s:Nat) (g:Bool) (x i:aN) (st:Bool) (d:Option Nat) (K:PF→PH→Prop):dOp C Hs S st (.idxV n s g x i) d K F H=bN (aM (.idxV n s g x i) F (if st then Hs else H)) d K F H:=rfl
@[go_sem] theorem a7O (x i:aN) (st:Bool) (d:Option Nat) (K:PF→PH→Prop):dOp C Hs S st (.idxStr x i) d K F H=bN (aM (.idxStr x i) F (if st then Hs else H)) d K F H:=rfl
@[go_sem] theorem a8R (s:Nat) (x:aN) (lo hi mx:Option aN) (st:Bool) (d:Option Nat) (K:PF→PH→Prop):dOp C Hs S st (.slice s x lo hi mx) d K F H=bN (aM (.slice s x lo hi mx) F (if st then Hs else H)) d K F H:=rfl
@[go_sem] theorem a4M (x:aN) (lo hi:Option aN) (st:Bool) (d:Option Nat) (K:PF→PH→Prop):dOp C Hs S st (.sliceStr x lo hi) d K F H=bN (aM (.sliceStr x lo hi) F (if st then Hs else H)) d K F H:=rfl
@[go_sem] theorem bfW (x:aN) (st:Bool) (d:Option Nat) (K:PF→PH→Prop):dOp C Hs S st (.len x) d K F H=bN (aM (.len x) F (if st then Hs else H)) d K F H:=rfl
@[go_sem] theorem a7P (x:aN) (st:Bool) (d:Option Nat) (K:PF→PH→Prop):dOp C Hs S st (.lenStr x) d K F H=bN (aM (.lenStr x) F (if st then Hs else H)) d K F H:=rfl
@[go_sem] theorem a7M (x:aN) (st:Bool) (d:Option Nat) (K:PF→PH→Prop):dOp C Hs S st (.capNil x) d K F H=bN (aM (.capNil x) F (if st then Hs else H)) d K F H:=rfl
@[go_sem] theorem a6A (x:aN) (i:Nat) (st:Bool) (d:Option Nat) (K:PF→PH→Prop):dOp C Hs S st (.extract x i) d K F H=bN (aM (.extract x i) F (if st then Hs else H)) d K F H:=rfl
@[go_sem] theorem a7S (m:Bool) (x y:aN) (st:Bool) (d:Option Nat) (K:PF→PH→Prop):dOp C Hs S st (.minmax m x y) d K F H=bN (aM (.minmax m x y) F (if st then Hs else H)) d K F H:=rfl
@[go_sem] theorem bcL (n:Nat) (cs:List aN) (st:Bool) (d:Option Nat) (K:PF→PH→Prop):dOp C Hs S st (.mkfn n cs) d K F H=bN (aM (.mkfn n cs) F (if st then Hs else H)) d K F H:=rfl
@[go_sem] theorem a7Q (sh:MSh) (z:PV) (x k:aN) (ok:Bool) (st:Bool) (d:Option Nat) (K:PF→PH→Prop):dOp C Hs S st (.lookup sh z x k ok) d K F H=bN (aM (.lookup sh z x k ok) F (if st then Hs else H)) d K F H:=rfl
@[go_sem] theorem a4B (x:aN) (st:Bool) (d:Option Nat) (K:PF→PH→Prop):dOp C Hs S st (.bytes2str x) d K F H=bN (aM (.bytes2str x) F (if st then Hs else H)) d K F H:=rfl
@[go_sem] theorem bcF (x:aN) (st:Bool) (d:Option Nat) (K:PF→PH→Prop):dOp C Hs S st (.box true x) d K F H=bN (aM (.box true x) F (if st then Hs else H)) d K F H:=rfl
@[go_sem] theorem a5Z (s l:Nat) (z:List PV) (ps:List (Nat × aN)) (st:Bool) (d:Option Nat) (K:PF→PH→Prop):dOp C Hs S st (.bslice true s l z ps) d K F H=bN (aM (.bslice true s l z ps) F (if st then Hs else H)) d K F H:=rfl
@[go_sem] theorem a8N (cs:List PV) (st:Bool) (d:Option Nat) (K:PF→PH→Prop):dOp C Hs S st (.alloc cs) d K F H=kG (cJ (.alloc cs) F) d K F H:=rfl
@[go_sem] theorem a6B (s b:Nat) (z:List PV) (l c:aN) (st:Bool) (d:Option Nat) (K:PF→PH→Prop):dOp C Hs S st (.mkslice s b z l c) d K F H=kG (cJ (.mkslice s b z l c) F) d K F H:=rfl
@[go_sem] theorem a8Q (sh:MSh) (st:Bool) (d:Option Nat) (K:PF→PH→Prop):dOp C Hs S st (.mkmap sh) d K F H=kG (cJ (.mkmap sh) F) d K F H:=rfl
@[go_sem] theorem bfT (x:aN) (st:Bool) (d:Option Nat) (K:PF→PH→Prop):dOp C Hs S st (.box false x) d K F H=kG (cJ (.box false x) F) d K F H:=rfl
@[go_sem] theorem a7L (s l:Nat) (z:List PV) (ps:List (Nat × aN)) (st:Bool) (d:Option Nat) (K:PF→PH→Prop):dOp C Hs S st (.bslice false s l z ps) d K F H=kG (cJ (.bslice false s l z ps) F) d K F H:=rfl
@[go_sem] theorem a8S (n:Nat) (p x:aN) (st:Bool) (d:Option Nat) (K:PF→PH→Prop):dOp C Hs S st (.store n p x) d K F H=bQ (.store n p x) F H (fun r H'=>Hs.le H'∧K (F.put d r) H'):=rfl
@[go_sem] theorem a7K (s b:Nat) (x y:aN) (st:Bool) (d:Option Nat) (K:PF→PH→Prop):dOp C Hs S st (.append s b x y) d K F H=bQ (.append s b x y) F H (fun r H'=>Hs.le H'∧K (F.put d r) H'):=rfl
@[go_sem] theorem a7R (sh:MSh) (x k v:aN) (st:Bool) (d:Option Nat) (K:PF→PH→Prop):dOp C Hs S st (.mapset sh x k v) d K F H=bQ (.mapset sh x k v) F H (fun r H'=>Hs.le H'∧K (F.put d r) H'):=rfl
theorem EN:H.only []=PH.nil:=PH.ext fun o=>by simp[PH.only,PH.nil]
theorem cO {name:Nat} {vs:List PV} {v:PV} {args:List aN} {st:Bool} {d:Option Nat} {K:PF→PH→Prop} (hS:S name vs=some ([],fun _=>aL v)) (h:aJ C name vs .nil (aL v)) (ha:aN.evs F args=some vs)
  (hle:Hs.le H) (hk:K (F.put d v) H):dOp C Hs S st (.call name args) d K F H:=by
 refine⟨vs,[],fun _=>aL v,ha,hS,fun o ho=>by simp at ho,by rw[EN]; exact h,fun G=>⟨v,.nil,⟨rfl,rfl⟩,fun o x hx=>by simp[PH.nil] at hx⟩,?_⟩
 rintro r H' ⟨rfl,rfl⟩ -
 rw[EN,PH.vS]
 exact⟨hle,hk⟩
end
end Go.PM
namespace Go.PM
open Go
theorem wrap_i64 {n:Int} (h1:-9223372036854775808≤n) (h2:n≤9223372036854775807):IntKind.i64.wrap n=n:=by
 have e:IntKind.i64.wrap n=if decide (n%18446744073709551616≥9223372036854775808)=true then n%18446744073709551616-18446744073709551616 else n%18446744073709551616:=by
  simp[IntKind.wrap,IntKind.bits,IntKind.signed]
 rw[e]
 split
 ·rename_i h; simp only[decide_eq_true_eq] at h; omega
 ·rename_i h; simp only[decide_eq_true_eq] at h; omega
theorem UG {k:Nat} (h:k≤9223372036854775807):IntKind.i64.wrap (k:Int)=k:=wrap_i64 (by omega) (by omega)
theorem aK {k:Nat} (h:k<9223372036854775807):IntKind.i64.wrap ((k:Int)+1)=((k+1:Nat):Int):=by
 rw[wrap_i64 (by omega) (by omega)]; omega
theorem wrap_u64 {n:Int} (h1:0≤n) (h2:n<18446744073709551616):IntKind.u64.wrap n=n:=by
 have e:IntKind.u64.wrap n=n%18446744073709551616:=by
  simp[IntKind.wrap,IntKind.bits,IntKind.signed]
 rw[e]; omega
abbrev ints (xs:List Int):PV:=.sl 1 (xs.map fun n=>[.int .i64 n])
end Go.PM
namespace Go.PM
open Go Go.RowKit
inductive CT where
 | int (k:IntKind)
 | bool
 | str
 | sl (es:List CT)
 deriving Inhabited
def nT (P:Program) (rec:TypeId→Option (List CT)):Nat→List Field→Option (List CT)
 | _,[]=>some []
 | k,f::fs=>match rec f.type with
  | some cts=>if f.offset=k∧P.cellsOf f.type=cts.length then (nT P rec (k+cts.length) fs).map (cts++·) else none
  | none=>none
def fY (P:Program):Nat→TypeId→Option (List CT)
 | 0,_=>none
 | n+1,t=>match P.underlying t with
  | some .bool=>some [.bool]
  | some (.int k)=>some [.int k]
  | some .string=>some [.str]
  | some (.slice e)=>match fY P n e with
   | some cts=>if P.cellsOf e=cts.length∧0<cts.length then some [.sl cts] else none
   | none=>none
  | some (.struct fs)=>match nT P (fY P n) 0 fs.toList with
   | some cts=>if P.cellsOf t=cts.length then some cts else none
   | none=>none
  | _=>none
inductive PV.Ty:CT→PV→Prop
 | int {k:IntKind} {n:Int} (h:(Lit.int k n).wf=true):PV.Ty (.int k) (.int k n)
 | bool (b:Bool):PV.Ty .bool (.bool b)
 | str {s:List UInt8} (h:s.length≤maxLen):PV.Ty .str (.str s)
 | sl {es:List CT} {rows:List (List PV)} (hr:∀ r∈rows,r.length=es.length) (hl:rows.length≤maxLen) (h:∀ (i j:Nat) pv ct,at2 rows i j=some pv→es[j]?=some ct→PV.Ty ct pv):PV.Ty (.sl es) (.sl es.length rows)
def Env.of (W:World) (num:Nat→FuncId):Env:=⟨fun b=>match W.heap[b]? with | some (.cells cs _ _)=>some cs | _=>none,fun _=>none,num⟩
theorem bL.start (W:World) (num:Nat→FuncId):bL (Env.of W num) PH.nil W:=by
 refine⟨fun b cs hb=>⟨fun x hx=>(by cases hx),?_⟩,fun o x hx=>(by cases hx),fun o n h=>(by cases h)⟩
 simp only[Env.of] at hb
 split at hb
 ·rename_i c ty fr h
  cases hb
  exact⟨ty,fr,h⟩
 ·cases hb
structure Reads (E:Env) (cts:List CT) (pvs:List PV) (cs:List Value):Prop where
 lp:pvs.length=cts.length
 lc:cs.length=cts.length
 rep:∀ (j:Nat) pv c,pvs[j]?=some pv→cs[j]?=some c→aT E pv c∧c.oneCell'=true
 ty:∀ (j:Nat) pv ct,pvs[j]?=some pv→cts[j]?=some ct→PV.Ty ct pv
theorem Reads.one {E:Env} {ct:CT} {pv:PV} {c:Value} (h:aT E pv c) (h1:c.oneCell'=true) (ht:PV.Ty ct pv):Reads E [ct] [pv] [c]:=by
 refine⟨rfl,rfl,fun j p u a b=>?_,fun j p u a b=>?_⟩
 ·cases j with
  | zero=>simp at a b; subst a; subst b; exact⟨h,h1⟩
  | succ j=>simp at a
 ·cases j with
  | zero=>simp at a b; subst a; subst b; exact ht
  | succ j=>simp at a
theorem Reads.append {E:Env} {ct1 ct2:List CT} {p1 p2:List PV} {c1 c2:List Value} (h:Reads E ct1 p1 c1) (k:Reads E ct2 p2 c2):Reads E (ct1++ct2) (p1++p2) (c1++c2):=by
 refine⟨by simp[h.lp,k.lp],by simp[h.lc,k.lc],fun j p u a b=>?_,fun j p u a b=>?_⟩
 ·rcases bhK j p1.length with hj | hj
  ·rw[bjQ hj] at a
   rw[bjQ (by rw[h.lc,← h.lp]; exact hj)] at b
   exact h.rep j p u a b
  ·rw[bjU hj] at a
   rw[bjU (by rw[h.lc,← h.lp]; exact hj)] at b
   rw[show j-c1.length=j-p1.length by rw[h.lc,h.lp]] at b
   exact k.rep _ p u a b
 ·rcases bhK j p1.length with hj | hj
  ·rw[bjQ hj] at a
   rw[bjQ (by rw[← h.lp]; exact hj)] at b
   exact h.ty j p u a b
  ·rw[bjU hj] at a
   rw[bjU (by rw[← h.lp]; exact hj)] at b
   rw[show j-ct1.length=j-p1.length by rw[h.lp]] at b
   exact k.ty _ p u a b
theorem UT {W:World} {num:Nat→FuncId} {a:Addr} {v:Value} (h:W.cell? a=some v):a.spot=none∧(Env.of W num).cell a.block a.off=some v:=by
 unfold World.cell? at h
 split at h
 ·rename_i c ty fr hb
  split at h
  ·cases h
  ·rename_i hs
   refine⟨by simpa using hs,?_⟩
   simp only[Env.cell,Env.of,hb]
   exact h
 ·cases h
theorem HO {P:Program} {E:Env} {rec:TypeId→Option (List CT)} {H:Type} {f:TypeId→List Value→Option (DataW H × List MemPlace)}
  (ih:∀ t cs x cts,f t cs=some x→rec t=some cts→∃ pvs,Reads E cts pvs cs) (cs:List Value) :
  ∀ (fs:List Field) (k:Nat) (cts:List CT),(∀ g∈fs,∃ x,f g.type ((cs.drop g.offset).take (P.cellsOf g.type))=some x)→nT P rec k fs=some cts →
   ∃ pvs,Reads E cts pvs ((cs.drop k).take cts.length)
 | [],k,cts,_,h=>by
  simp[nT] at h; subst h
  exact⟨[],rfl,by simp,fun j p c a=>by simp at a,fun j p c a=>by simp at a⟩
 | g::fs,k,cts,hm,h=>by
  simp only[nT] at h
  split at h
  ·rename_i c1 h1
   split at h
   ·rename_i hc
    simp only[bgZ] at h
    obtain⟨c2,h2,rfl⟩:=h
    obtain⟨x,hx⟩:=hm g (by simp)
    obtain⟨p1,r1⟩:=ih _ _ _ _ hx h1
    rw[hc.1,hc.2] at r1
    obtain⟨p2,r2⟩:=HO ih cs fs (k+c1.length) c2 (fun g' hg'=>hm g' (by simp[hg'])) h2
    refine⟨p1++p2,?_⟩
    have:=r1.append r2
    rw[bgW,List.take_add,List.drop_drop]
    exact this
   ·cases h
  ·cases h
theorem ZT {H:Type} {enc:TypeId × Value→H} {P:Program} {W:World} {base:Nat} {sp:Nat→Bool} {held:Bool} (num:Nat→FuncId) :
  ∀ (fuel m:Nat) (t:TypeId) (cs:List Value) (x:DataW H × List MemPlace) (cts:List CT),DataW.trod enc P W base sp held fuel t cs=some x→fY P m t=some cts→∃ pvs,Reads (Env.of W num) cts pvs cs:=by
 intro fuel
 induction fuel with
 | zero=>intro m t cs x cts h; simp[DataW.trod] at h
 | succ fuel ih =>
  intro m t cs x cts h hc
  cases m with
  | zero=>simp[fY] at hc
  | succ m =>
   simp only[fY] at hc
   split at hc
   ·rename_i hu
    cases hc
    obtain⟨b,rfl,-⟩:=DataW.trod_bool hu h
    exact⟨[.bool b],.one (.bool b) rfl (.bool b)⟩
   ·rename_i k hu
    cases hc
    obtain⟨n,rfl,-,hw⟩:=DataW.trod_int hu h
    exact⟨[.int k n],.one (.int k n) rfl (.int hw)⟩
   ·rename_i hu
    cases hc
    obtain⟨s,rfl,-,hs⟩:=DataW.trod_string hu h
    exact⟨[.str s.data.toList],.one (.str s) rfl (.str (by rw[bjN]; exact hs))⟩
   ·rename_i e hu
    split at hc
    ·rename_i ces he
     split at hc
     ·rename_i hcond
      cases hc
      rcases DataW.trod_slice hu h with ⟨rfl,-⟩ | ⟨a,len,cap,elems,rest,n,hn,rfl,-,-,hlen,hcap,hel,helem,-⟩
      ·refine⟨[.sl ces.length []],.one ?_ rfl (.sl (by simp) (by simp) (by simp[at2]))⟩
       exact .sl (fun _ _=>.bool false) (by simp) (by decide) (by simp) (by simp) (fun _ _=>rfl) (by simp[at2])
      ·cases hn
       have each:∀ i,i<len→∃ pvs us,Reads (Env.of W num) ces pvs us∧W.cells? base (a.add (i*ces.length)) ces.length=some us:=by
        intro i hi
        have h1:=helem i hi
        rw[bhH (by omega),bjX] at h1
        obtain⟨us,h2,h3⟩:=h1
        obtain⟨pvs,r⟩:=ih m e us _ ces h3 he
        rw[hcond.1] at h2
        exact⟨pvs,us,r,h2⟩
       have each':∀ i,∃ pvs,∃ us,i<len→Reads (Env.of W num) ces pvs us∧W.cells? base (a.add (i*ces.length)) ces.length=some us:=by
        intro i
        by_cases hi:i<len
        ·obtain⟨pvs,us,h1⟩:=each i hi
         exact⟨pvs,us,fun _=>h1⟩
        ·exact⟨[],[],fun h=>(hi h).elim⟩
       obtain⟨pf,hpf⟩:=Classical.axiomOfChoice each'
       obtain⟨uf,huf⟩:=Classical.axiomOfChoice hpf
       have hat:∀ i j pv,at2 ((bhB len).map pf) i j=some pv→i<len∧(pf i)[j]?=some pv:=by
        intro i j pv hp
        unfold at2 at hp
        rw[biH,bjX] at hp
        obtain⟨r,hr,hp⟩:=hp
        rw[bgZ] at hr
        obtain⟨i',hi',rfl⟩:=hr
        have hi:i<len:=by simpa using (biG.1 hi').1
        have:i'=i:=by simp[hi] at hi'; exact hi'.symm
        subst this
        exact⟨hi,hp⟩
       have hu:∀ i j pv,at2 ((bhB len).map pf) i j=some pv→∃ v,(uf i)[j]?=some v∧j<ces.length∧aT (Env.of W num) pv v∧v.oneCell'=true:=by
        intro i j pv hp
        obtain⟨hi,hp'⟩:=hat i j pv hp
        obtain⟨r,-⟩:=huf i hi
        have hj:j<ces.length:=by rw[← r.lp]; exact (biG.1 hp').1
        have hv:(uf i)[j]?=some ((uf i)[j]'(by rw[r.lc]; exact hj)):=bhH _
        exact⟨_,hv,hj,(r.rep j pv _ hp' hv).1,(r.rep j pv _ hp' hv).2⟩
       have hul:((bhB len).map pf).length=len:=by simp
       refine⟨[.sl ces.length ((bhB len).map pf)],.one ?_ rfl (.sl (fun r hr=>?_) (by rw[hul]; omega) fun i j pv ct hp hct=>?_)⟩
       ·have key:=aT.sl (E:=Env.of W num) (size:=ces.length) (rows:=(bhB len).map pf) (a:=some a) (cap:=cap)
         (fun i j=>match at2 ((bhB len).map pf) i j with | some _=>((uf i)[j]?).getD (.bool false) | none=>.bool false) (by rw[hul]; exact hlen) hcap
         (fun r hr=>by
          simp only[biA,biM] at hr
          obtain⟨i,hi,rfl⟩:=hr
          exact (huf i hi).1.lp)
         (fun hne=>by
          have hl0:0<len:=by
           rcases bjA len with h | h
           ·subst h; exact (hne rfl).elim
           ·exact h
          have hsp:a.spot=none:=by
           obtain⟨r,hc⟩:=huf 0 hl0
           have h3:=(World.cells?_some hc).2.2 0 hcond.2
           rw[Nat.zero_mul,Addr.add_zero',Addr.add_zero',bhH (by rw[r.lc]; exact hcond.2)] at h3
           exact (UT (num:=num) h3).1
          refine⟨a,rfl,hsp,fun i j pv hp=>?_⟩
          obtain⟨hi,-⟩:=hat i j pv hp
          obtain⟨v,hv,hj,-⟩:=hu i j pv hp
          have h3:=(World.cells?_some (huf i hi).2).2.2 j hj
          rw[lC hsp,add_plain,add_plain,hv] at h3
          have h4:=(UT (num:=num) h3).2
          simp only[hp,hv,bjP]
          exact h4)
         (fun i j=>by
          split
          ·rename_i pv hp
           obtain⟨v,hv,-,-,h1⟩:=hu i j pv hp
           simp[hv,h1]
          ·rfl)
         (fun i j pv hp=>by
          obtain⟨v,hv,-,h1,-⟩:=hu i j pv hp
          simp only[hp,hv,bjP]
          exact h1)
        rw[hul] at key
        exact key
       ·simp only[biA,biM] at hr
        obtain⟨i,hi,rfl⟩:=hr
        exact (huf i hi).1.lp
       ·obtain⟨hi,hp'⟩:=hat i j pv hp
        exact (huf i hi).1.ty j pv ct hp' hct
     ·cases hc
    ·cases hc
   ·rename_i fs hu
    split at hc
    ·rename_i cts' hcf
     split at hc
     ·rename_i hlen
      cases hc
      obtain⟨xs,n,hn,-,hcl,hxl,hx⟩:=DataW.trod_struct hu h
      cases hn
      have:=HO (f:=DataW.trod enc P W base sp held fuel) (fun t cs x cts a b=>ih m t cs x cts a b) cs fs.toList 0 cts (fun g hg=>by
       obtain⟨i,hi,rfl⟩:=biL hg
       have:=hx i fs.toList[i] (by simp at hi; simp[hi])
       rw[this]
       exact⟨_,bhH (by simp at hi; omega)⟩) hcf
      rw[bhV,bhI (by omega)] at this
      exact this
     ·cases hc
    ·cases hc
   ·cases hc
end Go.PM
namespace Go.PM
open Go Go.RowKit Go.ChangeShapes Go.WideShapes
theorem Ext.below {E E':Env} {H':PH} {w w':World} (h:Ext E PH.nil w E' H' w'):Below w.heap.size w w' :=
 ⟨h.os,h.tape,h.output,h.size,fun k hk=>h.block k hk rfl⟩
theorem Below.trodAll {H:Type} {enc:TypeId × Value→H} {P:Program} (hl:laidOutB P=true) {W W':World} (hb:Below W.heap.size W W') :
  ∀ {ts:List TypeId} {vs:List Value} {ds:List (DataW H)} {ps:List MemPlace},(∀ t∈ts,P.readableRec t=true∧t<P.types.size)→DataW.TrodAll enc P W 0 (fun _=>true) true ts vs ds ps →
   DataW.TrodAll enc P W' 0 (fun b=>decide (b<W.heap.size)) true ts vs ds ps
 | [],[],[],ps,_,h=>h
 | [],_::_,_,_,_,h=>h.elim
 | [],[],_::_,_,_,h=>h.elim
 | _::_,[],_,_,_,h=>h.elim
 | _::_,_::_,[],_,_,h=>h.elim
 | t::ts,v::vs,d::ds,ps,ht,h=>by
  obtain⟨p,q,h1,h2,rfl⟩:=h
  have hlt:∀ x∈p,x.block<W.heap.size:=fun x hx=>DataW.TrodAll.lt (ts:=[t]) (vs:=[v]) (ds:=[d]) ⟨p,[],h1,rfl,(biN p).symm⟩ x hx
  exact⟨p,q,Below.trod hl (ht t (by simp)).1 (ht t (by simp)).2 h1 hb hlt,Below.trodAll hl hb (fun u hu=>ht u (by simp[hu])) h2,rfl⟩
theorem aQS {H:Type} {enc:TypeId × Value→H} {P:Program} {f:Func} {s:ChangeSpec} {handsOn apart fresh:Bool} {W W':World} {args:Array Value} {ds gs:List (DataW H)} {before:List MemPlace} {bt:TypeId}
  (hl:laidOutB P=true) (hW:DataW.Whole enc P f.params.toList s.vars apart W args.toList ds gs before) (hb:Below W.heap.size W W') (hts:∀ t∈f.params.toList,P.readableRec t=true∧t<P.types.size)
  (hrt:f.resultTypes=#[bt]) (hbt:P.underlying bt=some .bool) (hv:s.vars=[]) (hr:(s.fn H (ds++gs)).results=[.lit (.bool true)]) (ha:(s.fn H (ds++gs)).args=ds) (hvs:(s.fn H (ds++gs)).vars=[]) :
  s.post enc P f apart fresh handsOn false W args (.bool true) W':=by
 obtain⟨p,q,hA,hV,rfl,hz,hn⟩:=hW
 rw[hv] at hV
 obtain⟨rfl,rfl⟩:=trodVars_none hV
 refine⟨ds,[],p++[],[],p,[],⟨p,[],hA,by rw[hv]; exact hV,rfl,hz,hn⟩,?_,?_,?_,hb.frame _,fun h=>by cases h⟩
 ·rw[hr,hrt]
  refine⟨[],[],⟨1,?_⟩,rfl,rfl⟩
  simp[DataW.trod,hbt,Value.cells,Value.resultList]
 ·rw[ha]
  exact Below.trodAll hl hb hts hA
 ·rw[hv,hvs]
  exact rfl
theorem aOJ {C:Ctx} {name:Nat} {W:World} {args:Array Value} {pvs:List PV} (h:aJ C name pvs PH.nil (aL (.bool true))) (hr:eI (Env.of W C.num) pvs args.toList) :
  Calls C.P (C.num name) args W fun e W'=>e=.returned (.bool true)∧Below W.heap.size W W' :=
 (h.2 (Env.of W C.num) W args rfl (bL.start W C.num) hr).mono fun e W' he=>by
  obtain⟨v,pv,E',H',rfl,-,hrep,hE,rfl,-⟩:=he
  cases hrep
  exact⟨rfl,hE.below⟩
theorem aIJ {H:Type} {enc:TypeId × Value→H} {P:Program} {W:World} {r:Reach} {base:Nat} {sp:Nat→Bool} {held:Bool} (num:Nat→FuncId) {t:TypeId} {v:Value} {d:DataW H} {ps:List MemPlace} {fs:Array Field} {n:Nat} {cts:List CT}
  (hu:P.underlying t=some (.struct fs)) (hval:Value.okWide P W r base t v) (hd:DataW.Trod enc P W 0 sp held t v d ps) (hc:fY P n t=some cts) :
  ∃ pvs,aT (Env.of W num) (.agg pvs) v∧pvs.length=cts.length∧∀ (j:Nat) pv ct,pvs[j]?=some pv→cts[j]?=some ct→PV.Ty ct pv:=by
 obtain⟨cs,rfl,-⟩:=okWide_struct hu hval
 obtain⟨fuel,h⟩:=hd
 obtain⟨pvs,hr⟩:=ZT num fuel n t _ _ cts h hc
 have hl:cs.size=pvs.length:=by have:=hr.lc; rw[hr.lp,← this]; simp[Value.cells]
 refine⟨pvs,.agg cs hl (fun u hu=>?_) (fun j pv u a b=>(hr.rep j pv u a (by simpa [Value.cells] using b)).1),hr.lp,hr.ty⟩
 obtain⟨j,hj,rfl⟩:=biL hu
 simp only[bjN] at hj
 exact (hr.rep j _ _ (bhH (by omega)) (by simp[Value.cells,hj])).2
theorem qZ {H:Type} {enc:TypeId × Value→H} {P:Program} {W:World} {sp:Nat→Bool} {held:Bool} (num:Nat→FuncId) {t:TypeId} {v:Value} {d:DataW H} {ps:List MemPlace} {n:Nat} {ct:CT}
  (hv:v.cells=#[v]) (hd:DataW.Trod enc P W 0 sp held t v d ps) (hc:fY P n t=some [ct]):∃ pv,aT (Env.of W num) pv v∧PV.Ty ct pv:=by
 obtain⟨fuel,h⟩:=hd
 obtain⟨pvs,hr⟩:=ZT num fuel n t _ _ [ct] h hc
 rw[hv] at hr
 have hl:=hr.lp
 cases pvs with
 | nil=>simp at hl
 | cons pv rest=>exact⟨pv,(hr.rep 0 pv v rfl rfl).1,hr.ty 0 pv ct rfl rfl⟩
end Go.PM
namespace Go.PM
open Go
def InK (k:IntKind) (n:Int):Prop:=k.min≤n∧n≤k.max
def aJW (k:IntKind) (xs:List Int):PV:=.sl 1 (xs.map fun n=>[.int k n])
theorem Ty.aDZ {k:IntKind} {pv:PV} (h:PV.Ty (.int k) pv):∃ n,pv=.int k n∧InK k n:=by
 cases h with
 | int h=>simp only[Lit.wf,bhO,decide_eq_true_eq] at h; exact⟨_,rfl,h⟩
theorem Ty.a2K {ct:CT} {pv:PV} (h:PV.Ty (.sl [ct]) pv):∃ vs:List PV,pv=.sl 1 (vs.map fun v=>[v])∧vs.length≤maxLen∧∀ v∈vs,PV.Ty ct v:=by
 cases h with
 | @sl es rows hr hl h =>
 have key:∀ r∈rows,r=[r.headD .junk]:=fun r hm=>by
  have:=hr r hm
  match r,this with
  | [x],_=>rfl
 have e:rows=(rows.map fun r=>r.headD .junk).map fun v=>[v]:=by
  rw[List.map_map]
  apply bjH (by simp)
  intro n h1 h2
  simp only[biI,Function.comp]
  exact key _ (bgY h1)
 refine⟨rows.map fun r=>r.headD .junk,by rw[← e]; rfl,by simpa using hl,fun v hv=>?_⟩
 rw[biA] at hv
 obtain⟨r,hm,rfl⟩:=hv
 obtain⟨i,hi,rfl⟩:=biL hm
 refine h i 0 _ ct ?_ rfl
 have:=key rows[i] hm
 unfold at2
 rw[bhH hi,bkB,this]
 rfl
theorem Ty.aVC {k:IntKind} {pv:PV} (h:PV.Ty (.sl [.int k]) pv):∃ xs:List Int,pv=aJW k xs∧xs.length≤maxLen∧∀ x∈xs,InK k x:=by
 obtain⟨vs,rfl,hl,hv⟩:=Ty.a2K h
 have e:vs=(vs.map fun v=>match v with | .int _ n=>n | _=>0).map fun n=>PV.int k n:=by
  rw[List.map_map]
  apply bjH (by simp)
  intro n h1 h2
  simp only[biI,Function.comp]
  obtain⟨m,hm,-⟩:=Ty.aDZ (hv _ (bgY h1))
  rw[hm]
 refine⟨vs.map fun v=>match v with | .int _ n=>n | _=>0,?_,by simpa using hl,fun x hx=>?_⟩
 ·unfold aJW
  conv=>lhs; rw[e]
  rw[List.map_map]
  rfl
 ·rw[biA] at hx
  obtain⟨v,hm,rfl⟩:=hx
  obtain⟨m,rfl,hk⟩:=Ty.aDZ (hv v hm)
  exact hk
end Go.PM
namespace Go.PM
abbrev Rg:=List bE
abbrev Rd:=List (bE×Bool)
def iM (d s:Nat):bE:=⟨some d,.mv (.tmp s),none⟩
def iI (d:Nat) (n:Int):bE:=⟨some d,.mv (.const (.int .i64 n)),none⟩
def iB (d:Nat) (o:BinOp) (x y:Nat):bE:=⟨some d,.bin o (.tmp x) (.tmp y),none⟩
def iC (d:Nat) (o:BinOp) (x:Nat) (n:Int):bE:=⟨some d,.bin o (.tmp x) (.const (.int .i64 n)),none⟩
def iL (d s:Nat):bE:=⟨some d,.load none (.tmp s),none⟩
def iX (d n x y:Nat):bE:=⟨some d,.idxS n (.tmp x) (.tmp y),none⟩
def iN (d x:Nat):bE:=⟨some d,.len (.tmp x),none⟩
def iF (d n x:Nat):bE:=⟨some d,.fieldA n (.tmp x),none⟩
def iS (n p x:Nat):bE:=⟨none,.store n (.tmp p) (.tmp x),none⟩
def iA (d:Nat) (o:POp):bE:=⟨some d,o,none⟩
def iG (d:Nat) (o:POp) (g:Nat) (b:Bool):bE:=⟨some d,o,some (g,b)⟩
def Tm (n:Nat):aN:=.tmp n
def Ci (n:Int):aN:=.const (.int .i64 n)
@[go_sem] theorem bgP (d s:Nat):iM d s=⟨some d,.mv (.tmp s),none⟩:=rfl
@[go_sem] theorem bgN (d:Nat) (n:Int):iI d n=⟨some d,.mv (.const (.int .i64 n)),none⟩:=rfl
@[go_sem] theorem bgJ (d:Nat) (o:BinOp) (x y:Nat):iB d o x y=⟨some d,.bin o (.tmp x) (.tmp y),none⟩:=rfl
@[go_sem] theorem bgK (d:Nat) (o:BinOp) (x:Nat) (n:Int):iC d o x n=⟨some d,.bin o (.tmp x) (.const (.int .i64 n)),none⟩:=rfl
@[go_sem] theorem bgO (d s:Nat):iL d s=⟨some d,.load none (.tmp s),none⟩:=rfl
@[go_sem] theorem bgS (d n x y:Nat):iX d n x y=⟨some d,.idxS n (.tmp x) (.tmp y),none⟩:=rfl
@[go_sem] theorem bgQ (d x:Nat):iN d x=⟨some d,.len (.tmp x),none⟩:=rfl
@[go_sem] theorem bgL (d n x:Nat):iF d n x=⟨some d,.fieldA n (.tmp x),none⟩:=rfl
@[go_sem] theorem bgR (n p x:Nat):iS n p x=⟨none,.store n (.tmp p) (.tmp x),none⟩:=rfl
@[go_sem] theorem bgI (d:Nat) (o:POp):iA d o=⟨some d,o,none⟩:=rfl
@[go_sem] theorem bgM (d:Nat) (o:POp) (g:Nat) (b:Bool):iG d o g b=⟨some d,o,some (g,b)⟩:=rfl
@[go_sem] theorem bgH (n:Nat):Tm n=.tmp n:=rfl
@[go_sem] theorem bgG (n:Int):Ci n=.const (.int .i64 n):=rfl
end Go.PM
namespace Go.PM
open Go
def aeX:Rg:=[iA 0 (.alloc [(.int .i64 0),.nils,.nils,.nils,.nils,.nils,.nils])]
def aeY:Rg:=[iA 2 (.call 27 [(.const .nils),(Ci 1),(Ci 0)]),iA 1 (.alloc [(.int .i64 0),.nils,.nils,.nils,.nils,.nils,.nils]),iS 7 1 2]
def aeZ:Rg:=[iA 3 (.build [(.str []),(.int .i64 0)] [(0,1,(.const (.str [118,48])))]),iA 4 (.bslice true 2 1 [(.str []),(.int .i64 0)] [(0,(Tm 3))]),iF 5 6 1,iS 1 5 4]
def afA:Rg:=[iA 6 (.load (some 7) (Tm 1)),iS 7 0 6]
def yP:aD:=(.seq (.region aeX) (.seq (.region aeY) (.seq (.region aeZ) (.seq (.region afA) .ret))))
def aPF:List Nat:=[4]
def IM:bG:=⟨0,7,yP,[.cell 0 (some 7)]⟩
def aeN:Rg:=[iA 0 (.mv (.const (.bool false)))]
def aeO:Rg:=[iA 3 (.call 23 []),iA 1 (.alloc [(.int .i64 0),.nils,.nils,.nils,.nils,.nils,.nils]),iS 7 1 3]
def aeP:Rg:=[iA 4 (.load (some 7) (Tm 1)),iA 5 (.bslice true 1 1 [(.int .i64 0)] [(0,(Ci (-1)))]),iA 6 (.bslice true 1 1 [.nils] [(0,(Tm 5))]),iA 7 (.call 154 [(Tm 4),(Tm 6),(.const .nils)]),iM 2 7]
def aeQ:Rg:=[iA 8 (.load (some 7) (Tm 1)),iA 9 (.call 147 [(Tm 8),(Ci 0),(Ci 4)]),iC 10 .eql 9 4,iM 11 10,iG 12 (.load (some 7) (Tm 1)) 11 true,iG 13 (.call 149 [(Tm 12),(Ci 0)]) 11 true,iG 14 (.len (Tm 13)) 11 true,iG 15 (.bin .eql (Tm 14) (Ci 1)) 11 true,iA 16 (.pick (Tm 11) (Tm 15) (.const (.bool false))),iM 17 16,iG 18 (.mv (Tm 2)) 17 true,iG 19 (.len (Tm 18)) 17 true,iG 20 (.bin .eql (Tm 19) (Ci 1)) 17 true,iA 21 (.pick (Tm 17) (Tm 20) (.const (.bool false))),iM 22 21,iG 23 (.mv (Tm 2)) 22 true,iG 24 (.idxS 3 (Tm 23) (Ci 0)) 22 true,iG 25 (.load (some 3) (Tm 24)) 22 true,iG 26 (.build [(.int .i64 0),(.int .i64 0),(.int .i64 0)] [(0,1,(Ci 2))]) 22 true,iG 27 (.eqs false [.int,.int,.int] (Tm 25) (Tm 26)) 22 true,iA 28 (.pick (Tm 22) (Tm 27) (.const (.bool false))),iM 29 28,iG 30 (.load (some 7) (Tm 1)) 29 true,iG 31 (.bslice true 1 1 [(.int .i64 0)] [(0,(Ci 0))]) 29 true,iG 32 (.bslice true 1 1 [.nils] [(0,(Tm 31))]) 29 true,iG 33 (.call 150 [(Tm 30),(Tm 32),(.const .nils)]) 29 true,iA 34 (.pick (Tm 29) (Tm 33) (.const (.bool false))),iM 35 34,iG 36 (.build [(.int .i64 0),.nils,.nils,.nils,.nils,.nils,.nils] []) 35 true,iG 37 (.call 150 [(Tm 36),(.const .nils),(.const .nils)]) 35 true,iG 38 (.un .not (Tm 37)) 35 true,iA 39 (.pick (Tm 35) (Tm 38) (.const (.bool false))),iM 0 39]
def xX:aD:=(.seq (.region aeN) (.seq (.region aeO) (.seq (.region aeP) (.seq (.region aeQ) .ret))))
def aOL:List Nat:=[5,6,31,32]
def IJ:bG:=⟨0,40,xX,[.tmp 0]⟩
def aeI:Rg:=[iA 2 (.mv (.const .nils))]
def aeJ:Rg:=[iM 4 0,iA 5 (.call 0 [(Tm 4),(Ci 8),(Ci 4)]),iA 3 (.alloc [(.int .i64 0),.nils,.nils,.nils,.nils,.nils,.nils]),iS 7 3 5]
def aeK:Rg:=[iM 6 0,iA 7 (.load (some 7) (Tm 3)),iA 8 (.call 3 [(Tm 6),(Tm 7)])]
def aeL:Rg:=[iM 9 0,iA 10 (.load (some 7) (Tm 3)),iA 11 (.call 6 [(Tm 9),(Tm 10)]),iM 2 11]
def xW:aD:=(.seq (.region aeI) (.seq (.region aeJ) (.seq (.region aeK) (.seq (.region aeL) .ret))))
def aOI:List Nat:=[]
def II:bG:=⟨1,12,xW,[.tmp 2]⟩
def WD:Rg:=[iA 2 (.mv (.const (.bool false)))]
def WE:Rg:=[iM 20 0,iA 21 (.call 28 [(Tm 20)]),iM 3 21]
def WF:Rg:=[iM 22 3,iA 23 (.call 0 [(Tm 22),(Ci 8),(Ci 4)]),iA 4 (.alloc [(.int .i64 0),.nils,.nils,.nils,.nils,.nils,.nils]),iS 7 4 23]
def WG:Rg:=[iM 24 3,iA 25 (.load (some 7) (Tm 4)),iA 26 (.call 3 [(Tm 24),(Tm 25)]),iM 5 26]
def WH:Rd:=[(iA 27 (.load (some 7) (Tm 4)),true),(iM 28 3,false),(iA 29 (.load (some 7) (Tm 4)),false),(iA 30 (.call 6 [(Tm 28),(Tm 29)]),true),(iA 31 (.call 152 [(Tm 27),(Tm 30)]),true),(iM 6 31,false)]
def WI:Rg:=[iM 32 6,iN 33 32,iF 34 4 4,iL 35 34,iN 36 35,iB 37 .neq 33 36]
def aKB:Rg:=[iA 2 (.mv (.const (.bool false)))]
def WJ:Rg:=[iA 7 (.mv (.const (.bool true)))]
def WK:Rg:=[iI 8 0]
def WL:Rg:=[iM 38 8,iM 39 5,iN 40 39,iB 41 .lss 38 40]
def NW:Rd:=[(iF 44 5 4,false),(iL 45 44,false),(iF 46 6 4,false),(iL 47 46,false),(iM 48 8,false),(iX 49 2 47 48,false),(iF 50 1 49,false),(iL 51 50,false),(iX 52 17 45 51,false),(iA 53 (.load (some 17) (Tm 52)),false),(iA 9 (.alloc [(.str []),(.int .i64 0),(.int .i64 0),(.int .i64 0),(.int .i64 0),(.int .i64 0),(.int .i64 0),(.int .i64 0),(.int .i64 0),.nils,.nils,(.bool false),.nils,.nils,(.bool false),.nils,.nils]),true),(iS 17 9 53,true)]
def NX:Rg:=[iI 10 0]
def NY:Rg:=[iM 54 10,iM 55 5,iM 56 8,iX 57 1 55 56,iL 58 57,iN 59 58,iB 60 .lss 54 59]
def NZ:Rg:=[iM 63 5,iM 64 8,iX 65 1 63 64,iL 66 65,iM 67 10,iX 68 1 66 67,iL 69 68,iM 11 69]
def OA:Rg:=[iM 70 11,iC 71 .lss 70 0]
def OB:Rg:=[iA 7 (.mv (.const (.bool false)))]
def OC:Rg:=[iM 72 6,iM 73 11,iX 74 1 72 73,iL 75 74,iC 76 .sub 75 1,iX 77 1 72 73,iS 1 77 76]
def OD:Rg:=[iI 12 0]
def OE:Rg:=[iM 78 12,iM 79 10,iB 80 .lss 78 79]
def yF:Rg:=[iM 83 7,iM 84 83,iG 85 (.mv (Tm 5)) 84 true,iG 86 (.mv (Tm 8)) 84 true,iG 87 (.idxS 1 (Tm 85) (Tm 86)) 84 true,iG 88 (.load none (Tm 87)) 84 true,iG 89 (.mv (Tm 12)) 84 true,iG 90 (.idxS 1 (Tm 88) (Tm 89)) 84 true,iG 91 (.load none (Tm 90)) 84 true,iG 92 (.mv (Tm 11)) 84 true,iG 93 (.bin .neq (Tm 91) (Tm 92)) 84 true,iA 94 (.pick (Tm 84) (Tm 93) (.const (.bool false))),iM 7 94]
def yG:Rg:=[iM 81 12,iC 82 .add 81 1,iM 12 82]
def xZ:aD:=(.seq (.seq (.region OE) (.cond (Tm 80) .skip (.exit 4))) (.seq (.block 5 (.region yF)) (.region yG)))
def OF:Rg:=[iA 13 (.mv (.const (.bool false)))]
def OG:Rg:=[iI 14 0]
def OH:Rg:=[iM 95 14,iF 96 9 9,iL 97 96,iN 98 97,iB 99 .lss 95 98]
def yH:Rd:=[(iM 102 13,false),(iM 103 102,false),(iG 104 (.fieldA 9 (Tm 9)) 103 false,false),(iG 105 (.load none (Tm 104)) 103 false,false),(iG 106 (.mv (Tm 14)) 103 false,false),(iG 107 (.idxS 1 (Tm 105) (Tm 106)) 103 false,false),(iG 108 (.load none (Tm 107)) 103 false,false),(iG 109 (.fieldA 4 (Tm 4)) 103 false,false),(iG 110 (.load none (Tm 109)) 103 false,false),(iG 111 (.mv (Tm 11)) 103 false,false),(iG 112 (.idxS 3 (Tm 110) (Tm 111)) 103 false,false),(iG 113 (.fieldA 1 (Tm 112)) 103 false,false),(iG 114 (.load none (Tm 113)) 103 false,false),(iG 115 (.bin .eql (Tm 108) (Tm 114)) 103 false,false),(iA 116 (.pick (Tm 103) (.const (.bool true)) (Tm 115)),false),(iM 13 116,false)]
def yI:Rg:=[iM 100 14,iC 101 .add 100 1,iM 14 101]
def yA:aD:=(.seq (.seq (.region OH) (.cond (Tm 99) .skip (.exit 6))) (.seq (.block 7 (.draw yH)) (.region yI)))
def yJ:Rg:=[iM 117 7,iM 118 117,iG 119 (.mv (Tm 13)) 118 true,iA 120 (.pick (Tm 118) (Tm 119) (.const (.bool false))),iM 7 120]
def yK:Rg:=[iI 15 1]
def OI:Rg:=[iM 121 15,iC 122 .lss 121 5]
def OJ:Rg:=[iI 16 0]
def OK:Rg:=[iI 17 0]
def OL:Rg:=[iM 125 17,iM 126 5,iM 127 8,iX 128 1 126 127,iL 129 128,iN 130 129,iB 131 .lss 125 130]
def rR:Rd:=[(iM 134 5,false),(iM 135 8,false),(iX 136 1 134 135,false),(iL 137 136,false),(iM 138 17,false),(iX 139 1 137 138,false),(iL 140 139,false),(iC 141 .geq 140 0,false),(iM 142 141,false),(iG 143 (.load (some 7) (Tm 4)) 142 true,false),(iG 144 (.mv (Tm 5)) 142 true,false),(iG 145 (.mv (Tm 8)) 142 true,false),(iG 146 (.idxS 1 (Tm 144) (Tm 145)) 142 true,false),(iG 147 (.load none (Tm 146)) 142 true,false),(iG 148 (.mv (Tm 17)) 142 true,false),(iG 149 (.idxS 1 (Tm 147) (Tm 148)) 142 true,false),(iG 150 (.load none (Tm 149)) 142 true,false),(iG 151 (.mv (Tm 15)) 142 true,false),(iG 152 (.call 147 [(Tm 143),(Tm 150),(Tm 151)]) 142 true,true),(iG 153 (.load (some 7) (Tm 4)) 142 true,true),(iG 154 (.mv (Tm 11)) 142 true,true),(iG 155 (.mv (Tm 15)) 142 true,true),(iG 156 (.call 147 [(Tm 153),(Tm 154),(Tm 155)]) 142 true,true),(iG 157 (.bin .eql (Tm 152) (Tm 156)) 142 true,false),(iA 158 (.pick (Tm 142) (Tm 157) (.const (.bool false))),false)]
def OM:Rg:=[iM 159 16,iC 160 .add 159 1,iM 16 160]
def rS:Rg:=[iM 132 17,iC 133 .add 132 1,iM 17 133]
def yB:aD:=(.seq (.seq (.region OL) (.cond (Tm 131) .skip (.exit 10))) (.seq (.block 11 (.seq (.draw rR) (.cond (Tm 158) (.region OM) .skip))) (.region rS)))
def nY:Rg:=[iM 161 7,iM 162 161,iG 163 (.mv (Tm 15)) 162 true,iG 164 (.fieldA 4 (Tm 9)) 162 true,iG 165 (.idxA 5 1 (Tm 164) (Tm 163)) 162 true,iG 166 (.load none (Tm 165)) 162 true,iG 167 (.bin .eql (Tm 166) (Ci 0)) 162 true,iG 168 (.mv (Tm 167)) 162 true,iG 169 (.mv (Tm 16)) 168 false,iG 170 (.mv (Tm 15)) 168 false,iG 171 (.fieldA 4 (Tm 9)) 168 false,iG 172 (.idxA 5 1 (Tm 171) (Tm 170)) 168 false,iG 173 (.load none (Tm 172)) 168 false,iG 174 (.bin .leq (Tm 169) (Tm 173)) 168 false,iG 175 (.pick (Tm 168) (.const (.bool true)) (Tm 174)) 162 true,iA 176 (.pick (Tm 162) (Tm 175) (.const (.bool false))),iM 7 176]
def ON:Rg:=[iM 123 15,iC 124 .add 123 1,iM 15 124]
def rQ:aD:=(.seq (.seq (.region OI) (.cond (Tm 122) .skip (.exit 8))) (.seq (.block 9 (.seq (.region OJ) (.seq (.seq (.region OK) (.block 10 (.loop yB))) (.region nY)))) (.region ON)))
def rU:Rg:=[iM 61 10,iC 62 .add 61 1,iM 10 62]
def yC:aD:=(.seq (.seq (.region NY) (.cond (Tm 60) .skip (.exit 2))) (.seq (.block 3 (.seq (.region NZ) (.seq (.seq (.region OA) (.cond (Tm 71) (.seq (.region OB) (.exit 3)) .skip)) (.seq (.region OC) (.seq (.seq (.region OD) (.block 4 (.loop xZ))) (.seq (.region OF) (.seq (.seq (.region OG) (.block 6 (.loop yA))) (.seq (.region yJ) (.seq (.region yK) (.block 8 (.loop rQ))))))))))) (.region rU)))
def OO:Rg:=[iM 42 8,iC 43 .add 42 1,iM 8 43]
def yD:aD:=(.seq (.seq (.region WL) (.cond (Tm 41) .skip (.exit 0))) (.seq (.block 1 (.seq (.draw NW) (.seq (.region NX) (.block 2 (.loop yC))))) (.region OO)))
def OP:Rg:=[iI 18 0]
def OQ:Rg:=[iM 177 18,iM 178 6,iN 179 178,iB 180 .lss 177 179]
def yL:Rg:=[iM 183 7,iM 184 183,iG 185 (.mv (Tm 6)) 184 true,iG 186 (.mv (Tm 18)) 184 true,iG 187 (.idxS 1 (Tm 185) (Tm 186)) 184 true,iG 188 (.load none (Tm 187)) 184 true,iG 189 (.bin .geq (Tm 188) (Ci 0)) 184 true,iA 190 (.pick (Tm 184) (Tm 189) (.const (.bool false))),iM 7 190]
def yM:Rg:=[iM 181 18,iC 182 .add 181 1,iM 18 182]
def yE:aD:=(.seq (.seq (.region OQ) (.cond (Tm 180) .skip (.exit 12))) (.seq (.block 13 (.region yL)) (.region yM)))
def OR:Rg:=[iM 191 0,iA 192 (.call 28 [(Tm 191)]),iM 19 192]
def OS:Rd:=[(iA 193 (.load (some 7) (Tm 4)),true),(iM 194 5,true),(iM 195 19,false),(iA 196 (.call 18 [(Tm 195)]),true),(iA 197 (.call 150 [(Tm 193),(Tm 194),(Tm 196)]),true),(iM 198 7,true),(iA 199 (.eqb false (Tm 197) (Tm 198)),false),(iM 200 199,false),(iG 201 (.call 20 []) 200 true,true),(iA 202 (.pick (Tm 200) (Tm 201) (.const (.bool false))),false),(iM 2 202,false)]
def vK:aD:=(.seq (.region WD) (.seq (.region WE) (.seq (.region WF) (.seq (.region WG) (.seq (.draw WH) (.seq (.seq (.region WI) (.cond (Tm 37) (.seq (.region aKB) .ret) .skip)) (.seq (.region WJ) (.seq (.seq (.region WK) (.block 0 (.loop yD))) (.seq (.seq (.region OP) (.block 12 (.loop yE))) (.seq (.region OR) (.seq (.draw OS) .ret)))))))))))
def aKC:List Nat:=[]
def BA:bG:=⟨1,203,vK,[.tmp 2]⟩
def aOT:Rg:=[iA 8 (.mv (.const (.bool false)))]
def aOU:Rg:=[iM 21 0,iA 22 (.call 28 [(Tm 21)]),iM 9 22]
def aOV:Rg:=[iM 23 9,iA 24 (.call 0 [(Tm 23),(Ci 8),(Ci 4)]),iA 10 (.alloc [(.int .i64 0),.nils,.nils,.nils,.nils,.nils,.nils]),iS 7 10 24]
def aOW:Rg:=[iM 25 9,iA 26 (.load (some 7) (Tm 10)),iA 27 (.call 3 [(Tm 25),(Tm 26)]),iM 11 27]
def aOX:Rg:=[iM 28 11,iN 29 28,iC 30 .eql 29 0,iM 31 30,iG 32 (.fieldA 4 (Tm 10)) 31 false,iG 33 (.load none (Tm 32)) 31 false,iG 34 (.len (Tm 33)) 31 false,iG 35 (.bin .eql (Tm 34) (Ci 0)) 31 false,iA 36 (.pick (Tm 31) (.const (.bool true)) (Tm 35))]
def aOY:Rg:=[iA 37 (.call 20 []),iM 8 37]
def aOZ:Rg:=[iM 38 1,iA 39 (.conv .i64 (Tm 38)),iM 40 11,iN 41 40,iB 42 .rem 39 41,iM 12 42]
def aPA:Rd:=[(iM 43 2,false),(iA 44 (.conv .i64 (Tm 43)),false),(iM 45 11,false),(iM 46 12,false),(iX 47 1 45 46,false),(iL 48 47,false),(iN 49 48,false),(iB 50 .rem 44 49,false),(iM 51 3,false),(iA 52 (.conv .i64 (Tm 51)),false),(iF 53 4 10,false),(iL 54 53,false),(iN 55 54,false),(iB 56 .rem 52 55,false),(iM 13 50,false),(iM 14 56,false)]
def aPB:Rg:=[iA 57 (.load (some 7) (Tm 10)),iM 58 11,iA 59 (.call 154 [(Tm 57),(Tm 58),(.const .nils)]),iM 15 59]
def aPC:Rg:=[iA 60 (.bslice false 1 0 [.nils] []),iM 61 11,iA 62 (.append 1 24 (Tm 60) (Tm 61)),iM 16 62]
def aKH:Rg:=[iM 63 16,iM 64 12,iA 65 (.bslice false 1 0 [(.int .i64 0)] []),iM 66 11,iM 67 12,iX 68 1 66 67,iL 69 68,iA 70 (.append 1 8 (Tm 65) (Tm 69)),iX 71 1 63 64,iS 1 71 70]
def aKI:Rg:=[iM 72 16,iM 73 12,iX 74 1 72 73,iL 75 74,iM 76 13,iM 77 14,iX 78 1 75 76,iS 1 78 77]
def aKJ:Rg:=[iA 79 (.load (some 7) (Tm 10)),iM 80 16,iA 81 (.call 154 [(Tm 79),(Tm 80),(.const .nils)]),iM 17 81]
def aKK:Rg:=[iI 18 0]
def aKL:Rg:=[iM 82 18,iM 83 17,iN 84 83,iB 85 .lss 82 84]
def aKM:Rg:=[iA 19 (.mv (.const (.bool false)))]
def aKN:Rg:=[iI 20 0]
def aKO:Rg:=[iM 88 20,iM 89 15,iN 90 89,iB 91 .lss 88 90]
def aKP:Rd:=[(iM 94 19,false),(iM 95 94,false),(iG 96 (.mv (Tm 15)) 95 false,false),(iG 97 (.mv (Tm 20)) 95 false,false),(iG 98 (.idxS 3 (Tm 96) (Tm 97)) 95 false,false),(iG 99 (.load (some 3) (Tm 98)) 95 false,false),(iG 100 (.mv (Tm 17)) 95 false,false),(iG 101 (.mv (Tm 18)) 95 false,false),(iG 102 (.idxS 3 (Tm 100) (Tm 101)) 95 false,false),(iG 103 (.load (some 3) (Tm 102)) 95 false,false),(iG 104 (.eqs false [.int,.int,.int] (Tm 99) (Tm 103)) 95 false,false),(iA 105 (.pick (Tm 95) (.const (.bool true)) (Tm 104)),false),(iM 19 105,false)]
def aKQ:Rg:=[iM 92 20,iC 93 .add 92 1,iM 20 93]
def aKF:aD:=(.seq (.seq (.region aKO) (.cond (Tm 91) .skip (.exit 2))) (.seq (.block 3 (.draw aKP)) (.region aKQ)))
def aKR:Rg:=[iM 106 19,iA 107 (.un .not (Tm 106)),iM 108 107,iG 109 (.mv (Tm 17)) 108 true,iG 110 (.mv (Tm 18)) 108 true,iG 111 (.idxS 3 (Tm 109) (Tm 110)) 108 true,iG 112 (.fieldA 1 (Tm 111)) 108 true,iG 113 (.load none (Tm 112)) 108 true,iG 114 (.mv (Tm 12)) 108 true,iG 115 (.bin .neq (Tm 113) (Tm 114)) 108 true,iA 116 (.pick (Tm 108) (Tm 115) (.const (.bool false))),iM 117 116,iG 118 (.mv (Tm 17)) 117 true,iG 119 (.mv (Tm 18)) 117 true,iG 120 (.idxS 3 (Tm 118) (Tm 119)) 117 true,iG 121 (.fieldA 0 (Tm 120)) 117 true,iG 122 (.load none (Tm 121)) 117 true,iG 123 (.bin .neq (Tm 122) (Ci 6)) 117 true,iG 124 (.mv (Tm 123)) 117 true,iG 125 (.mv (Tm 17)) 124 false,iG 126 (.mv (Tm 18)) 124 false,iG 127 (.idxS 3 (Tm 125) (Tm 126)) 124 false,iG 128 (.fieldA 2 (Tm 127)) 124 false,iG 129 (.load none (Tm 128)) 124 false,iG 130 (.mv (Tm 14)) 124 false,iG 131 (.bin .neq (Tm 129) (Tm 130)) 124 false,iG 132 (.pick (Tm 124) (.const (.bool true)) (Tm 131)) 117 true,iA 133 (.pick (Tm 117) (Tm 132) (.const (.bool false)))]
def aKS:Rg:=[iA 8 (.mv (.const (.bool false)))]
def aKT:Rg:=[iM 86 18,iC 87 .add 86 1,iM 18 87]
def aKG:aD:=(.seq (.seq (.region aKL) (.cond (Tm 85) .skip (.exit 0))) (.seq (.block 1 (.seq (.region aKM) (.seq (.seq (.region aKN) (.block 2 (.loop aKF))) (.seq (.region aKR) (.cond (Tm 133) (.seq (.region aKS) .ret) .skip))))) (.region aKT)))
def aKU:Rg:=[iA 134 (.call 20 []),iM 8 134]
def aAI:aD:=(.seq (.region aOT) (.seq (.region aOU) (.seq (.region aOV) (.seq (.region aOW) (.seq (.seq (.region aOX) (.cond (Tm 36) (.seq (.region aOY) .ret) .skip)) (.seq (.region aOZ) (.seq (.draw aPA) (.seq (.region aPB) (.seq (.region aPC) (.seq (.region aKH) (.seq (.region aKI) (.seq (.region aKJ) (.seq (.seq (.region aKK) (.block 0 (.loop aKG))) (.seq (.region aKU) .ret))))))))))))))
def aPD:List Nat:=[]
def aOS:bG:=⟨4,135,aAI,[.tmp 8]⟩
end Go.PM
namespace Go.PM
open Go
def azF:Rg:=[iA 2 (.mv (.const .nils))]
def azG:Rg:=[iM 4 0,iN 5 4,iM 3 5]
def azH:Rg:=[iM 6 3,iC 7 .gtr 6 0,iM 8 7,iG 9 (.mv (Tm 0)) 8 true,iG 10 (.mv (Tm 3)) 8 true,iG 11 (.bin .sub (Tm 10) (Ci 1)) 8 true,iG 12 (.idxS 1 (Tm 9) (Tm 11)) 8 true,iG 13 (.load none (Tm 12)) 8 true,iG 14 (.bin .eql (Tm 13) (.const (.int .u32 0))) 8 true,iA 15 (.pick (Tm 8) (Tm 14) (.const (.bool false)))]
def azI:Rg:=[iM 16 3,iC 17 .sub 16 1,iM 3 17]
def azE:aD:=(.seq (.seq (.region azH) (.cond (Tm 15) .skip (.exit 0))) (.block 1 (.region azI)))
def UD:Rg:=[iM 18 0,iM 19 3,iA 20 (.slice 1 (Tm 18) none (some (Tm 19)) none),iA 21 (.append 1 4 (.const .nils) (Tm 20)),iM 2 21]
def GA:aD:=(.seq (.region azF) (.seq (.region azG) (.seq (.block 0 (.loop azE)) (.seq (.region UD) .ret))))
def aYE:List Nat:=[]
def aaO:bG:=⟨1,22,GA,[.tmp 2]⟩
def ayW:Rg:=[iA 2 (.mv (.const .nils))]
def ayX:Rg:=[iM 3 0,iA 4 (.conv .u32 (Tm 3)),iM 5 0,iA 6 (.bin .shr (Tm 5) (.const (.int .u64 32))),iA 7 (.conv .u32 (Tm 6)),iA 8 (.bslice true 1 2 [(.int .u32 0)] [(0,(Tm 4)),(1,(Tm 7))]),iA 9 (.call 38 [(Tm 8)]),iM 2 9]
def FP:aD:=(.seq (.region ayW) (.seq (.region ayX) .ret))
def aXT:List Nat:=[8]
def aaF:bG:=⟨1,10,FP,[.tmp 2]⟩
def ajV:Rg:=[iA 2 (.mv (.const (.bool false)))]
def ajW:Rg:=[iM 3 0,iA 4 (.call 38 [(Tm 3)]),iN 5 4,iC 6 .gtr 5 512,iM 2 6]
def AK:aD:=(.seq (.region ajV) (.seq (.region ajW) .ret))
def aSM:List Nat:=[]
def LQ:bG:=⟨1,7,AK,[.tmp 2]⟩
def aGX:Rg:=[iI 4 0]
def aGY:Rg:=[iM 6 0,iA 7 (.call 38 [(Tm 6)]),iM 8 1,iA 9 (.call 38 [(Tm 8)]),iM 0 7,iM 1 9]
def aGZ:Rg:=[iM 10 0,iN 11 10,iM 12 1,iN 13 12,iB 14 .neq 11 13]
def aHA:Rg:=[iM 15 0,iN 16 15,iM 17 1,iN 18 17,iB 19 .lss 16 18]
def aHB:Rg:=[iI 4 (-1)]
def aHC:Rg:=[iI 4 1]
def aHD:Rg:=[iM 20 0,iN 21 20,iC 22 .sub 21 1,iM 5 22]
def aHE:Rg:=[iM 23 5,iC 24 .geq 23 0]
def aHF:Rd:=[(iM 27 0,false),(iM 28 5,false),(iX 29 1 27 28,false),(iL 30 29,false),(iM 31 1,false),(iM 32 5,false),(iX 33 1 31 32,false),(iL 34 33,false),(iB 35 .lss 30 34,false)]
def aHG:Rg:=[iI 4 (-1)]
def ayI:Rd:=[(iM 36 0,false),(iM 37 5,false),(iX 38 1 36 37,false),(iL 39 38,false),(iM 40 1,false),(iM 41 5,false),(iX 42 1 40 41,false),(iL 43 42,false),(iB 44 .gtr 39 43,false)]
def ayJ:Rg:=[iI 4 1]
def ayK:Rg:=[iM 25 5,iC 26 .sub 25 1,iM 5 26]
def ayH:aD:=(.seq (.seq (.region aHE) (.cond (Tm 24) .skip (.exit 0))) (.seq (.block 1 (.seq (.seq (.draw aHF) (.cond (Tm 35) (.seq (.region aHG) .ret) .skip)) (.seq (.draw ayI) (.cond (Tm 44) (.seq (.region ayJ) .ret) .skip)))) (.region ayK)))
def ayL:Rg:=[iI 4 0]
def LL:aD:=(.seq (.region aGX) (.seq (.region aGY) (.seq (.seq (.region aGZ) (.cond (Tm 14) (.seq (.seq (.region aHA) (.cond (Tm 19) (.seq (.region aHB) .ret) .skip)) (.seq (.region aHC) .ret)) .skip)) (.seq (.seq (.region aHD) (.block 0 (.loop ayH))) (.seq (.region ayL) .ret)))))
def a2Z:List Nat:=[]
def ayG:bG:=⟨2,45,LL,[.tmp 4]⟩
def ZX:Rg:=[iA 4 (.mv (.const .nils)),iA 5 (.mv (.const .nils))]
def ZY:Rg:=[iM 20 0,iM 21 1,iA 22 (.call 32 [(Tm 20),(Tm 21)]),iC 23 .lss 22 0]
def ZZ:Rg:=[iM 24 0,iA 25 (.call 38 [(Tm 24)]),iA 4 (.mv (.const .nils)),iM 5 25]
def aaA:Rg:=[iM 26 1,iN 27 26,iC 28 .eql 27 1]
def FL:Rg:=[iM 29 0,iN 30 29,iA 31 (.mkslice 1 4 [(.int .u32 0)] (Tm 30) (Tm 30)),iM 6 31]
def FM:Rg:=[iA 7 (.mv (.const (.int .u64 0)))]
def FN:Rg:=[iM 32 0,iN 33 32,iC 34 .sub 33 1,iM 8 34]
def aaB:Rg:=[iM 35 8,iC 36 .geq 35 0]
def aaC:Rg:=[iM 39 7,iA 40 (.bin .shl (Tm 39) (.const (.int .u64 32))),iM 41 0,iM 42 8,iX 43 1 41 42,iL 44 43,iA 45 (.conv .u64 (Tm 44)),iB 46 .or 40 45,iM 9 46]
def aaD:Rg:=[iM 47 6,iM 48 8,iM 49 9,iM 50 1,iA 51 (.idxS 1 (Tm 50) (Ci 0)),iL 52 51,iA 53 (.conv .u64 (Tm 52)),iB 54 .quo 49 53,iA 55 (.conv .u32 (Tm 54)),iX 56 1 47 48,iS 1 56 55]
def QH:Rg:=[iM 57 9,iM 58 1,iA 59 (.idxS 1 (Tm 58) (Ci 0)),iL 60 59,iA 61 (.conv .u64 (Tm 60)),iB 62 .rem 57 61,iM 7 62]
def QI:Rg:=[iM 37 8,iC 38 .sub 37 1,iM 8 38]
def zY:aD:=(.seq (.seq (.region aaB) (.cond (Tm 36) .skip (.exit 0))) (.seq (.block 1 (.seq (.region aaC) (.seq (.region aaD) (.region QH)))) (.region QI)))
def zZ:Rg:=[iM 63 6,iA 64 (.call 38 [(Tm 63)]),iM 65 7,iA 66 (.call 35 [(Tm 65)]),iM 4 64,iM 5 66]
def QJ:Rg:=[iM 67 1,iN 68 67,iA 69 (.bin .mul (Ci 32) (Tm 68)),iM 70 1,iA 71 (.call 31 [(Tm 70)]),iB 72 .sub 69 71,iM 10 72]
def QK:Rg:=[iM 73 0,iM 74 10,iA 75 (.call 45 [(Tm 73),(Tm 74)]),iA 76 (.bslice true 1 2 [(.int .u32 0)] [(0,(.const (.int .u32 0))),(1,(.const (.int .u32 0)))]),iA 77 (.append 1 4 (Tm 75) (Tm 76)),iM 78 1,iM 79 10,iA 80 (.call 45 [(Tm 78),(Tm 79)]),iM 11 77,iM 12 80]
def AA:Rg:=[iM 81 11,iM 82 0,iM 83 10,iA 84 (.call 45 [(Tm 82),(Tm 83)]),iN 85 84,iC 86 .add 85 1,iA 87 (.slice 1 (Tm 81) none (some (Tm 86)) none),iM 11 87]
def AB:Rg:=[iM 88 12,iM 89 12,iN 90 89,iC 91 .sub 90 1,iX 92 1 88 91,iL 93 92,iA 94 (.conv .u64 (Tm 93)),iM 13 94]
def AC:Rg:=[iM 95 11,iN 96 95,iM 97 12,iN 98 97,iB 99 .sub 96 98,iA 100 (.mkslice 1 4 [(.int .u32 0)] (Tm 99) (Tm 99)),iM 14 100]
def AD:Rg:=[iM 101 14,iN 102 101,iC 103 .sub 102 1,iM 15 103]
def QL:Rg:=[iM 104 15,iC 105 .geq 104 0]
def QM:Rd:=[(iM 108 11,false),(iM 109 15,false),(iM 110 12,false),(iN 111 110,false),(iB 112 .add 109 111,false),(iX 113 1 108 112,false),(iL 114 113,false),(iA 115 (.conv .u64 (Tm 114)),false),(iA 116 (.bin .shl (Tm 115) (.const (.int .u64 32))),false),(iM 117 11,false),(iM 118 15,false),(iM 119 12,false),(iN 120 119,false),(iB 121 .add 118 120,false),(iC 122 .sub 121 1,false),(iX 123 1 117 122,false),(iL 124 123,false),(iA 125 (.conv .u64 (Tm 124)),false),(iB 126 .or 116 125,false),(iM 16 126,false)]
def QN:Rg:=[iM 127 16,iM 128 13,iB 129 .quo 127 128,iM 17 129]
def QO:Rg:=[iM 130 17,iA 131 (.bin .gtr (Tm 130) (.const (.int .u64 4294967295)))]
def QP:Rg:=[iA 17 (.mv (.const (.int .u64 4294967295)))]
def QQ:Rd:=[(iM 132 12,true),(iM 133 17,false),(iA 134 (.call 35 [(Tm 133)]),true),(iA 135 (.call 44 [(Tm 132),(Tm 134)]),true),(iM 136 11,true),(iM 137 15,true),(iM 138 15,true),(iM 139 12,true),(iN 140 139,true),(iB 141 .add 138 140,true),(iC 142 .add 141 1,true),(iA 143 (.slice 1 (Tm 136) (some (Tm 137)) (some (Tm 142)) none),true),(iA 144 (.append 1 4 (.const .nils) (Tm 143)),true),(iA 145 (.call 32 [(Tm 135),(Tm 144)]),true),(iC 146 .gtr 145 0,false)]
def QR:Rg:=[iM 147 17,iA 148 (.bin .sub (Tm 147) (.const (.int .u64 1))),iM 17 148]
def sD:aD:=(.seq (.seq (.draw QQ) (.cond (Tm 146) .skip (.exit 4))) (.block 5 (.region QR)))
def AE:Rg:=[iM 149 11,iM 150 15,iM 151 15,iM 152 12,iN 153 152,iB 154 .add 151 153,iC 155 .add 154 1,iA 156 (.slice 1 (Tm 149) (some (Tm 150)) (some (Tm 155)) none),iA 157 (.append 1 4 (.const .nils) (Tm 156)),iM 158 12,iM 159 17,iA 160 (.call 35 [(Tm 159)]),iA 161 (.call 44 [(Tm 158),(Tm 160)]),iA 162 (.call 42 [(Tm 157),(Tm 161)]),iM 18 162]
def AF:Rg:=[iI 19 0]
def QS:Rg:=[iM 163 19,iM 164 12,iN 165 164,iB 166 .leq 163 165]
def QT:Rg:=[iM 169 11,iM 170 15,iM 171 19,iB 172 .add 170 171,iX 173 1 169 172,⟨none,.store 1 (Tm 173) (.const (.int .u32 0)),none⟩]
def QU:Rg:=[iM 174 19,iM 175 18,iN 176 175,iB 177 .lss 174 176]
def QV:Rg:=[iM 178 11,iM 179 15,iM 180 19,iB 181 .add 179 180,iM 182 18,iM 183 19,iX 184 1 182 183,iL 185 184,iX 186 1 178 181,iS 1 186 185]
def AG:Rg:=[iM 167 19,iC 168 .add 167 1,iM 19 168]
def sE:aD:=(.seq (.seq (.region QS) (.cond (Tm 166) .skip (.exit 6))) (.seq (.block 7 (.seq (.region QT) (.seq (.region QU) (.cond (Tm 177) (.region QV) .skip)))) (.region AG)))
def AH:Rg:=[iM 187 14,iM 188 15,iM 189 17,iA 190 (.conv .u32 (Tm 189)),iX 191 1 187 188,iS 1 191 190]
def AI:Rg:=[iM 106 15,iC 107 .sub 106 1,iM 15 107]
def sF:aD:=(.seq (.seq (.region QL) (.cond (Tm 105) .skip (.exit 2))) (.seq (.block 3 (.seq (.draw QM) (.seq (.region QN) (.seq (.seq (.region QO) (.cond (Tm 131) (.region QP) .skip)) (.seq (.block 4 (.loop sD)) (.seq (.region AE) (.seq (.seq (.region AF) (.block 6 (.loop sE))) (.region AH)))))))) (.region AI)))
def AJ:Rg:=[iM 192 14,iA 193 (.call 38 [(Tm 192)]),iM 194 11,iA 195 (.call 38 [(Tm 194)]),iM 196 10,iA 197 (.call 40 [(Tm 195),(Tm 196)]),iM 4 193,iM 5 197]
def wD:aD:=(.seq (.region ZX) (.seq (.seq (.region ZY) (.cond (Tm 23) (.seq (.region ZZ) .ret) .skip)) (.seq (.seq (.region aaA) (.cond (Tm 28) (.seq (.region FL) (.seq (.region FM) (.seq (.seq (.region FN) (.block 0 (.loop zY))) (.seq (.region zZ) .ret)))) .skip)) (.seq (.region QJ) (.seq (.region QK) (.seq (.region AA) (.seq (.region AB) (.seq (.region AC) (.seq (.seq (.region AD) (.block 2 (.loop sF))) (.seq (.region AJ) .ret))))))))))
def aMO:List Nat:=[76]
def BQ:bG:=⟨2,198,wD,[.tmp 4,.tmp 5]⟩
def aHH:Rg:=[iA 4 (.mv (.const .nils)),iA 5 (.mv (.const .nils)),iI 6 0]
def aHI:Rg:=[iM 9 0,iA 10 (.call 41 [(Tm 9)]),iM 11 10,iG 12 (.mv (Tm 1)) 11 false,iG 13 (.call 41 [(Tm 12)]) 11 false,iA 14 (.pick (Tm 11) (.const (.bool true)) (Tm 13))]
def adE:Rg:=[iA 4 (.mv (.const .nils)),iA 5 (.mv (.const .nils)),iI 6 2]
def aHJ:Rg:=[iM 15 1,iA 16 (.call 38 [(Tm 15)]),iN 17 16,iC 18 .eql 17 0]
def aHK:Rg:=[iA 4 (.mv (.const .nils)),iA 5 (.mv (.const .nils)),iI 6 3]
def aHL:Rg:=[iM 20 0,iA 21 (.call 38 [(Tm 20)]),iM 22 1,iA 23 (.call 38 [(Tm 22)]),iA 24 (.call 39 [(Tm 21),(Tm 23)]),iM 19 24,iA 25 (.extract (Tm 19) 0),iA 26 (.extract (Tm 19) 1),iM 7 25,iM 8 26]
def aHM:Rg:=[iM 27 7,iM 28 8,iM 4 27,iM 5 28,iI 6 0]
def LM:aD:=(.seq (.region aHH) (.seq (.seq (.region aHI) (.cond (Tm 14) (.seq (.region adE) .ret) .skip)) (.seq (.seq (.region aHJ) (.cond (Tm 18) (.seq (.region aHK) .ret) .skip)) (.seq (.region aHL) (.seq (.region aHM) .ret)))))
def a3B:List Nat:=[]
def udiv:bG:=⟨2,29,LM,[.tmp 4,.tmp 5,.tmp 6]⟩
def aHO:Rg:=[iA 4 (.mv (.const .nils)),iI 5 0]
def aHP:Rg:=[iM 10 0,iA 11 (.call 41 [(Tm 10)]),iM 12 11,iG 13 (.mv (Tm 1)) 12 false,iG 14 (.call 41 [(Tm 13)]) 12 false,iA 15 (.pick (Tm 12) (.const (.bool true)) (Tm 14))]
def adF:Rg:=[iA 4 (.mv (.const .nils)),iI 5 2]
def aHQ:Rg:=[iM 16 0,iA 17 (.call 38 [(Tm 16)]),iM 18 1,iA 19 (.call 38 [(Tm 18)]),iM 6 17,iM 7 19]
def aHR:Rg:=[iM 20 7,iN 21 20,iC 22 .gtr 21 0]
def aHS:Rg:=[iM 24 6,iM 25 7,iA 26 (.call 39 [(Tm 24),(Tm 25)]),iM 23 26,iA 27 (.extract (Tm 23) 0),iA 28 (.extract (Tm 23) 1),iM 8 27,iM 9 28]
def aHT:Rg:=[iM 29 7,iM 30 9,iM 6 29,iM 7 30]
def aHN:aD:=(.seq (.seq (.region aHR) (.cond (Tm 22) .skip (.exit 0))) (.block 1 (.seq (.region aHS) (.region aHT))))
def aHU:Rg:=[iM 31 6,iM 4 31,iI 5 0]
def LP:aD:=(.seq (.region aHO) (.seq (.seq (.region aHP) (.cond (Tm 15) (.seq (.region adF) .ret) .skip)) (.seq (.region aHQ) (.seq (.block 0 (.loop aHN)) (.seq (.region aHU) .ret)))))
def a3D:List Nat:=[]
def ayV:bG:=⟨2,32,LP,[.tmp 4,.tmp 5]⟩
def aaQ:Rg:=[iA 6 (.alloc [(.bool false),.nils,.nils])]
def aaR:Rg:=[iM 9 1,iA 10 (.call 38 [(Tm 9)]),iM 11 2,iA 12 (.call 38 [(Tm 11)]),iM 1 10,iM 2 12]
def aaS:Rg:=[iM 13 1,iN 14 13,iC 15 .eql 14 0]
def aaT:Rg:=[iA 16 (.bslice true 1 1 [(.int .u32 0)] [(0,(.const (.int .u32 1)))]),iA 17 (.build [(.bool false),.nils,.nils] [(2,1,(Tm 16))]),iS 3 6 17]
def aaU:Rg:=[iM 19 1,iM 20 2,iA 21 (.call 34 [(Tm 19),(Tm 20)]),iM 18 21,iA 22 (.extract (Tm 18) 0),iA 23 (.extract (Tm 18) 1),iM 7 22,iM 8 23]
def aaV:Rg:=[iM 24 7,iN 25 24,iC 26 .gtr 25 1,iM 27 26,iG 28 (.mv (Tm 7)) 27 false,iG 29 (.idxS 1 (Tm 28) (Ci 0)) 27 false,iG 30 (.load none (Tm 29)) 27 false,iG 31 (.bin .gtr (Tm 30) (.const (.int .u32 1))) 27 false,iA 32 (.pick (Tm 27) (.const (.bool true)) (Tm 31))]
def GC:Rg:=[iM 34 1,iM 35 7,iA 36 (.call 33 [(Tm 34),(Tm 35)]),iM 33 36,iA 37 (.extract (Tm 33) 0),iA 38 (.extract (Tm 33) 1),iA 39 (.extract (Tm 33) 2),iM 1 37]
def GD:Rg:=[iM 41 2,iM 42 7,iA 43 (.call 33 [(Tm 41),(Tm 42)]),iM 40 43,iA 44 (.extract (Tm 40) 0),iA 45 (.extract (Tm 40) 1),iA 46 (.extract (Tm 40) 2),iM 2 44]
def uF:Rg:=[iM 47 0,iM 48 1,iM 49 2,iA 50 (.build [(.bool false),.nils,.nils] [(0,1,(Tm 47)),(1,1,(Tm 48)),(2,1,(Tm 49))]),iS 3 6 50]
def wF:aD:=(.seq (.region aaQ) (.seq (.region aaR) (.seq (.seq (.region aaS) (.cond (Tm 15) (.seq (.region aaT) .ret) .skip)) (.seq (.seq (.region aaU) (.seq (.region aaV) (.cond (Tm 32) (.seq (.region GC) (.region GD)) .skip))) (.seq (.region uF) .ret)))))
def aMX:List Nat:=[16]
def BS:bG:=⟨3,51,wF,[.cell 6 (some 3)]⟩
def azP:Rg:=[iA 2 (.mv (.const (.int .u64 0)))]
def azQ:Rg:=[iM 3 0,iC 4 .lss 3 0]
def azR:Rg:=[iM 5 0,iC 6 .add 5 1,iA 7 (.un .neg (Tm 6)),iA 8 (.conv .u64 (Tm 7)),iA 9 (.bin .add (Tm 8) (.const (.int .u64 1))),iM 2 9]
def azS:Rg:=[iM 10 0,iA 11 (.conv .u64 (Tm 10)),iM 2 11]
def GG:aD:=(.seq (.region azP) (.seq (.seq (.region azQ) (.cond (Tm 4) (.seq (.region azR) .ret) .skip)) (.seq (.region azS) .ret)))
def aYK:List Nat:=[]
def aaW:bG:=⟨1,12,GG,[.tmp 2]⟩
def azL:Rg:=[iA 4 (.alloc [(.bool false),.nils,.nils]),iI 5 0]
def azM:Rg:=[iM 6 1,iC 7 .eql 6 0]
def azN:Rg:=[iA 8 (.build [(.bool false),.nils,.nils] []),iS 3 4 8,iI 5 3]
def azO:Rg:=[iM 9 0,iC 10 .lss 9 0,iM 11 1,iC 12 .lss 11 0,iA 13 (.eqb true (Tm 10) (Tm 12)),iM 14 0,iA 15 (.call 59 [(Tm 14)]),iA 16 (.call 35 [(Tm 15)]),iM 17 1,iA 18 (.call 59 [(Tm 17)]),iA 19 (.call 35 [(Tm 18)]),iA 20 (.call 58 [(Tm 13),(Tm 16),(Tm 19)]),iS 3 4 20,iI 5 0]
def GF:aD:=(.seq (.region azL) (.seq (.seq (.region azM) (.cond (Tm 7) (.seq (.region azN) .ret) .skip)) (.seq (.region azO) .ret)))
def aYI:List Nat:=[]
def NL:bG:=⟨2,21,GF,[.cell 4 (some 3),.tmp 5]⟩
def aHY:Rg:=[iA 2 (.alloc [(.bool false),.nils,.nils])]
def aHZ:Rg:=[iM 6 0,iA 7 (.call 50 [(Tm 6),(Ci 1)]),iM 5 7,iA 8 (.extract (Tm 5) 0),iA 9 (.extract (Tm 5) 1),iA 3 (.alloc [(.bool false),.nils,.nils]),iS 3 3 8,iM 4 9]
def aIA:Rg:=[iA 10 (.load (some 3) (Tm 3)),iS 3 2 10]
def MH:aD:=(.seq (.region aHY) (.seq (.region aHZ) (.seq (.region aIA) .ret)))
def a3W:List Nat:=[]
def azK:bG:=⟨1,11,MH,[.cell 2 (some 3)]⟩
end Go.PM
namespace Go.PM
open Go
def EG:Rg:=[iI 2 0]
def EH:Rg:=[iM 4 0,iN 5 4,iM 3 5]
def EI:Rg:=[iM 6 3,iC 7 .gtr 6 0,iM 8 7,iG 9 (.mv (Tm 0)) 8 true,iG 10 (.mv (Tm 3)) 8 true,iG 11 (.bin .sub (Tm 10) (Ci 1)) 8 true,iG 12 (.idxS 1 (Tm 9) (Tm 11)) 8 true,iG 13 (.load none (Tm 12)) 8 true,iG 14 (.bin .eql (Tm 13) (.const (.int .u32 0))) 8 true,iA 15 (.pick (Tm 8) (Tm 14) (.const (.bool false)))]
def EJ:Rg:=[iM 16 3,iC 17 .sub 16 1,iM 3 17]
def EF:aD:=(.seq (.seq (.region EI) (.cond (Tm 15) .skip (.exit 0))) (.block 1 (.region EJ)))
def qN:Rg:=[iM 18 3,iM 2 18]
def mM:aD:=(.seq (.region EG) (.seq (.region EH) (.seq (.block 0 (.loop EF)) (.seq (.region qN) .ret))))
def aLM:List Nat:=[]
def rG:bG:=⟨1,19,mM,[.tmp 2]⟩
def afW:Rg:=[iA 2 (.mv (.const (.bool false)))]
def afX:Rg:=[iM 3 0,iA 4 (.call 138 [(Tm 3)]),iC 5 .gtr 4 512,iM 2 5]
def zL:aD:=(.seq (.region afW) (.seq (.region afX) .ret))
def aPW:List Nat:=[]
def JD:bG:=⟨1,6,zL,[.tmp 2]⟩
def agJ:Rg:=[iA 2 (.mv (.const .nils)),iI 3 0]
def agK:Rg:=[iM 5 0,iA 6 (.call 138 [(Tm 5)]),iM 4 6]
def agL:Rg:=[iM 7 4,iC 8 .gtr 7 512]
def agM:Rg:=[iA 2 (.mv (.const .nils)),iI 3 2]
def agN:Rg:=[iM 9 0,iM 10 4,iM 11 4,iA 12 (.slice 1 (Tm 9) none (some (Tm 10)) (some (Tm 11))),iM 2 12,iI 3 0]
def zN:aD:=(.seq (.region agJ) (.seq (.region agK) (.seq (.seq (.region agL) (.cond (Tm 8) (.seq (.region agM) .ret) .skip)) (.seq (.region agN) .ret))))
def aQB:List Nat:=[]
def JI:bG:=⟨1,13,zN,[.tmp 2,.tmp 3]⟩
def auG:Rg:=[iA 2 (.mv (.const .nils))]
def auH:Rg:=[iM 4 0,iA 5 (.conv .u32 (Tm 4)),iM 6 0,iA 7 (.bin .shr (Tm 6) (.const (.int .u64 32))),iA 8 (.conv .u32 (Tm 7)),iA 9 (.bslice true 1 2 [(.int .u32 0)] [(0,(Tm 5)),(1,(Tm 8))]),iM 3 9]
def auI:Rg:=[iM 10 3,iM 11 3,iA 12 (.call 138 [(Tm 11)]),iA 13 (.slice 1 (Tm 10) none (some (Tm 12)) none),iM 2 13]
def EK:aD:=(.seq (.region auG) (.seq (.region auH) (.seq (.region auI) .ret)))
def aWF:List Nat:=[9]
def YK:bG:=⟨1,14,EK,[.tmp 2]⟩
def avA:Rg:=[iA 2 (.mv (.const .nils))]
def avB:Rg:=[iM 3 0,iM 4 0,iA 5 (.call 138 [(Tm 4)]),iA 6 (.slice 1 (Tm 3) none (some (Tm 5)) none),iA 7 (.append 1 4 (.const .nils) (Tm 6)),iM 2 7]
def EL:aD:=(.seq (.region avA) (.seq (.region avB) .ret))
def aWI:List Nat:=[]
def YN:bG:=⟨1,8,EL,[.tmp 2]⟩
def aFD:Rg:=[iI 4 0]
def aFE:Rg:=[iM 8 0,iA 9 (.call 138 [(Tm 8)]),iM 10 1,iA 11 (.call 138 [(Tm 10)]),iM 5 9,iM 6 11]
def aFF:Rg:=[iM 13 5,iM 14 6,iB 15 .lss 13 14,iM 12 15]
def aFG:Rg:=[iI 4 (-1)]
def aFH:Rg:=[iM 17 5,iM 18 6,iB 19 .gtr 17 18,iM 16 19]
def aFI:Rg:=[iI 4 1]
def aFJ:Rg:=[iM 20 5,iC 21 .sub 20 1,iM 7 21]
def aFK:Rg:=[iM 22 7,iC 23 .geq 22 0]
def aFL:Rd:=[(iM 27 0,false),(iM 28 7,false),(iX 29 1 27 28,false),(iL 30 29,false),(iM 31 1,false),(iM 32 7,false),(iX 33 1 31 32,false),(iL 34 33,false),(iB 35 .lss 30 34,false),(iM 26 35,false)]
def aFM:Rg:=[iI 4 (-1)]
def atX:Rd:=[(iM 37 0,false),(iM 38 7,false),(iX 39 1 37 38,false),(iL 40 39,false),(iM 41 1,false),(iM 42 7,false),(iX 43 1 41 42,false),(iL 44 43,false),(iB 45 .gtr 40 44,false),(iM 36 45,false)]
def atY:Rg:=[iI 4 1]
def atZ:Rg:=[iM 24 7,iC 25 .sub 24 1,iM 7 25]
def atW:aD:=(.seq (.seq (.region aFK) (.cond (Tm 23) .skip (.exit 1))) (.seq (.block 2 (.block 3 (.seq (.draw aFL) (.cond (Tm 26) (.seq (.region aFM) .ret) (.seq (.draw atX) (.cond (Tm 36) (.seq (.region atY) .ret) .skip)))))) (.region atZ)))
def auA:Rg:=[iI 4 0]
def IY:aD:=(.seq (.region aFD) (.seq (.region aFE) (.seq (.block 0 (.seq (.region aFF) (.cond (Tm 12) (.seq (.region aFG) .ret) (.seq (.region aFH) (.cond (Tm 16) (.seq (.region aFI) .ret) .skip))))) (.seq (.seq (.region aFJ) (.block 1 (.loop atW))) (.seq (.region auA) .ret)))))
def a1T:List Nat:=[]
def atV:bG:=⟨2,46,IY,[.tmp 4]⟩
def aEX:Rg:=[iA 4 (.mv (.const .nils)),iI 5 0]
def aEY:Rg:=[iM 9 0,iA 10 (.call 137 [(Tm 9)]),iM 11 10,iG 12 (.mv (Tm 1)) 11 false,iG 13 (.call 137 [(Tm 12)]) 11 false,iA 14 (.pick (Tm 11) (.const (.bool true)) (Tm 13))]
def acC:Rg:=[iA 4 (.mv (.const .nils)),iI 5 2]
def aEZ:Rd:=[(iM 15 0,true),(iM 16 0,false),(iA 17 (.call 138 [(Tm 16)]),true),(iA 18 (.slice 1 (Tm 15) none (some (Tm 17)) none),true),(iM 19 1,true),(iM 20 1,true),(iA 21 (.call 138 [(Tm 20)]),true),(iA 22 (.slice 1 (Tm 19) none (some (Tm 21)) none),false),(iM 0 18,false),(iM 1 22,false)]
def aFA:Rg:=[iM 23 0,iN 24 23,iM 25 1,iN 26 25,iB 27 .lss 24 26]
def aFB:Rg:=[iM 28 1,iM 29 0,iM 0 28,iM 1 29]
def acD:Rg:=[iM 30 0,iN 31 30,iC 32 .add 31 1,iA 33 (.mkslice 1 4 [(.int .u32 0)] (Tm 32) (Tm 32)),iM 6 33]
def acE:Rg:=[iA 7 (.mv (.const (.int .u64 0)))]
def acF:Rg:=[iM 34 0,iN 35 34,iI 36 0]
def aFC:Rg:=[iB 37 .lss 36 35]
def atF:Rg:=[iM 38 36,iM 8 38]
def atG:Rg:=[iM 39 7,iM 40 0,iM 41 8,iX 42 1 40 41,iL 43 42,iA 44 (.conv .u64 (Tm 43)),iB 45 .add 39 44,iM 7 45]
def atH:Rg:=[iM 46 8,iM 47 1,iN 48 47,iB 49 .lss 46 48]
def atI:Rg:=[iM 50 7,iM 51 1,iM 52 8,iX 53 1 51 52,iL 54 53,iA 55 (.conv .u64 (Tm 54)),iB 56 .add 50 55,iM 7 56]
def SY:Rg:=[iM 57 6,iM 58 8,iM 59 7,iA 60 (.conv .u32 (Tm 59)),iX 61 1 57 58,iS 1 61 60]
def SZ:Rg:=[iM 62 7,iA 63 (.bin .shr (Tm 62) (.const (.int .u64 32))),iM 7 63]
def TA:Rg:=[iC 64 .add 36 1,iM 36 64]
def SX:aD:=(.seq (.region aFC) (.seq (.cond (Tm 37) .skip (.exit 0)) (.seq (.block 1 (.seq (.region atF) (.seq (.region atG) (.seq (.seq (.region atH) (.cond (Tm 49) (.region atI) .skip)) (.seq (.region SY) (.region SZ)))))) (.region TA))))
def TB:Rg:=[iM 65 6,iM 66 0,iN 67 66,iM 68 7,iA 69 (.conv .u32 (Tm 68)),iX 70 1 65 67,iS 1 70 69]
def TC:Rg:=[iM 71 6,iA 72 (.call 141 [(Tm 71)]),iA 73 (.extract (Tm 72) 0),iA 74 (.extract (Tm 72) 1),iM 4 73,iM 5 74]
def IX:aD:=(.seq (.region aEX) (.seq (.seq (.region aEY) (.cond (Tm 14) (.seq (.region acC) .ret) .skip)) (.seq (.draw aEZ) (.seq (.seq (.region aFA) (.cond (Tm 27) (.region aFB) .skip)) (.seq (.region acD) (.seq (.region acE) (.seq (.seq (.region acF) (.block 0 (.loop SX))) (.seq (.region TB) (.seq (.region TC) .ret)))))))))
def a1Q:List Nat:=[]
def atE:bG:=⟨2,75,IX,[.tmp 4,.tmp 5]⟩
def aGG:Rg:=[iA 4 (.mv (.const .nils)),iI 5 0]
def aGH:Rg:=[iM 11 0,iA 12 (.call 137 [(Tm 11)]),iM 13 12,iG 14 (.mv (Tm 1)) 13 false,iG 15 (.call 137 [(Tm 14)]) 13 false,iA 16 (.pick (Tm 13) (.const (.bool true)) (Tm 15)),iM 10 16]
def acQ:Rg:=[iA 4 (.mv (.const .nils)),iI 5 2]
def aGI:Rg:=[iM 18 0,iM 19 1,iA 20 (.call 129 [(Tm 18),(Tm 19)]),iC 21 .lss 20 0,iM 17 21]
def aGJ:Rg:=[iA 4 (.mv (.const .nils)),iI 5 4]
def aGK:Rd:=[(iM 22 0,true),(iM 23 0,false),(iA 24 (.call 138 [(Tm 23)]),true),(iA 25 (.slice 1 (Tm 22) none (some (Tm 24)) none),true),(iM 26 1,true),(iM 27 1,true),(iA 28 (.call 138 [(Tm 27)]),true),(iA 29 (.slice 1 (Tm 26) none (some (Tm 28)) none),false),(iM 0 25,false),(iM 1 29,false)]
def acR:Rg:=[iM 30 0,iN 31 30,iA 32 (.mkslice 1 4 [(.int .u32 0)] (Tm 31) (Tm 31)),iM 6 32]
def acS:Rg:=[iA 7 (.mv (.const (.int .u64 0)))]
def acT:Rg:=[iM 33 0,iN 34 33,iI 35 0]
def aGL:Rg:=[iB 36 .lss 35 34]
def auT:Rg:=[iM 37 35,iM 8 37]
def auU:Rg:=[iM 38 0,iM 39 8,iX 40 1 38 39,iL 41 40,iA 42 (.conv .u64 (Tm 41)),iM 43 7,iB 44 .sub 42 43,iM 9 44]
def auV:Rg:=[iM 45 8,iM 46 1,iN 47 46,iB 48 .lss 45 47]
def auW:Rg:=[iM 49 9,iM 50 1,iM 51 8,iX 52 1 50 51,iL 53 52,iA 54 (.conv .u64 (Tm 53)),iB 55 .sub 49 54,iM 9 55]
def TI:Rg:=[iM 56 6,iM 57 8,iM 58 9,iA 59 (.conv .u32 (Tm 58)),iX 60 1 56 57,iS 1 60 59]
def TJ:Rg:=[iM 61 9,iA 62 (.bin .shr (Tm 61) (.const (.int .u64 63))),iM 7 62]
def TK:Rg:=[iC 63 .add 35 1,iM 35 63]
def TH:aD:=(.seq (.region aGL) (.seq (.cond (Tm 36) .skip (.exit 1)) (.seq (.block 2 (.seq (.region auT) (.seq (.region auU) (.seq (.seq (.region auV) (.cond (Tm 48) (.region auW) .skip)) (.seq (.region TI) (.region TJ)))))) (.region TK))))
def TL:Rg:=[iM 64 6,iA 65 (.call 141 [(Tm 64)]),iA 66 (.extract (Tm 65) 0),iA 67 (.extract (Tm 65) 1),iM 4 66,iM 5 67]
def JJ:aD:=(.seq (.region aGG) (.seq (.block 0 (.seq (.region aGH) (.cond (Tm 10) (.seq (.region acQ) .ret) (.seq (.region aGI) (.cond (Tm 17) (.seq (.region aGJ) .ret) .skip))))) (.seq (.draw aGK) (.seq (.region acR) (.seq (.region acS) (.seq (.seq (.region acT) (.block 1 (.loop TH))) (.seq (.region TL) .ret)))))))
def a2B:List Nat:=[]
def auS:bG:=⟨2,68,JJ,[.tmp 4,.tmp 5]⟩
def aGC:Rg:=[iA 4 (.mv (.const .nils)),iI 5 0]
def aGD:Rg:=[iM 12 0,iA 13 (.call 137 [(Tm 12)]),iM 14 13,iG 15 (.mv (Tm 1)) 14 false,iG 16 (.call 137 [(Tm 15)]) 14 false,iA 17 (.pick (Tm 14) (.const (.bool true)) (Tm 16))]
def acJ:Rg:=[iA 4 (.mv (.const .nils)),iI 5 2]
def aGE:Rd:=[(iM 18 0,true),(iM 19 0,false),(iA 20 (.call 138 [(Tm 19)]),true),(iA 21 (.slice 1 (Tm 18) none (some (Tm 20)) none),true),(iM 22 1,true),(iM 23 1,true),(iA 24 (.call 138 [(Tm 23)]),true),(iA 25 (.slice 1 (Tm 22) none (some (Tm 24)) none),false),(iM 0 21,false),(iM 1 25,false)]
def acK:Rg:=[iM 26 0,iN 27 26,iM 28 1,iN 29 28,iB 30 .add 27 29,iA 31 (.mkslice 1 4 [(.int .u32 0)] (Tm 30) (Tm 30)),iM 6 31]
def acL:Rg:=[iM 32 0,iN 33 32,iI 34 0]
def aGF:Rg:=[iB 35 .lss 34 33]
def acM:Rg:=[iM 36 34,iX 37 1 32 34,iL 38 37,iM 7 36,iM 8 38]
def acN:Rg:=[iA 9 (.mv (.const (.int .u64 0)))]
def acO:Rg:=[iM 39 1,iN 40 39,iI 41 0]
def auK:Rg:=[iB 42 .lss 41 40]
def auL:Rg:=[iM 43 41,iX 44 1 39 41,iL 45 44,iM 10 43,iM 11 45]
def auM:Rg:=[iM 46 9,iM 47 8,iA 48 (.conv .u64 (Tm 47)),iM 49 11,iA 50 (.conv .u64 (Tm 49)),iB 51 .mul 48 50,iM 52 6,iM 53 7,iM 54 10,iB 55 .add 53 54,iX 56 1 52 55,iL 57 56,iA 58 (.conv .u64 (Tm 57)),iB 59 .add 51 58,iB 60 .add 46 59,iM 9 60]
def auN:Rg:=[iM 61 6,iM 62 7,iM 63 10,iB 64 .add 62 63,iM 65 9,iA 66 (.conv .u32 (Tm 65)),iX 67 1 61 64,iS 1 67 66]
def auO:Rg:=[iM 68 9,iA 69 (.bin .shr (Tm 68) (.const (.int .u64 32))),iM 9 69]
def auP:Rg:=[iC 70 .add 41 1,iM 41 70]
def TD:aD:=(.seq (.region auK) (.seq (.cond (Tm 42) .skip (.exit 2)) (.seq (.block 3 (.seq (.region auL) (.seq (.region auM) (.seq (.region auN) (.region auO))))) (.region auP))))
def TF:Rg:=[iM 71 6,iM 72 7,iM 73 1,iN 74 73,iB 75 .add 72 74,iM 76 9,iA 77 (.conv .u32 (Tm 76)),iX 78 1 71 75,iS 1 78 77]
def auQ:Rg:=[iC 79 .add 34 1,iM 34 79]
def TE:aD:=(.seq (.region aGF) (.seq (.cond (Tm 35) .skip (.exit 0)) (.seq (.block 1 (.seq (.region acM) (.seq (.region acN) (.seq (.seq (.region acO) (.block 2 (.loop TD))) (.region TF))))) (.region auQ))))
def TG:Rg:=[iM 80 6,iA 81 (.call 141 [(Tm 80)]),iA 82 (.extract (Tm 81) 0),iA 83 (.extract (Tm 81) 1),iM 4 82,iM 5 83]
def JE:aD:=(.seq (.region aGC) (.seq (.seq (.region aGD) (.cond (Tm 17) (.seq (.region acJ) .ret) .skip)) (.seq (.draw aGE) (.seq (.region acK) (.seq (.seq (.region acL) (.block 0 (.loop TE))) (.seq (.region TG) .ret))))))
def a1Z:List Nat:=[]
def auJ:bG:=⟨2,84,JE,[.tmp 4,.tmp 5]⟩
def atL:Rg:=[iI 2 0]
def atM:Rg:=[iM 6 0,iA 7 (.call 138 [(Tm 6)]),iM 3 7]
def atN:Rg:=[iM 8 3,iC 9 .eql 8 0]
def atO:Rg:=[iI 2 0]
def atQ:Rg:=[iM 10 3,iC 11 .sub 10 1,iC 12 .mul 11 32,iM 4 12]
def atR:Rg:=[iM 13 0,iM 14 3,iC 15 .sub 14 1,iX 16 1 13 15,iL 17 16,iM 5 17]
def atS:Rg:=[iM 18 5,iA 19 (.bin .gtr (Tm 18) (.const (.int .u32 0)))]
def atT:Rg:=[iM 22 4,iC 23 .add 22 1,iM 4 23]
def atU:Rg:=[iM 20 5,iA 21 (.bin .shr (Tm 20) (.const (.int .u64 1))),iM 5 21]
def atK:aD:=(.seq (.seq (.region atS) (.cond (Tm 19) .skip (.exit 0))) (.seq (.block 1 (.region atT)) (.region atU)))
def afV:Rg:=[iM 24 4,iM 2 24]
def EE:aD:=(.seq (.region atL) (.seq (.region atM) (.seq (.seq (.region atN) (.cond (Tm 9) (.seq (.region atO) .ret) .skip)) (.seq (.region atQ) (.seq (.seq (.region atR) (.block 0 (.loop atK))) (.seq (.region afV) .ret))))))
def aWD:List Nat:=[]
def XZ:bG:=⟨1,25,EE,[.tmp 2]⟩
def aFV:Rg:=[iA 4 (.mv (.const .nils)),iI 5 0]
def aFW:Rg:=[iM 8 0,iA 9 (.call 137 [(Tm 8)]),iM 10 9,iG 11 (.mv (Tm 1)) 10 false,iG 12 (.call 137 [(Tm 11)]) 10 false,iA 13 (.pick (Tm 10) (.const (.bool true)) (Tm 12))]
def acI:Rg:=[iA 4 (.mv (.const .nils)),iI 5 2]
def aFX:Rg:=[iM 14 0,iA 15 (.call 135 [(Tm 14)]),iM 16 1,iA 17 (.call 135 [(Tm 16)]),iM 0 15,iM 1 17]
def aFY:Rg:=[iM 18 1,iN 19 18,iC 20 .gtr 19 0]
def aFZ:Rg:=[iM 22 0,iM 23 1,iA 24 (.call 136 [(Tm 22),(Tm 23)]),iM 21 24,iA 25 (.extract (Tm 21) 0),iA 26 (.extract (Tm 21) 1),iM 6 25,iM 7 26]
def aGA:Rg:=[iM 27 1,iM 28 7,iM 0 27,iM 1 28]
def aFU:aD:=(.seq (.seq (.region aFY) (.cond (Tm 20) .skip (.exit 0))) (.block 1 (.seq (.region aFZ) (.region aGA))))
def aGB:Rg:=[iM 29 0,iM 4 29,iI 5 0]
def JC:aD:=(.seq (.region aFV) (.seq (.seq (.region aFW) (.cond (Tm 13) (.seq (.region acI) .ret) .skip)) (.seq (.region aFX) (.seq (.block 0 (.loop aFU)) (.seq (.region aGB) .ret)))))
def a1X:List Nat:=[]
def auF:bG:=⟨2,30,JC,[.tmp 4,.tmp 5]⟩
def aFN:Rg:=[iA 4 (.mv (.const .nils)),iA 5 (.mv (.const .nils)),iI 6 0]
def aFO:Rg:=[iM 10 0,iA 11 (.call 137 [(Tm 10)]),iM 12 11,iG 13 (.mv (Tm 1)) 12 false,iG 14 (.call 137 [(Tm 13)]) 12 false,iA 15 (.pick (Tm 12) (.const (.bool true)) (Tm 14)),iM 9 15]
def acH:Rg:=[iA 4 (.mv (.const .nils)),iA 5 (.mv (.const .nils)),iI 6 2]
def aFP:Rg:=[iM 17 1,iA 18 (.call 138 [(Tm 17)]),iC 19 .eql 18 0,iM 16 19]
def aFQ:Rg:=[iA 4 (.mv (.const .nils)),iA 5 (.mv (.const .nils)),iI 6 3]
def aFR:Rd:=[(iM 21 0,true),(iM 22 0,false),(iA 23 (.call 138 [(Tm 22)]),true),(iA 24 (.slice 1 (Tm 21) none (some (Tm 23)) none),true),(iM 25 1,true),(iM 26 1,true),(iA 27 (.call 138 [(Tm 26)]),true),(iA 28 (.slice 1 (Tm 25) none (some (Tm 27)) none),false),(iA 29 (.call 136 [(Tm 24),(Tm 28)]),true),(iM 20 29,false),(iA 30 (.extract (Tm 20) 0),false),(iA 31 (.extract (Tm 20) 1),false),(iM 7 30,false),(iM 8 31,false)]
def aFS:Rg:=[iM 32 7,iM 33 8,iM 4 32,iM 5 33,iI 6 0]
def JA:aD:=(.seq (.region aFN) (.seq (.block 0 (.seq (.region aFO) (.cond (Tm 9) (.seq (.region acH) .ret) (.seq (.region aFP) (.cond (Tm 16) (.seq (.region aFQ) .ret) .skip))))) (.seq (.draw aFR) (.seq (.region aFS) .ret))))
def a1V:List Nat:=[]
def auB:bG:=⟨2,34,JA,[.tmp 4,.tmp 5,.tmp 6]⟩
def agA:Rg:=[iA 4 (.mv (.const .nils)),iA 5 (.mv (.const (.int .u32 0)))]
def agB:Rg:=[iM 9 0,iN 10 9,iA 11 (.mkslice 1 4 [(.int .u32 0)] (Tm 10) (Tm 10)),iM 6 11]
def agC:Rg:=[iA 7 (.mv (.const (.int .u64 0)))]
def agD:Rg:=[iM 12 0,iN 13 12,iC 14 .sub 13 1,iM 8 14]
def agE:Rg:=[iM 15 8,iC 16 .geq 15 0]
def agF:Rg:=[iM 19 7,iA 20 (.bin .shl (Tm 19) (.const (.int .u64 32))),iM 21 0,iM 22 8,iX 23 1 21 22,iL 24 23,iA 25 (.conv .u64 (Tm 24)),iB 26 .or 20 25,iM 7 26]
def agG:Rg:=[iM 27 6,iM 28 8,iM 29 7,iM 30 1,iA 31 (.conv .u64 (Tm 30)),iB 32 .quo 29 31,iA 33 (.conv .u32 (Tm 32)),iX 34 1 27 28,iS 1 34 33]
def agH:Rg:=[iM 35 7,iM 36 1,iA 37 (.conv .u64 (Tm 36)),iB 38 .rem 35 37,iM 7 38]
def agI:Rg:=[iM 17 8,iC 18 .sub 17 1,iM 8 18]
def afZ:aD:=(.seq (.seq (.region agE) (.cond (Tm 16) .skip (.exit 0))) (.seq (.block 1 (.seq (.region agF) (.seq (.region agG) (.region agH)))) (.region agI)))
def YL:Rg:=[iM 39 6,iM 40 6,iA 41 (.call 138 [(Tm 40)]),iA 42 (.slice 1 (Tm 39) none (some (Tm 41)) none),iM 43 7,iA 44 (.conv .u32 (Tm 43)),iM 4 42,iM 5 44]
def zM:aD:=(.seq (.region agA) (.seq (.region agB) (.seq (.region agC) (.seq (.seq (.region agD) (.block 0 (.loop afZ))) (.seq (.region YL) .ret)))))
def aPZ:List Nat:=[]
def JH:bG:=⟨2,45,zM,[.tmp 4,.tmp 5]⟩
def aQD:Rg:=[iA 4 (.mv (.const .nils))]
def aQE:Rg:=[iM 9 0,iN 10 9,iC 11 .add 10 1,iA 12 (.mkslice 1 4 [(.int .u32 0)] (Tm 11) (Tm 11)),iM 5 12]
def aQF:Rg:=[iA 6 (.mv (.const (.int .u64 0)))]
def aQG:Rg:=[iM 13 0,iN 14 13,iI 15 0]
def aQH:Rg:=[iB 16 .lss 15 14]
def aQI:Rg:=[iM 17 15,iX 18 1 13 15,iL 19 18,iM 7 17,iM 8 19]
def aQJ:Rg:=[iM 20 6,iM 21 8,iA 22 (.conv .u64 (Tm 21)),iM 23 1,iB 24 .shl 22 23,iB 25 .or 20 24,iM 6 25]
def aQK:Rg:=[iM 26 5,iM 27 7,iM 28 6,iA 29 (.conv .u32 (Tm 28)),iX 30 1 26 27,iS 1 30 29]
def aQL:Rg:=[iM 31 6,iA 32 (.bin .shr (Tm 31) (.const (.int .u64 32))),iM 6 32]
def aQM:Rg:=[iC 33 .add 15 1,iM 15 33]
def aGM:aD:=(.seq (.region aQH) (.seq (.cond (Tm 16) .skip (.exit 0)) (.seq (.block 1 (.seq (.region aQI) (.seq (.region aQJ) (.seq (.region aQK) (.region aQL))))) (.region aQM))))
def aGN:Rg:=[iM 34 5,iM 35 0,iN 36 35,iM 37 6,iA 38 (.conv .u32 (Tm 37)),iX 39 1 34 36,iS 1 39 38]
def aGO:Rg:=[iM 40 5,iM 4 40]
def TN:aD:=(.seq (.region aQD) (.seq (.region aQE) (.seq (.region aQF) (.seq (.seq (.region aQG) (.block 0 (.loop aGM))) (.seq (.region aGN) (.seq (.region aGO) .ret))))))
def a5B:List Nat:=[]
def nup:bG:=⟨2,41,TN,[.tmp 4]⟩
def YB:Rg:=[iA 4 (.mv (.const .nils)),iA 5 (.mv (.const .nils))]
def YC:Rg:=[iM 21 0,iM 22 1,iA 23 (.call 129 [(Tm 21),(Tm 22)]),iC 24 .lss 23 0]
def YD:Rg:=[iM 25 0,iA 26 (.call 135 [(Tm 25)]),iA 4 (.mv (.const .nils)),iM 5 26]
def YE:Rg:=[iM 27 1,iN 28 27,iC 29 .eql 28 1]
def YF:Rg:=[iM 31 0,iM 32 1,iA 33 (.idxS 1 (Tm 32) (Ci 0)),iL 34 33,iA 35 (.call 140 [(Tm 31),(Tm 34)]),iM 30 35,iA 36 (.extract (Tm 30) 0),iA 37 (.extract (Tm 30) 1),iM 6 36,iM 7 37]
def YG:Rg:=[iM 38 6,iM 39 7,iA 40 (.conv .u64 (Tm 39)),iA 41 (.call 132 [(Tm 40)]),iM 4 38,iM 5 41]
def YH:Rg:=[iA 8 (.mv (.const (.int .u64 0)))]
def YI:Rg:=[iM 42 1,iM 43 1,iN 44 43,iC 45 .sub 44 1,iX 46 1 42 45,iL 47 46,iM 48 8,iB 49 .shl 47 48,iA 50 (.bin .lss (Tm 49) (.const (.int .u32 2147483648)))]
def YJ:Rg:=[iM 51 8,iA 52 (.bin .add (Tm 51) (.const (.int .u64 1))),iM 8 52]
def YA:aD:=(.seq (.seq (.region YI) (.cond (Tm 50) .skip (.exit 0))) (.block 1 (.region YJ)))
def PA:Rd:=[(iM 53 0,false),(iM 54 8,false),(iA 55 (.call 143 [(Tm 53),(Tm 54)]),true),(iM 56 1,true),(iM 57 8,true),(iA 58 (.call 143 [(Tm 56),(Tm 57)]),true),(iM 59 1,true),(iN 60 59,true),(iA 61 (.slice 1 (Tm 58) none (some (Tm 60)) none),false),(iM 9 55,false),(iM 10 61,false)]
def PB:Rg:=[iM 62 10,iN 63 62,iM 11 63]
def PC:Rg:=[iM 64 9,iN 65 64,iM 66 11,iB 67 .sub 65 66,iA 68 (.mkslice 1 4 [(.int .u32 0)] (Tm 67) (Tm 67)),iM 12 68]
def PD:Rd:=[(iM 69 10,false),(iM 70 11,false),(iC 71 .sub 70 1,false),(iX 72 1 69 71,false),(iL 73 72,false),(iA 74 (.conv .u64 (Tm 73)),false),(iM 75 10,false),(iM 76 11,false),(iC 77 .sub 76 2,false),(iX 78 1 75 77,false),(iL 79 78,false),(iA 80 (.conv .u64 (Tm 79)),false),(iM 13 74,false),(iM 14 80,false)]
def PE:Rg:=[iM 81 12,iN 82 81,iC 83 .sub 82 1,iM 15 83]
def PG:Rg:=[iM 84 15,iC 85 .geq 84 0]
def zB:Rd:=[(iM 88 9,false),(iM 89 15,false),(iM 90 11,false),(iB 91 .add 89 90,false),(iX 92 1 88 91,false),(iL 93 92,false),(iA 94 (.conv .u64 (Tm 93)),false),(iA 95 (.bin .shl (Tm 94) (.const (.int .u64 32))),false),(iM 96 9,false),(iM 97 15,false),(iM 98 11,false),(iB 99 .add 97 98,false),(iC 100 .sub 99 1,false),(iX 101 1 96 100,false),(iL 102 101,false),(iA 103 (.conv .u64 (Tm 102)),false),(iB 104 .or 95 103,false),(iM 16 104,false)]
def zC:Rd:=[(iM 105 16,false),(iM 106 13,false),(iB 107 .quo 105 106,false),(iM 108 16,false),(iM 109 13,false),(iB 110 .rem 108 109,false),(iM 17 107,false),(iM 18 110,false)]
def PI:Rg:=[iM 111 17,iA 112 (.bin .geq (Tm 111) (.const (.int .u64 4294967296))),iM 113 112,iG 114 (.mv (Tm 17)) 113 false,iG 115 (.mv (Tm 14)) 113 false,iG 116 (.bin .mul (Tm 114) (Tm 115)) 113 false,iG 117 (.mv (Tm 18)) 113 false,iG 118 (.bin .shl (Tm 117) (.const (.int .u64 32))) 113 false,iG 119 (.mv (Tm 9)) 113 false,iG 120 (.mv (Tm 15)) 113 false,iG 121 (.mv (Tm 11)) 113 false,iG 122 (.bin .add (Tm 120) (Tm 121)) 113 false,iG 123 (.bin .sub (Tm 122) (Ci 2)) 113 false,iG 124 (.idxS 1 (Tm 119) (Tm 123)) 113 false,iG 125 (.load none (Tm 124)) 113 false,iG 126 (.conv .u64 (Tm 125)) 113 false,iG 127 (.bin .or (Tm 118) (Tm 126)) 113 false,iG 128 (.bin .gtr (Tm 116) (Tm 127)) 113 false,iA 129 (.pick (Tm 113) (.const (.bool true)) (Tm 128))]
def zD:Rg:=[iM 130 17,iA 131 (.bin .sub (Tm 130) (.const (.int .u64 1))),iM 17 131]
def zE:Rg:=[iM 132 18,iM 133 13,iB 134 .add 132 133,iM 18 134]
def zF:Rg:=[iM 135 18,iA 136 (.bin .geq (Tm 135) (.const (.int .u64 4294967296)))]
def rY:aD:=(.seq (.seq (.region PI) (.cond (Tm 129) .skip (.exit 4))) (.block 5 (.seq (.region zD) (.seq (.region zE) (.seq (.region zF) (.cond (Tm 136) (.exit 4) .skip))))))
def zG:Rg:=[iM 137 9,iM 138 15,iM 139 15,iM 140 11,iB 141 .add 139 140,iC 142 .add 141 1,iA 143 (.slice 1 (Tm 137) (some (Tm 138)) (some (Tm 142)) none),iM 144 10,iM 145 17,iA 146 (.call 142 [(Tm 143),(Tm 144),(Tm 145)])]
def zH:Rg:=[iM 147 17,iA 148 (.bin .sub (Tm 147) (.const (.int .u64 1))),iM 17 148]
def zI:Rg:=[iM 149 9,iM 150 15,iM 151 15,iM 152 11,iB 153 .add 151 152,iC 154 .add 153 1,iA 155 (.slice 1 (Tm 149) (some (Tm 150)) (some (Tm 154)) none),iM 156 10,iA 157 (.call 139 [(Tm 155),(Tm 156)])]
def rZ:Rg:=[iM 158 12,iM 159 15,iM 160 17,iA 161 (.conv .u32 (Tm 160)),iX 162 1 158 159,iS 1 162 161]
def PJ:Rg:=[iM 86 15,iC 87 .sub 86 1,iM 15 87]
def yZ:aD:=(.seq (.seq (.region PG) (.cond (Tm 85) .skip (.exit 2))) (.seq (.block 3 (.seq (.draw zB) (.seq (.draw zC) (.seq (.block 4 (.loop rY)) (.seq (.seq (.region zG) (.cond (Tm 146) (.seq (.region zH) (.region zI)) .skip)) (.region rZ)))))) (.region PJ)))
def zJ:Rg:=[iM 163 11,iA 164 (.mkslice 1 4 [(.int .u32 0)] (Tm 163) (Tm 163)),iM 19 164]
def zK:Rg:=[iM 165 19,iN 166 165,iI 167 0]
def PK:Rg:=[iB 168 .lss 167 166]
def PL:Rg:=[iM 169 167,iM 20 169]
def PN:Rd:=[(iM 170 19,false),(iM 171 20,false),(iM 172 9,false),(iM 173 20,false),(iC 174 .add 173 1,false),(iX 175 1 172 174,false),(iL 176 175,false),(iA 177 (.conv .u64 (Tm 176)),false),(iA 178 (.bin .shl (Tm 177) (.const (.int .u64 32))),false),(iM 179 9,false),(iM 180 20,false),(iX 181 1 179 180,false),(iL 182 181,false),(iA 183 (.conv .u64 (Tm 182)),false),(iB 184 .or 178 183,false),(iM 185 8,false),(iB 186 .shr 184 185,false),(iA 187 (.conv .u32 (Tm 186)),false),(iX 188 1 170 171,false),(iS 1 188 187,true)]
def PO:Rg:=[iC 189 .add 167 1,iM 167 189]
def zA:aD:=(.seq (.region PK) (.seq (.cond (Tm 168) .skip (.exit 6)) (.seq (.block 7 (.seq (.region PL) (.draw PN))) (.region PO))))
def PP:Rd:=[(iM 190 12,true),(iM 191 12,false),(iA 192 (.call 138 [(Tm 191)]),true),(iA 193 (.slice 1 (Tm 190) none (some (Tm 192)) none),true),(iM 194 19,true),(iM 195 19,true),(iA 196 (.call 138 [(Tm 195)]),true),(iA 197 (.slice 1 (Tm 194) none (some (Tm 196)) none),false),(iM 4 193,false),(iM 5 197,false)]
def vO:aD:=(.seq (.region YB) (.seq (.seq (.region YC) (.cond (Tm 24) (.seq (.region YD) .ret) .skip)) (.seq (.seq (.region YE) (.cond (Tm 29) (.seq (.region YF) (.seq (.region YG) .ret)) .skip)) (.seq (.region YH) (.seq (.block 0 (.loop YA)) (.seq (.draw PA) (.seq (.region PB) (.seq (.region PC) (.seq (.draw PD) (.seq (.seq (.region PE) (.block 2 (.loop yZ))) (.seq (.region zJ) (.seq (.seq (.region zK) (.block 6 (.loop zA))) (.seq (.draw PP) .ret)))))))))))))
def aLH:List Nat:=[]
def BE:bG:=⟨2,198,vO,[.tmp 4,.tmp 5]⟩
def JK:Rg:=[iA 6 (.mv (.const (.bool false)))]
def JL:Rg:=[iA 7 (.mv (.const (.int .u64 0))),iA 8 (.mv (.const (.int .u64 0)))]
def JM:Rg:=[iM 13 1,iN 14 13,iI 15 0]
def JN:Rg:=[iB 16 .lss 15 14]
def JO:Rg:=[iM 17 15,iX 18 1 13 15,iL 19 18,iM 9 17,iM 10 19]
def JP:Rg:=[iM 20 7,iM 21 2,iM 22 10,iA 23 (.conv .u64 (Tm 22)),iB 24 .mul 21 23,iB 25 .add 20 24,iM 7 25]
def JQ:Rg:=[iM 26 0,iM 27 9,iX 28 1 26 27,iL 29 28,iA 30 (.conv .u64 (Tm 29)),iM 31 7,iA 32 (.bin .and (Tm 31) (.const (.int .u64 4294967295))),iB 33 .sub 30 32,iM 34 8,iB 35 .sub 33 34,iM 11 35]
def JR:Rg:=[iM 36 0,iM 37 9,iM 38 11,iA 39 (.conv .u32 (Tm 38)),iX 40 1 36 37,iS 1 40 39]
def JS:Rg:=[iM 41 11,iA 42 (.bin .shr (Tm 41) (.const (.int .u64 63))),iM 8 42]
def JT:Rg:=[iM 43 7,iA 44 (.bin .shr (Tm 43) (.const (.int .u64 32))),iM 7 44]
def GP:Rg:=[iC 45 .add 15 1,iM 15 45]
def GO:aD:=(.seq (.region JN) (.seq (.cond (Tm 16) .skip (.exit 0)) (.seq (.block 1 (.seq (.region JO) (.seq (.region JP) (.seq (.region JQ) (.seq (.region JR) (.seq (.region JS) (.region JT))))))) (.region GP))))
def GQ:Rg:=[iM 46 0,iM 47 1,iN 48 47,iX 49 1 46 48,iL 50 49,iA 51 (.conv .u64 (Tm 50)),iM 52 7,iB 53 .sub 51 52,iM 54 8,iB 55 .sub 53 54,iM 12 55]
def GR:Rg:=[iM 56 0,iM 57 1,iN 58 57,iM 59 12,iA 60 (.conv .u32 (Tm 59)),iX 61 1 56 58,iS 1 61 60]
def GT:Rg:=[iM 62 12,iA 63 (.bin .shr (Tm 62) (.const (.int .u64 63))),iA 64 (.bin .eql (Tm 63) (.const (.int .u64 1))),iM 6 64]
def rH:aD:=(.seq (.region JK) (.seq (.region JL) (.seq (.seq (.region JM) (.block 0 (.loop GO))) (.seq (.region GQ) (.seq (.region GR) (.seq (.region GT) .ret))))))
def auZ:List Nat:=[]
def sU:bG:=⟨3,65,rH,[.tmp 6]⟩
def PR:Rg:=[iA 4 (.mv (.const (.int .u64 0)))]
def PS:Rg:=[iM 7 1,iN 8 7,iI 9 0]
def PT:Rg:=[iB 10 .lss 9 8]
def PU:Rg:=[iM 11 9,iX 12 1 7 9,iL 13 12,iM 5 11,iM 6 13]
def PW:Rg:=[iM 14 4,iM 15 0,iM 16 5,iX 17 1 15 16,iL 18 17,iA 19 (.conv .u64 (Tm 18)),iM 20 6,iA 21 (.conv .u64 (Tm 20)),iB 22 .add 19 21,iB 23 .add 14 22,iM 4 23]
def PX:Rg:=[iM 24 0,iM 25 5,iM 26 4,iA 27 (.conv .u32 (Tm 26)),iX 28 1 24 25,iS 1 28 27]
def PY:Rg:=[iM 29 4,iA 30 (.bin .shr (Tm 29) (.const (.int .u64 32))),iM 4 30]
def PZ:Rg:=[iC 31 .add 9 1,iM 9 31]
def PQ:aD:=(.seq (.region PT) (.seq (.cond (Tm 10) .skip (.exit 0)) (.seq (.block 1 (.seq (.region PU) (.seq (.region PW) (.seq (.region PX) (.region PY))))) (.region PZ))))
def QA:Rg:=[iM 32 0,iM 33 1,iN 34 33,iX 35 1 32 34,iL 36 35,iM 37 4,iA 38 (.conv .u32 (Tm 37)),iB 39 .add 36 38,iX 40 1 32 34,iS 1 40 39]
def tG:aD:=(.seq (.region PR) (.seq (.seq (.region PS) (.block 0 (.loop PQ))) (.region QA)))
def aAN:List Nat:=[]
def vP:bG:=⟨2,41,tG,[]⟩
end Go.PM
namespace Go.PM
open Go Go.RowKit Go.ChangeShapes Go.WideShapes
inductive AT where
 | one (ct:CT)
 | struct (cts:List CT)
 deriving Inhabited
def aII (P:Program) (n:Nat) (t:TypeId):Option AT :=
 match P.underlying t with
 | some .bool=>some (.one .bool)
 | some (.int k)=>some (.one (.int k))
 | some .string=>some (.one .str)
 | some (.slice _)=>match fY P n t with
  | some [ct]=>some (.one ct)
  | _=>none
 | some (.struct _)=>(fY P n t).map .struct
 | _=>none
def AR (P:Program) (n:Nat):List TypeId→Option (List AT)
 | []=>some []
 | t::ts=>match aII P n t,AR P n ts with
  | some a,some az=>some (a::az)
  | _,_=>none
inductive AT.Ty:AT→PV→Prop
 | one {ct:CT} {pv:PV} (h:PV.Ty ct pv):AT.Ty (.one ct) pv
 | struct {cts:List CT} {pvs:List PV} (hl:pvs.length=cts.length) (h:∀ (j:Nat) pv ct,pvs[j]?=some pv→cts[j]?=some ct→PV.Ty ct pv):AT.Ty (.struct cts) (.agg pvs)
def AT.TyL:List AT→List PV→Prop
 | [],[]=>True
 | a::az,p::ps=>AT.Ty a p∧AT.TyL az ps
 | _,_=>False
section
variable {H:Type} {enc:TypeId × Value→H} {P:Program} {W:World} {sp:Nat→Bool} {held:Bool}
theorem a4I {r:Reach} {base:Nat} (num:Nat→FuncId) {t:TypeId} {v:Value} {d:DataW H} {ps:List MemPlace} {n:Nat} {a:AT}
  (hval:Value.okWide P W r base t v) (hd:DataW.Trod enc P W 0 sp held t v d ps) (ha:aII P n t=some a):∃ pv,aT (Env.of W num) pv v∧AT.Ty a pv:=by
 unfold aII at ha
 cases n with
 | zero =>
  split at ha
  ·rename_i hu
   cases ha
   obtain⟨b,rfl⟩:=okWide_bool hu hval
   obtain⟨pv,h1,h2⟩:=qZ (n:=1) (ct:=.bool) num (by simp[Value.cells]) hd (by simp[fY,hu])
   exact⟨pv,h1,.one h2⟩
  ·rename_i k hu
   cases ha
   obtain⟨b,rfl⟩:=okWide_int hu hval
   obtain⟨pv,h1,h2⟩:=qZ (n:=1) (ct:=.int k) num (by simp[Value.cells]) hd (by simp[fY,hu])
   exact⟨pv,h1,.one h2⟩
  ·rename_i hu
   cases ha
   obtain⟨b,rfl⟩:=okWide_string hu hval
   obtain⟨pv,h1,h2⟩:=qZ (n:=1) (ct:=.str) num (by simp[Value.cells]) hd (by simp[fY,hu])
   exact⟨pv,h1,.one h2⟩
  ·simp[fY] at ha
  ·simp[fY] at ha
  ·cases ha
 | succ n =>
  split at ha
  ·rename_i hu
   cases ha
   obtain⟨b,rfl⟩:=okWide_bool hu hval
   obtain⟨pv,h1,h2⟩:=qZ (n:=n+1) (ct:=.bool) num (by simp[Value.cells]) hd (by simp[fY,hu])
   exact⟨pv,h1,.one h2⟩
  ·rename_i k hu
   cases ha
   obtain⟨b,rfl⟩:=okWide_int hu hval
   obtain⟨pv,h1,h2⟩:=qZ (n:=n+1) (ct:=.int k) num (by simp[Value.cells]) hd (by simp[fY,hu])
   exact⟨pv,h1,.one h2⟩
  ·rename_i hu
   cases ha
   obtain⟨b,rfl⟩:=okWide_string hu hval
   obtain⟨pv,h1,h2⟩:=qZ (n:=n+1) (ct:=.str) num (by simp[Value.cells]) hd (by simp[fY,hu])
   exact⟨pv,h1,.one h2⟩
  ·rename_i e hu
   split at ha
   ·rename_i ct hc
    cases ha
    obtain⟨x,len,cap,rfl⟩:=okWide_slice hu hval
    obtain⟨pv,h1,h2⟩:=qZ num (by simp[Value.cells]) hd hc
    exact⟨pv,h1,.one h2⟩
   ·cases ha
  ·rename_i fs hu
   rw[bgZ] at ha
   obtain⟨cts,hc,rfl⟩:=ha
   obtain⟨pvs,h1,h2,h3⟩:=aIJ num hu hval hd hc
   exact⟨_,h1,.struct h2 h3⟩
  ·cases ha
theorem aBB {r:Reach} {base:Nat} (num:Nat→FuncId) {n:Nat}:∀ {ts:List TypeId} {vs:List Value} {ds:List (DataW H)} {ps:List MemPlace} {az:List AT},DataW.TrodAll enc P W 0 sp held ts vs ds ps →
  (∀ (j:Nat) t v,ts[j]?=some t→vs[j]?=some v→Value.okWide P W r base t v)→AR P n ts=some az→∃ pvs,eI (Env.of W num) pvs vs∧AT.TyL az pvs
 | [],[],_,_,az,_,_,h=>by
  simp[AR] at h
  subst h
  exact⟨[],.nil,trivial⟩
 | [],_::_,_,_,_,h,_,_=>h.elim
 | _::_,[],[],_,_,h,_,_=>h.elim
 | _::_,[],_::_,_,_,h,_,_=>h.elim
 | _::_,_::_,[],_,_,h,_,_=>h.elim
 | t::ts,v::vs,d::ds,ps,az,h,hv,ha=>by
  obtain⟨p,q,h1,h2,rfl⟩:=h
  simp only[AR] at ha
  split at ha
  ·rename_i a as' e1 e2
   cases ha
   obtain⟨pv,r1,t1⟩:=a4I num (hv 0 t v rfl rfl) h1 e1
   obtain⟨pvs,r2,t2⟩:=aBB num h2 (fun j t v a b=>hv (j+1) t v (by simpa using a) (by simpa using b)) e2
   exact⟨pv::pvs,.cons r1 r2,t1,t2⟩
  ·cases ha
theorem TrodAll.length:∀ {ts:List TypeId} {vs:List Value} {ds:List (DataW H)} {ps:List MemPlace},DataW.TrodAll enc P W 0 sp held ts vs ds ps→ds.length=ts.length
 | [],[],[],_,_=>rfl
 | [],[],_::_,_,h=>h.elim
 | [],_::_,_,_,h=>h.elim
 | _::_,[],[],_,h=>h.elim
 | _::_,[],_::_,_,h=>h.elim
 | _::_,_::_,[],_,h=>h.elim
 | t::ts,v::vs,d::ds,ps,h=>by
  obtain⟨p,q,h1,h2,rfl⟩:=h
  simp[TrodAll.length h2]
end
theorem amN {H:Type} {enc:TypeId × Value→H} {P:Program} {f:FuncId} {fn:Func} {s:ChangeSpec} {apart fresh handsOn:Bool} {bt:TypeId} {num:Nat→FuncId} {name n:Nat} {ats:List AT}
  (hl:laidOutB P=true) (hts:fn.params.toList.all (fun t=>P.readableRec t&&decide (t<P.types.size))=true) (hrt:fn.resultTypes=#[bt]) (hbt:P.underlying bt=some .bool) (hv:s.vars=[])
  (hs:∀ ds:List (DataW H),ds.length=fn.params.toList.length→(s.fn H ds).results=[.lit (.bool true)]∧(s.fn H ds).args=ds∧(s.fn H ds).vars=[])
  (hnum:num name=f) (ha:AR P n fn.params.toList=some ats) (h:∀ pvs,AT.TyL ats pvs→aJ ⟨P,num⟩ name pvs PH.nil (aL (.bool true)))
  {W:World} {base:Nat} {args:Array Value} {ds gs:List (DataW H)} {before:List MemPlace}
  (hval:∀ (j:Nat) t v,fn.params[j]?=some t→args[j]?=some v→Value.okWide P W .any base t v) (hW:DataW.Whole enc P fn.params.toList s.vars apart W args.toList ds gs before) :
  Calls P f args W fun e W'=>∃ v,e=.returned v∧s.post enc P fn apart fresh handsOn false W args v W':=by
 have hts':∀ t∈fn.params.toList,P.readableRec t=true∧t<P.types.size:=fun t ht=>by
  have:=bhW.1 hts t ht
  simpa using this
 have hW':=hW
 obtain⟨p,q,hA,hV,rfl,hz,hn⟩:=hW
 rw[hv] at hV
 obtain⟨rfl,rfl⟩:=trodVars_none hV
 obtain⟨pvs,hr,ht⟩:=aBB num hA (fun j t v a b=>hval j t v (by simpa using a) (by simpa using b)) ha
 have hlen:=TrodAll.length hA
 subst hnum
 obtain⟨r1,r2,r3⟩:=hs (ds++[]) (by simpa using hlen)
 refine (aOJ (C:=⟨P,num⟩) (h pvs ht) hr).mono fun e W' he=>?_
 obtain⟨rfl,hb⟩:=he
 exact⟨_,rfl,aQS hl hW' hb hts' hrt hbt hv r1 (by rw[r2]; simp) r3⟩
end Go.PM
namespace Go.PM
open Go
attribute [go_sem] mW fQ setCells PV.cells PV.one bQ storeAt cJ loadCells dK bnd PV.slice PV.intOf PV.eqs PV.eq1 PV.un keyOf KS.of KS.ofs KS.sh List.all_cons List.all_nil List.set_cons_zero List.set_cons_succ bhP bjD bhG biF bhW Bool.and_self
attribute [go_sem] Bool.bne_false Bool.bne_true Int.le_refl Int.lt_irrefl decide_true decide_false exists_eq_left exists_eq_left' bgT List.length_replicate bjT Int.natCast_nonneg Option.isSome_some Option.isSome_none bjP Option.getD_none decide_eq_true_eq decide_eq_false_iff_not bhS biP bgX Nat.sub_zero
def cL (xs:List Int):List (List PV):=xs.map fun n=>[.int .i64 n]
theorem bF {a b:Int} (h:a≠b):(a==b)=false:=by simp[h]
theorem bS {a b:Int} (h:a=b):(a==b)=true:=by simp[h]
theorem eC {a b:Int} (h:a≠b):(a != b)=true:=by simp[h]
theorem cP {a b:Int} (h:a=b):(a != b)=false:=by simp[h]
section
variable {H:PH}
@[go_sem] theorem PH.set_set (o:Nat) (x y:bV):(H.set o x).set o y=H.set o y:=PH.ext fun q=>by
 simp only[aV]; split<;>rfl
@[go_sem] theorem fS (o:Nat) (x:bV):(H.set o x) o=some x:=by simp only[aV,if_true]
end
end Go.PM
namespace Go.PM
open Go
section
variable {C:Ctx} {K:bZ} {F:PF} {H:PH}
theorem PH.kU (o:Nat) (x:bV):H.over .nil (PH.nil.set o x)=H.set o x:=PH.ext fun q=>by
 rw[lO]; simp only[aV,abS]; split<;>simp_all
theorem PH.qP (o:Nat) (x y:bV):H.over (PH.nil.set o x) (PH.nil.set o y)=H.set o y:=PH.ext fun q=>by
 rw[lO]; simp only[aV,abS]; split<;>simp_all
theorem lH {name:Nat} {vs:List PV} {H0:PH} {R:PV→PH→Prop} {args:List aN} {d:Option Nat} {K:PF→PH→Prop} (h:aJ C name vs H0 R) (ha:aN.evs F args=some vs) (hle:H0.le H)
  (hk:∀ r H',R r H'→jW H H0 H'→K (F.put d r) (H.over H0 H')):gC C name args [] d K F H :=
 .inl ⟨vs,H0,R,by rw[ha]; simp,hle,h,hk⟩
theorem aW {res:List dD} {R:PV→PH→Prop} {vs:List PV} {e:kJ} (he:e=.normal∨e=.ret) (H0:PH) (h:dD.evs F H res=some vs) (hle:H0.le H) (hR:R (cN vs) H0):aY res R e F H:=by
 have key:∃ vs,dD.evs F H res=some vs∧∃ F1 H1 H2,gS (PF.nil.set 0 (cN vs)) H F1 H1∧H2.le H1∧∃ u,F1 0=some u∧R u H2 :=
  ⟨vs,h,_,H,H0,.refl _ _,hle,cN vs,by rw[kW,if_pos rfl],hR⟩
 rcases he with rfl | rfl<;>exact key
theorem avU {t o s k:Nat} {rs:List (List PV)} {R:PV→PH→Prop} {e:kJ} (he:e=.normal∨e=.ret) (h:F t=some (.osl o s 0 k)) (ho:H o=some (.rows s rs)) (hk:k≤rs.length) (hR:R (.sl s (rs.take k)) .nil) :
  aY [.tmp t] R e F H:=by
 have key:∃ vs,dD.evs F H [.tmp t]=some vs∧∃ F1 H1 H2,gS (PF.nil.set 0 (cN vs)) H F1 H1∧H2.le H1∧∃ u,F1 0=some u∧R u H2:=by
  refine⟨[.osl o s 0 k],by rw[jO,lP,h,nG],_,_,.nil,.step o ho (.refl _ _),PH.nil_le,.sl s (rs.take k),?_,hR⟩
  have:0+k≤rs.length:=by omega
  simp only[PF.frz,kW,if_true,cN,biD,PV.frz,PV.qA,PV.cX,true_and,if_pos this,bhV]
 rcases he with rfl | rfl<;>exact key
def bY (v:PV) (r:PV) (H:PH):Prop:=Co r v∧H=PH.nil
theorem wG {s b:Nat} {y:PV} {src:List (List PV)} {K:PV→PH→Prop} (hy:dK H s y=some src) (hr:roomFor 0 src.length b) (h0:src=[]→K .nils H)
  (h1:src≠[]→∀ o,H o=none→K (.osl o s 0 src.length) (H.set o (.rows s src))):mQ H s b .nils y K:=⟨src,hy,hr,h0,h1⟩
theorem azT {o s b len:Nat} {rs:List (List PV)} {y:PV} {src:List (List PV)} {K:PV→PH→Prop} (hy:dK H s y=some src) (hr:roomFor len src.length b) (ho:H o=some (.rows s rs)) (hl:len≤rs.length)
  (h0:K (.osl o s 0 (len+src.length)) (H.set o (.rows s (rs.take len++src))))
  (h1:∀ o',H o'=none→K (.osl o' s 0 (len+src.length)) ((H.set o .dead).set o' (.rows s (rs.take len++src)))):mQ H s b (.osl o s 0 len) y K :=
 ⟨src,hy,rfl,rfl,hr,rs,ho,hl,h0,h1⟩
end
end Go.PM
namespace Go.PM
open Go
def bB (H:PH) (s:Nat) (v:PV) (rows:List (List PV)):Prop :=
 (rows=[]∧v=.nils)∨∃ q rs,v=.osl q s 0 rows.length∧H q=some (.rows s rs)∧rows.length≤rs.length∧rs.take rows.length=rows
def Seen (s:Nat) (v:PV) (rows:List (List PV)):Prop:=(rows=[]∧v=.nils)∨v=.sl s rows
section
variable {C:Ctx} {K:bZ} {F:PF} {H:PH} {s b:Nat} {v y:PV} {rows src:List (List PV)}
theorem bB.nil:bB H s .nils []:=.inl ⟨rfl,rfl⟩
theorem bB.view (h:bB H s v rows):dK H s v=some rows:=by
 rcases h with ⟨rfl,rfl⟩ | ⟨q,rs,rfl,h1,h2,h3⟩
 ·rfl
 ·have:0+rows.length≤rs.length:=by omega
  simp only[dK,if_true,h1,true_and,if_pos this,bhV,h3]
theorem Seen.view (h:Seen s v rows):dK H s v=some rows:=by
 rcases h with ⟨rfl,rfl⟩ | rfl
 ·rfl
 ·simp[dK]
theorem bB.ext {H':PH} (h:bB H s v rows) (hk:∀ o x,H o=some x→H' o=some x):bB H' s v rows:=by
 rcases h with h | ⟨q,rs,h0,h1,h2,h3⟩
 ·exact .inl h
 ·exact .inr ⟨q,rs,h0,hk q _ h1,h2,h3⟩
theorem fC {K:PV→PH→Prop} (h:bB H s v rows) (hy:dK H s y=some src) (hr:roomFor rows.length src.length b)
  (hk:∀ v' H',bB H' s v' (rows++src)→(∀ o x,H o=some x→(∀ l,v≠.osl o s 0 l)→H' o=some x)→K v' H'):mQ H s b v y K:=by
 rcases h with ⟨rfl,rfl⟩ | ⟨q,rs,rfl,h1,h2,h3⟩
 ·refine⟨src,hy,hr,fun e=>?_,fun e o ho=>?_⟩
  ·subst e
   exact hk _ _ (.inl ⟨rfl,rfl⟩) fun o x ho _=>ho
  ·refine hk _ _ (.inr ⟨o,src,rfl,by simp only[aV,if_true],bgX _,by simp⟩) fun o' x ho' _=>?_
   have:o'≠o:=by rintro rfl; rw[ho] at ho'; cases ho'
   simp only[aV,if_neg this,ho']
 ·have hlen:(rows++src).length=rows.length+src.length:=bgW
  refine⟨src,hy,rfl,rfl,hr,rs,h1,h2,?_,fun o ho=>?_⟩
  ·rw[h3]
   refine hk _ _ (.inr ⟨q,rows++src,by rw[hlen],by simp only[aV,if_true],bgX _,bhZ⟩) fun o' x ho' hne=>?_
   have:o'≠q:=by rintro rfl; exact hne _ rfl
   simp only[aV,if_neg this,ho']
  ·rw[h3]
   refine hk _ _ (.inr ⟨o,rows++src,by rw[hlen],by simp only[aV,if_true],bgX _,bhZ⟩) fun o' x ho' hne=>?_
   have h5:o'≠q:=by rintro rfl; exact hne _ rfl
   have h6:o'≠o:=by rintro rfl; rw[ho] at ho'; cases ho'
   simp only[aV,if_neg h5,if_neg h6,ho']
def Pure (u:PV):Prop:=∀ q s rs,PV.frz q s rs u=u
theorem bB.frz (h:bB H s v rows):∃ v1,Seen s v1 rows∧∀ F:PF,∃ F1 H1,gS F H F1 H1∧(∀ t,F t=some v→F1 t=some v1)∧∀ i u,F i=some u→Pure u→F1 i=some u:=by
 rcases h with ⟨rfl,rfl⟩ | ⟨q,rs,rfl,h1,h2,h3⟩
 ·exact⟨.nils,.inl ⟨rfl,rfl⟩,fun F=>⟨F,H,.refl _ _,fun t h=>h,fun i u h _=>h⟩⟩
 ·refine⟨.sl s rows,.inr rfl,fun F=>⟨_,_,.step q h1 (.refl _ _),fun t ht=>?_,fun i u hi hp=>?_⟩⟩
  ·have:0+rows.length≤rs.length:=by omega
   simp only[PF.frz,ht,biD,PV.frz,PV.qA,PV.cX,if_true,true_and,if_pos this,bhV,h3]
  ·simp only[PF.frz,hi,biD]
   rw[hp]
theorem nF {t:Nat} {e:kJ} (he:e=.normal∨e=.ret) (h:bB H s v rows) (ht:F t=some v):aY [.tmp t] (bY (.sl s rows)) e F H:=by
 rcases h with ⟨rfl,rfl⟩ | ⟨q,rs,rfl,h1,h2,h3⟩
 ·exact aW (vs:=[.nils]) he .nil (by rw[jO,lP,ht,nG]) PH.nil_le ⟨.nil s,rfl⟩
 ·exact avU he ht h1 h2 ⟨by rw[h3]; exact .refl _,rfl⟩
end
end Go.PM
namespace Go.PM
open Go
section
variable {C:Ctx} {F:PF} {H:PH}
@[go_sem] theorem qB (o s:Nat) (rs:List (List PV)) (i:Nat):(F.frz o s rs) i=(F i).map (PV.frz o s rs):=rfl
theorem nL {name t o s k:Nat} {rs:List (List PV)} {v:PV} {d:Option Nat} {K:PF→PH→Prop} (h:aJ C name [.sl s (rs.take k)] .nil (aL v)) (ht:F t=some (.osl o s 0 k)) (ho:H o=some (.rows s rs)) (hk:k≤rs.length)
  (hK:K ((F.frz o s rs).put d v) (H.frz o s rs)):gC C name [.tmp t] [] d K F H:=by
 refine .inr ⟨_,_,.step o ho (.refl _ _),[.sl s (rs.take k)],.nil,aL v,?_,PH.nil_le,h,?_⟩
 ·have:0+k≤rs.length:=by omega
  simp only[uZ,MM,UY,qB,ht,biD,PV.frz,PV.qA,PV.cX,if_true,true_and,if_pos this,bhV,biN]
 ·rintro r H' ⟨rfl,rfl⟩ -
  rw[PH.vS]
  exact hK
end
end Go.PM
namespace Go.Na
def val:List Nat→Nat
 | []=>0
 | x::xs=>x+4294967296*val xs
def Lim (xs:List Nat):Prop:=∀ x∈xs,x<4294967296
def aH (n:Nat):List Nat:=if h:n=0 then [] else (n%4294967296)::aH (n/4294967296)
termination_by n
decreasing_by exact Nat.div_lt_self (bjF h) (by decide)
def nl (n:Nat):Nat:=(aH n).length
theorem eY:aH 0=[]:=by rw[aH]; simp
theorem oZ {n:Nat} (h:n≠0):aH n=(n%4294967296)::aH (n/4294967296):=by rw[aH]; simp[h]
theorem lM {n:Nat} (h:n≠0) (hb:n<4294967296):aH n=[n]:=by
 rw[oZ h,bhX hb,bjW hb,eY]
theorem aX (n:Nat):val (aH n)=n:=by
 induction n using Nat.strongRecOn with
 | _ n ih =>
  by_cases h:n=0
  ·subst h; rw[eY]; rfl
  ·rw[oZ h,val,ih _ (Nat.div_lt_self (bjF h) (by decide))]
   exact Nat.mod_add_div n 4294967296
theorem bD (n:Nat):Lim (aH n):=by
 induction n using Nat.strongRecOn with
 | _ n ih =>
  by_cases h:n=0
  ·subst h; rw[eY]; intro x hx; cases hx
  ·rw[oZ h]
   intro x hx
   rw[bhF] at hx
   rcases hx with rfl | hx
   ·exact biB _ (by decide)
   ·exact ih _ (Nat.div_lt_self (bjF h) (by decide)) x hx
theorem uT:nl 0=0:=by rw[nl,eY]; rfl
theorem aPU {n:Nat} (h:n≠0):nl n=nl (n/4294967296)+1:=by rw[nl,oZ h]; rfl
theorem gQ (n k:Nat):nl n≤k↔n<4294967296 ^ k:=by
 induction k generalizing n with
 | zero =>
  by_cases h:n=0
  ·subst h; simp[uT]
  ·rw[aPU h]; simp; omega
 | succ k ih =>
  by_cases h:n=0
  ·subst h; simp[uT,bjG]
  ·rw[aPU h,Nat.succ_le_succ_iff,ih,biJ,bjL (by decide)]
theorem iV {n:Nat}:nl n=0↔n=0:=by
 have:=gQ n 0
 simp at this
 exact this
theorem fA (xs ys:List Nat):val (xs++ys)=val xs+4294967296 ^ xs.length*val ys:=by
 induction xs with
 | nil=>simp[val]
 | cons x xs ih =>
  simp only[List.cons_append,val,bjJ,ih,biJ]
  rw[bhD,biW,← bhL,bhR 4294967296 (4294967296 ^ xs.length)]
theorem eG {xs:List Nat} (h:Lim xs):val xs<4294967296 ^ xs.length:=by
 induction xs with
 | nil=>simp[val]
 | cons x xs ih =>
  have h1:=h x (by simp)
  have h2:=ih fun y hy=>h y (by simp[hy])
  simp only[val,bjJ,biJ]
  have:4294967296*(val xs+1)≤4294967296*4294967296 ^ xs.length:=biX _ h2
  rw[bhD,Nat.mul_one] at this
  rw[bhR (4294967296 ^ xs.length)]
  omega
theorem Lim.app {xs ys:List Nat} (h:Lim xs) (k:Lim ys):Lim (xs++ys):=fun x hx=>by
 rw[biO] at hx
 exact hx.elim (h x) (k x)
theorem Lim.take {xs:List Nat} (h:Lim xs) (n:Nat):Lim (xs.take n):=fun x hx=>h x (List.mem_of_mem_take hx)
theorem Lim.drop {xs:List Nat} (h:Lim xs) (n:Nat):Lim (xs.drop n):=fun x hx=>h x (List.mem_of_mem_drop hx)
theorem Lim.set {xs:List Nat} (h:Lim xs) (i:Nat) {v:Nat} (hv:v<4294967296):Lim (xs.set i v):=fun x hx=>by
 rcases List.mem_or_eq_of_mem_set hx with h1 | h1
 ·exact h x h1
 ·subst h1; exact hv
theorem sQ (n:Nat):Lim (bgV n 0):=fun x hx=>by
 rw[List.mem_replicate] at hx; rw[hx.2]; decide
theorem pI (n:Nat):val (bgV n 0)=0:=by
 induction n with
 | zero=>rfl
 | succ n ih=>simp[List.replicate_succ,val,ih]
theorem aOP {xs:List Nat} (h:Lim xs) (hl:∀ x,xs.getLast?=some x→x≠0):aH (val xs)=xs:=by
 induction xs with
 | nil=>simp[val,eY]
 | cons x xs ih =>
  have hx:=h x (by simp)
  have hxs:Lim xs:=fun y hy=>h y (by simp[hy])
  cases xs with
  | nil =>
   have:=hl x (by simp)
   simp only[val,Nat.mul_zero,biP]
   exact lM this hx
  | cons y ys =>
   have ih':=ih hxs fun z hz=>hl z (by rw[List.getLast?_cons_cons]; exact hz)
   have h0:val (y::ys)≠0:=fun e=>by rw[e,eY] at ih'; cases ih'
   have hne:x+4294967296*val (y::ys)≠0:=by
    have:0<4294967296*val (y::ys):=Nat.mul_pos (by decide) (bjF h0)
    omega
   show aH (x+4294967296*val (y::ys))=_
   rw[oZ hne]
   have e1:(x+4294967296*val (y::ys))%4294967296=x:=by rw[Nat.add_mul_mod_self_left,bhX hx]
   have e2:(x+4294967296*val (y::ys))/4294967296=val (y::ys):=by rw[Nat.add_mul_div_left _ _ (by decide),bjW hx,bhS]
   rw[e1,e2,ih']
theorem azJ {xs:List Nat} {n:Nat} (h:∀ j x,n≤j→xs[j]?=some x→x=0):val (xs.take n)=val xs:=by
 have e:xs.drop n=bgV (xs.drop n).length 0:=by
  apply bjH (by simp)
  intro i h1 h2
  rw[List.getElem_replicate,List.getElem_drop]
  exact h (n+i) _ (by omega) (bhH _)
 conv=>rhs; rw[← bjE n xs,fA,e,pI]
 simp
theorem FB {xs:List Nat} (hx:Lim xs) {n:Nat} (hn:n≤xs.length) (h:∀ j x,n≤j→xs[j]?=some x→x=0) (h0:∀ x,0<n→xs[n-1]?=some x→x≠0):xs.take n=aH (val xs):=by
 rw[← azJ h,aOP (hx.take n)]
 intro x hl
 rw[List.getLast?_eq_getElem?,bhJ,biT hn] at hl
 rcases bjA n with e | e
 ·subst e; simp at hl
 ·rw[List.getElem?_take_of_lt (by omega)] at hl
  exact h0 x e hl
theorem aGW {xs:List Nat} (hx:Lim xs) {n:Nat} (hn:n≤xs.length) (h:∀ j x,n≤j→xs[j]?=some x→x=0) (h0:∀ x,0<n→xs[n-1]?=some x→x≠0):nl (val xs)=n:=by
 rw[nl,← FB hx hn h h0,bhJ]; omega
theorem eP {xs:List Nat} (h:Lim xs):nl (val xs)≤xs.length:=(gQ _ _).2 (eG h)
theorem iJ {xs : List Nat} (h : Lim xs) : xs.take (nl (val xs)) = aH (val xs) := by
  have hl := eP h
  have e : val (xs.take (nl (val xs)) ++ xs.drop (nl (val xs))) = val xs := by rw [bjE]
  rw [fA, bhJ, biT hl] at e
  have h1 := eG (h.take (nl (val xs)))
  rw [bhJ, biT hl] at h1
  have h2 := (gQ (val xs) (nl (val xs))).1 (bgX _)
  have hd : val (xs.drop (nl (val xs))) = 0 := by
    rcases bjA (val (xs.drop (nl (val xs)))) with h | h
    · exact h
    · have := biX (4294967296 ^ nl (val xs)) h
      omega
  have hz : ∀ j x, nl (val xs) ≤ j → xs[j]? = some x → x = 0 := by
    have zero : ∀ ys : List Nat, val ys = 0 → ∀ y ∈ ys, y = 0 := by
      intro ys
      induction ys with
      | nil => intro _ y hy; cases hy
      | cons z zs ih =>
        intro hv y hy
        simp only [val] at hv
        rw [bhF] at hy
        rcases hy with rfl | hy
        · omega
        · exact ih (by have : 4294967296 * val zs = 0 := by omega
                       rcases Nat.mul_eq_zero.1 this with h | h
                       · cases h
                       · exact h) y hy
    intro j x hj hx
    refine zero _ hd x ?_
    rw [List.mem_iff_getElem?]
    exact ⟨j - nl (val xs), by rw [List.getElem?_drop, Nat.add_sub_cancel' hj]; exact hx⟩
  refine FB h hl hz fun x hpos hx e => ?_
  subst e
  have hz2 : ∀ j x, nl (val xs) - 1 ≤ j → xs[j]? = some x → x = 0 := fun j y hj hy => by
    rcases bhK j (nl (val xs)) with h3 | h3
    · have : j = nl (val xs) - 1 := by omega
      subst this; rw [hx] at hy; cases hy; rfl
    · exact hz j y h3 hy
  have h3 := azJ hz2
  have h4 := eG (h.take (nl (val xs) - 1))
  rw [h3, bhJ, biT (by omega)] at h4
  have := (gQ (val xs) (nl (val xs) - 1)).2 h4
  omega
theorem awQ {xs:List Nat} (h:Lim xs) {n:Nat} (hn:nl (val xs)=n+1):∃ x,xs[n]?=some x∧x≠0:=by
 have hl:=eP h
 refine⟨xs[n]'(by omega),bhH _,fun e=>?_⟩
 have e1:=iJ h
 have hv:=aX (val xs)
 rw[← e1,hn,biZ (by omega),e,fA] at hv
 simp only[val,Nat.mul_zero,biP] at hv
 have h4:=eG (h.take n)
 rw[hv,bhJ,biT (by omega)] at h4
 have:=(gQ (val xs) n).2 h4
 omega
theorem pF (xs:List Nat) {k:Nat} (h:k<xs.length):val xs=val (xs.take k)+4294967296 ^ k*(xs[k]+4294967296*val (xs.drop (k+1))):=by
 conv=>lhs; rw[← bjE k xs,fA,bhJ,biT (by omega),biQ h]
 rfl
theorem UW {xs ys:List Nat} (hx:Lim xs) {k:Nat} (h1:k<xs.length) (h2:k<ys.length) (hd:xs.drop (k+1)=ys.drop (k+1)) (h:xs[k]<ys[k]):val xs<val ys:=by
 rw[pF xs h1,pF ys h2,hd]
 have h3:=eG (hx.take k)
 rw[bhJ,biT (by omega)] at h3
 have h4:4294967296 ^ k*(xs[k]+4294967296*val (ys.drop (k+1))+1)≤4294967296 ^ k*(ys[k]+4294967296*val (ys.drop (k+1))):=biX _ (by omega)
 rw[bhD _ _ 1,Nat.mul_one] at h4
 omega
def dE (a b:Nat):Int:=if a<b then -1 else if b<a then 1 else 0
theorem adM {xs ys:List Nat} {k:Nat} (h1:k<xs.length) (h2:k<ys.length) (hd:xs.drop (k+1)=ys.drop (k+1)) (h:xs[k]=ys[k]):xs.drop k=ys.drop k:=by
 rw[biQ h1,biQ h2,hd,h]
theorem gN {a b:Nat} (h:a≤b):nl a≤nl b:=(gQ a _).2 (Nat.lt_of_le_of_lt h ((gQ b _).1 (bgX _)))
theorem amJ {xs:List Nat} (h:Lim xs) {j:Nat} (hj:j<nl (val xs)):∃ (h1:j<xs.length) (h2:j<(aH (val xs)).length),xs[j]=(aH (val xs))[j]:=by
 have hl:=eP h
 refine⟨by omega,hj,?_⟩
 have e:=iJ h
 have:(xs.take (nl (val xs)))[j]?=(aH (val xs))[j]?:=by rw[e]
 rw[List.getElem?_take_of_lt hj,bhH (by omega),bhH hj] at this
 exact biY.inj this
def cB (n:Nat):Nat:=if h:n=0 then 0 else cB (n/2)+1
termination_by n
decreasing_by exact Nat.div_lt_self (bjF h) (by decide)
theorem jA:cB 0=0:=by rw[cB]; simp
theorem oI {n:Nat} (h:n≠0):cB n=cB (n/2)+1:=by rw[cB]; simp[h]
theorem jU (n k:Nat):cB n≤k↔n<2 ^ k:=by
 induction k generalizing n with
 | zero =>
  by_cases h:n=0
  ·subst h; simp[jA]
  ·rw[oI h]; simp; omega
 | succ k ih =>
  by_cases h:n=0
  ·subst h; simp[jA,bjG]
  ·rw[oI h,Nat.succ_le_succ_iff,ih,biJ,bjL (by decide)]
theorem gU {n:Nat}:cB n=0↔n=0:=by
 have:=jU n 0
 simp at this
 exact this
theorem amK {hi lo k:Nat} (hl:lo<2 ^ k) (hh:hi≠0):cB (lo+2 ^ k*hi)=k+cB hi:=by
 apply Nat.le_antisymm
 ·rw[jU,Nat.pow_add]
  have h1:=(jU hi _).1 (bgX _)
  have:2 ^ k*(hi+1)≤2 ^ k*2 ^ cB hi:=biX _ h1
  rw[bhD,Nat.mul_one] at this
  omega
 ·obtain⟨b,hb⟩:∃ b,cB hi=b+1:=⟨cB hi-1,by have:=mt gU.1 hh; omega⟩
  rw[hb]
  rcases bhK (cB (lo+2 ^ k*hi)) (k+(b+1)) with h | h
  ·have h1:=(jU (lo+2 ^ k*hi) (k+b)).1 (by omega)
   rw[Nat.pow_add] at h1
   have h2:¬ hi<2 ^ b:=fun h=>by have:=(jU hi b).2 h; omega
   have:2 ^ k*2 ^ b≤2 ^ k*hi:=biX _ (by omega)
   omega
  ·exact h
theorem uL (n k:Nat):cB n≤32*k↔nl n≤k:=by
 rw[jU,gQ,Nat.pow_mul]
end Go.Na
namespace Go.PM
open Go Go.Na
abbrev aE (xs:List Nat):List (List PV):=xs.map fun (n:Nat)=>[PV.int .u32 (n:Int)]
abbrev aF (xs:List Nat):PV:=.sl 1 (xs.map fun (n:Nat)=>[PV.int .u32 (n:Int)])
theorem bP (xs:List Nat):(aE xs).length=xs.length:=by simp
theorem bJ (xs:List Nat) {i:Nat} (h:i<xs.length):(aE xs)[i]?=some [.int .u32 (xs[i]:Nat)]:=by simp[h]
theorem afU (xs:List Nat) (k:Nat):aF (xs.take k)=.sl 1 ((xs.map fun (n:Nat)=>[PV.int .u32 (n:Int)]).take k):=by rw[aF,List.map_take]
theorem bX (n:Nat):IntKind.u32.wrap (n:Int)=((n%4294967296:Nat):Int):=by
 have e:IntKind.u32.wrap (n:Int)=(n:Int)%4294967296:=by simp[IntKind.wrap,IntKind.bits,IntKind.signed]
 rw[e]; rfl
theorem tB {k:Nat} (h:k≤9223372036854775807) (h0:0<k):IntKind.i64.wrap ((k:Int)-1)=((k-1:Nat):Int):=by
 rw[wrap_i64 (by omega) (by omega)]; omega
def aLJ (xs:List Nat) (n:Nat):PF:=((PF.nil.set 0 (aF xs)).set 3 (.int .i64 n))
theorem aLL {C:Ctx} (xs:List Nat) (hx:Lim xs) (hl:xs.length≤16777216):mM.wp C (aY rG.res (aL (.int .i64 (nl (val xs):Nat)))) (PF.args [aF xs]) .nil:=by
 simp -implicitDefEqProofs only[go_sem,γ,reduceCtorEq,mM,EG,EH,rG]
 refine wp_loop (α:=Nat) (aLJ xs) (fun _=>.nil) (fun n=>n≤xs.length∧∀ j x,n≤j→xs[j]?=some x→x=0) (fun n=>n) xs.length ⟨bgX _,fun j x h e=>by rw[biE h] at e; cases e⟩ ?_ PH.nil_le ?_
 ·unfold aLJ
  (repeat' (first|exact PF.nil_le|refine PF.aA ?_ ?_))<;>first|(simp -implicitDefEqProofs only[go_sem,γ,reduceCtorEq]<;>rfl)|rfl
 rintro n ⟨hn,hz⟩
 have out:(∀ x,0<n→xs[n-1]?=some x→x≠0)→nl (val xs)=n:=fun h=>aGW hx hn hz h
 simp -implicitDefEqProofs only[go_sem,γ,reduceCtorEq,EF,EI,aLJ]
 by_cases h0:(n:Int)>0
 ·have hp:0<n:=by omega
  have hi:=bJ xs (show n-1<xs.length by omega)
  simp -implicitDefEqProofs only[go_sem,γ,reduceCtorEq,h0,tB (show n≤9223372036854775807 by omega) hp,hi]
  by_cases hz0:xs[n-1]=0
  ·simp -implicitDefEqProofs only[go_sem,γ,reduceCtorEq,bS (show ((xs[n-1]:Nat):Int)=0 by omega),EJ,tB (show n≤9223372036854775807 by omega) hp]
   refine aI (n-1) ⟨by omega,fun j x hj he=>?_⟩ (by omega) ?_ PH.nil_le
   ·rcases bhK j n with h | h
    ·have:j=n-1:=by omega
     subst this
     rw[bhH (by omega)] at he
     cases he; exact hz0
    ·exact hz j x h he
   ·(repeat' (first|exact PF.nil_le|refine PF.aA ?_ ?_))<;>first|(simp -implicitDefEqProofs only[go_sem,γ,reduceCtorEq]<;>rfl)|rfl
  ·simp -implicitDefEqProofs only[go_sem,γ,reduceCtorEq,bF (show ((xs[n-1]:Nat):Int)≠0 by omega),qN]
   refine cC (.inr rfl) rfl ?_
   rw[out fun x _ he=>by rw[bhH (by omega)] at he; cases he; exact hz0]
   rfl
 ·simp -implicitDefEqProofs only[go_sem,γ,reduceCtorEq,h0,qN]
  refine cC (.inr rfl) rfl ?_
  rw[out fun x h=>by omega]
  rfl
theorem aPV {C:Ctx} (xs:List Nat) (hlen:aJ C 138 [aF xs] .nil (aL (.int .i64 (nl (val xs):Nat)))):zL.wp C (aY JD.res (aL (.bool (decide (nl (val xs)>512))))) (PF.args [aF xs]) .nil:=by
 simp -implicitDefEqProofs only[go_sem,reduceCtorEq,zL,afW,afX,JD]
 refine aB hlen rfl ?_
 simp -implicitDefEqProofs only[go_sem,γ]
 refine cC (.inr rfl) rfl ?_
 simp only[cN,PV.bool.injEq,decide_eq_decide]
 omega
def szL (n:Nat):List Nat:=if nl n>512 then [] else aH n
def szE (n:Nat):Int:=if nl n>512 then 2 else 0
def szV (n:Nat):PV:=.tup [aF (szL n),.int .i64 (szE n)]
theorem aQA {C:Ctx} (xs:List Nat) (hx:Lim xs) (hlen:aJ C 138 [aF xs] .nil (aL (.int .i64 (nl (val xs):Nat)))):zN.wp C (aY JI.res (bY (szV (val xs)))) (PF.args [aF xs]) .nil:=by
 simp -implicitDefEqProofs only[go_sem,reduceCtorEq,zN,agJ,agK,JI]
 refine aB hlen rfl ?_
 simp -implicitDefEqProofs only[go_sem,γ,agL]
 by_cases h:nl (val xs)>512
 ·have h':((nl (val xs):Nat):Int)>512:=by omega
  simp -implicitDefEqProofs only[go_sem,h',agM]
  refine aW (vs:=[.nils,.int .i64 2]) (.inr rfl) .nil rfl PH.nil_le ⟨?_,rfl⟩
  rw[szV,szL,szE,if_pos h,if_pos h]
  refine .tup rfl fun j p q hp hq=>?_
  match j with
  | 0=>simp at hp hq; subst hp; subst hq; exact .nil 1
  | 1=>simp at hp hq; subst hp; subst hq; exact .refl _
  | j+2=>simp at hp
 ·have h':¬ ((nl (val xs):Nat):Int)>512:=by omega
  have hl:=eP hx
  have hc:((nl (val xs):Nat):Int)≤(xs.length:Nat):=by omega
  simp -implicitDefEqProofs only[go_sem,ν,γ,reduceCtorEq,h',agN,hc,or_true,bhV]
  refine aW (.inr rfl) .nil rfl PH.nil_le ⟨?_,rfl⟩
  rw[szV,szL,szE,if_neg h,if_neg h,← iJ hx,afU]
  exact .refl _
theorem aWE {C:Ctx} (v:Nat) (hv:v<18446744073709551616) (hlen:∀ xs,Lim xs→xs.length≤16777216→aJ C 138 [aF xs] .nil (aL (.int .i64 (nl (val xs):Nat)))) :
  EK.wp C (aY YK.res (aL (aF (aH v)))) (PF.args [.int .u64 v]) .nil:=by
 have e1:IntKind.u32.wrap ((v:Nat):Int)=((v%4294967296:Nat):Int):=bX v
 have e2:Int.fdiv ((v:Nat):Int) 4294967296=((v/4294967296:Nat):Int):=by
  rw[Int.fdiv_eq_ediv_of_nonneg _ (by decide)]; rfl
 have hd:v/4294967296<4294967296:=by omega
 have e3:IntKind.u32.wrap ((v/4294967296:Nat):Int)=((v/4294967296:Nat):Int):=by rw[bX,bhX hd]
 have hL:Lim [v%4294967296,v/4294967296]:=by
  intro x hx
  simp only[bhF,List.mem_nil_iff,or_false] at hx
  rcases hx with rfl | rfl
  ·exact biB _ (by decide)
  ·exact hd
 have hval:val [v%4294967296,v/4294967296]=v:=by simp only[val,Nat.mul_zero,biP]; exact Nat.mod_add_div v 4294967296
 have hs:∀ a b:Int,PV.bin .shr (.int .u64 a) (.int .u64 b)=shift .shr .u64 a b:=fun _ _=>rfl
 have hsh:shift .shr .u64 (v:Int) 32=some (.int .u64 ((v/4294967296:Nat):Int)):=by
  unfold shift
  rw[if_neg (by decide)]
  simp only
  have:min (Int.toNat 32) IntKind.u64.bits=32:=by decide
  rw[this]
  rw[show (2:Int) ^ 32=4294967296 by decide,e2]
 simp -implicitDefEqProofs only[go_sem,υ,δ,γ,η,θ,ζ,reduceCtorEq,EK,auG,auH,YK,e1,hsh,e3]
 have hb:(2:Nat)*1≤16777216:=by decide
 simp -implicitDefEqProofs only[go_sem,γ,auI]
 refine aB (hlen [v%4294967296,v/4294967296] hL (by simp)) rfl ?_
 have hl:=eP hL
 rw[hval] at hl ⊢
 have hc:((nl v:Nat):Int)≤((2:Nat):Int):=by simp at hl; omega
 simp -implicitDefEqProofs only[go_sem,ν,δ,γ,reduceCtorEq,hc,or_true,bhV]
 refine cC (.inr rfl) rfl ?_
 have:=iJ hL
 rw[hval] at this
 rw[← this,afU]
 rfl
theorem aWH {C:Ctx} (xs:List Nat) (hx:Lim xs) (hl:xs.length≤16777216) (hlen:aJ C 138 [aF xs] .nil (aL (.int .i64 (nl (val xs):Nat)))) :
  EL.wp C (aY YN.res (bY (aF (aH (val xs))))) (PF.args [aF xs]) .nil:=by
 simp -implicitDefEqProofs only[go_sem,reduceCtorEq,EL,avA,avB,YN]
 refine aB hlen rfl ?_
 have hn:=eP hx
 have hc:((nl (val xs):Nat):Int)≤(xs.length:Nat):=by omega
 simp -implicitDefEqProofs only[go_sem,ν,γ,reduceCtorEq,hc,or_true,bhV]
 refine fC (rows:=[]) (src:=aE (aH (val xs))) .nil ?_ ?_ fun v H' ho _=>?_
 ·simp -implicitDefEqProofs only[go_sem]
  rw[← iJ hx,← List.map_take]
 ·unfold roomFor
  rw[bP]
  have:(aH (val xs)).length=nl (val xs):=rfl
  simp only[bjB,maxLen]
  omega
 ·exact nF (.inr rfl) (by simpa using ho) rfl
end Go.PM
namespace Go.PM
open Go Go.Na
def aLD (xs ys:List Nat) (i:Int):PF:=(((PF.nil.set 0 (aF xs)).set 1 (aF ys)).set 7 (.int .i64 i))
theorem a1S {C:Ctx} (xs ys:List Nat) (hx:Lim xs) (hy:Lim ys) (lx:xs.length≤16777216) (ly:ys.length≤16777216) (hlx:aJ C 138 [aF xs] .nil (aL (.int .i64 (nl (val xs):Nat)))) (hly:aJ C 138 [aF ys] .nil (aL (.int .i64 (nl (val ys):Nat)))) :
  IY.wp C (aY atV.res (aL (.int .i64 (dE (val xs) (val ys))))) (PF.args [aF xs,aF ys]) .nil:=by
 simp -implicitDefEqProofs only[go_sem,reduceCtorEq,IY,aFD,aFE,atV]
 refine aB hlx (by simp -implicitDefEqProofs only[go_sem,γ]<;>rfl) ?_
 simp -implicitDefEqProofs only[go_sem,γ]
 refine aB hly (by simp -implicitDefEqProofs only[go_sem,γ]<;>rfl) ?_
 simp -implicitDefEqProofs only[go_sem,γ,aFF]
 have bx:=eP hx
 have by':=eP hy
 by_cases c1:nl (val xs)<nl (val ys)
 ·have c1':((nl (val xs):Nat):Int)<(nl (val ys):Nat):=by omega
  simp -implicitDefEqProofs only[go_sem,ο,c1',aFG]
  refine cC (.inr rfl) (by simp -implicitDefEqProofs only[go_sem,ο,γ]<;>rfl) ?_
  have:val xs<val ys:=by
   rcases bhK (val xs) (val ys) with h | h
   ·exact h
   ·have:=gN h; omega
  simp[cN,dE,this]
 have c1':¬ ((nl (val xs):Nat):Int)<(nl (val ys):Nat):=by omega
 simp -implicitDefEqProofs only[go_sem,γ,c1',aFH]
 by_cases c2:nl (val xs)>nl (val ys)
 ·have c2':((nl (val xs):Nat):Int)>(nl (val ys):Nat):=by omega
  simp -implicitDefEqProofs only[go_sem,c2',aFI]
  refine cC (.inr rfl) (by simp -implicitDefEqProofs only[go_sem,γ]<;>rfl) ?_
  have:val ys<val xs:=by
   rcases bhK (val ys) (val xs) with h | h
   ·exact h
   ·have:=gN h; omega
  have h2:¬ val xs<val ys:=by omega
  simp[cN,dE,this,h2]
 have c2':¬ ((nl (val xs):Nat):Int)>(nl (val ys):Nat):=by omega
 have hn:nl (val xs)=nl (val ys):=by omega
 simp -implicitDefEqProofs only[go_sem,γ,c2',aFJ]
 have ex:=aX (val xs)
 have ey:=aX (val ys)
 have LX:=bD (val xs)
 have LY:=bD (val ys)
 refine wp_loop (α:=Nat) (fun k=>aLD xs ys ((k:Int)-1)) (fun _=>.nil) (fun k=>k≤nl (val xs)∧(aH (val xs)).drop k=(aH (val ys)).drop k) (fun k=>k) (nl (val xs)) ⟨bgX _,?_⟩ ?_ PH.nil_le ?_
 ·rw[bkA (by rw[nl]; exact bgX _),bkA (by rw[hn,nl]; exact bgX _)]
 ·unfold aLD
  (repeat' (first|exact PF.nil_le|refine PF.aA ?_ ?_))<;>first|(simp -implicitDefEqProofs only[go_sem,γ,reduceCtorEq,wrap_i64 (show -9223372036854775808≤((nl (val xs):Nat):Int)-1 by omega) (show ((nl (val xs):Nat):Int)-1≤9223372036854775807 by omega)]<;>rfl)|rfl
 rintro k ⟨hk,hd⟩
 simp -implicitDefEqProofs only[go_sem,γ,reduceCtorEq,atW,aFK,aLD]
 by_cases h0:0<k
 ·obtain⟨m,rfl⟩:∃ m,k=m+1:=⟨k-1,by omega⟩
  have hz:((m+1:Nat):Int)-1=(m:Int):=by omega
  have hge:(m:Int)≥0:=by omega
  obtain⟨x1,x2,x3⟩:=amJ hx (show m<nl (val xs) by omega)
  obtain⟨y1,y2,y3⟩:=amJ hy (show m<nl (val ys) by omega)
  simp -implicitDefEqProofs only[go_sem,hz,hge]
  refine cA .nil dU PH.nil_le ?_
  simp -implicitDefEqProofs only[go_sem,γ,reduceCtorEq,aFL,bJ xs x1,bJ ys y1]
  by_cases c3:xs[m]<ys[m]
  ·simp -implicitDefEqProofs only[go_sem,ο,show ((xs[m]:Nat):Int)<(ys[m]:Nat) by omega,aFM]
   refine cC (.inr rfl) (by simp -implicitDefEqProofs only[go_sem,ο,γ,reduceCtorEq]<;>rfl) ?_
   have:=UW LX x2 y2 hd (by rw[← x3,← y3]; exact c3)
   rw[ex,ey] at this
   simp[cN,dE,this]
  ·simp -implicitDefEqProofs only[go_sem,show ¬ ((xs[m]:Nat):Int)<(ys[m]:Nat) by omega]
   refine cA .nil dU PH.nil_le ?_
   simp -implicitDefEqProofs only[go_sem,γ,reduceCtorEq,atX,bJ xs x1,bJ ys y1]
   by_cases c4:xs[m]>ys[m]
   ·simp -implicitDefEqProofs only[go_sem,show ((xs[m]:Nat):Int)>(ys[m]:Nat) by omega,atY]
    refine cC (.inr rfl) (by simp -implicitDefEqProofs only[go_sem,γ,reduceCtorEq]<;>rfl) ?_
    have:=UW LY y2 x2 hd.symm (by rw[← x3,← y3]; exact c4)
    rw[ex,ey] at this
    have h2:¬ val xs<val ys:=by omega
    simp[cN,dE,this,h2]
   ·simp -implicitDefEqProofs only[go_sem,γ,reduceCtorEq,show ¬ ((xs[m]:Nat):Int)>(ys[m]:Nat) by omega,atZ]
    refine aI m ⟨by omega,adM x2 y2 hd (by rw[← x3,← y3]; omega)⟩ (by omega) ?_ PH.nil_le
    (repeat' (first|exact PF.nil_le|refine PF.aA ?_ ?_))<;>first|(simp -implicitDefEqProofs only[go_sem,γ,reduceCtorEq,wrap_i64 (show -9223372036854775808≤(m:Int)-1 by omega) (show (m:Int)-1≤9223372036854775807 by omega)]<;>rfl)|rfl
 ·have:k=0:=by omega
  subst this
  have hz:¬ ((0:Nat):Int)-1≥0:=by decide
  simp -implicitDefEqProofs only[go_sem,hz,auA]
  refine cC (.inr rfl) (by simp -implicitDefEqProofs only[go_sem,γ,reduceCtorEq]<;>rfl) ?_
  rw[bhV,bhV] at hd
  have:val xs=val ys:=by rw[← ex,← ey,hd]
  simp[cN,dE,this]
def atJ (k:Nat) (v:Nat):PF:=((PF.nil.set 4 (.int .i64 k)).set 5 (.int .u32 v))
theorem aWC {C:Ctx} (xs:List Nat) (hx:Lim xs) (lx:xs.length≤16777216) (hlx:aJ C 138 [aF xs] .nil (aL (.int .i64 (nl (val xs):Nat)))) :
  EE.wp C (aY XZ.res (aL (.int .i64 (cB (val xs):Nat)))) (PF.args [aF xs]) .nil:=by
 simp -implicitDefEqProofs only[go_sem,reduceCtorEq,EE,atL,atM,XZ]
 refine aB hlx (by simp -implicitDefEqProofs only[go_sem,γ]<;>rfl) ?_
 simp -implicitDefEqProofs only[go_sem,γ,atN]
 have bx:=eP hx
 by_cases c1:nl (val xs)=0
 ·simp -implicitDefEqProofs only[go_sem,bS (show ((nl (val xs):Nat):Int)=0 by omega),atO]
  refine cC (.inr rfl) (by simp -implicitDefEqProofs only[go_sem,γ]<;>rfl) ?_
  have:val xs=0:=iV.1 c1
  simp[cN,this,jA]
 obtain⟨n,hn⟩:∃ n,nl (val xs)=n+1:=⟨nl (val xs)-1,by omega⟩
 obtain⟨t,ht,ht0⟩:=awQ hx hn
 have htl:t<4294967296:=hx t (bjI ht)
 have hnl:n<xs.length:=by omega
 have hv:val xs=val (xs.take n)+4294967296 ^ n*t:=by
  have e:=iJ hx
  have:=aX (val xs)
  have hg:xs[n]=t:=by rw[bhH hnl] at ht; exact biY.inj ht
  rw[← e,hn,biZ hnl,hg,fA,bhJ,biT (by omega)] at this
  simp only[val,Nat.mul_zero,biP] at this
  exact this.symm
 have hb:cB (val xs)=32*n+cB t:=by
  have h3:=eG (hx.take n)
  rw[bhJ,biT (by omega)] at h3
  rw[hv,show (4294967296:Nat) ^ n=2 ^ (32*n) by rw[Nat.pow_mul]] at *
  exact amK h3 ht0
 have hrow:(aE xs)[n]?=some [.int .u32 (t:Nat)]:=by
  rw[bJ xs hnl]
  rw[bhH hnl] at ht
  rw[biY.inj ht]
 have e1:IntKind.i64.wrap (((nl (val xs):Nat):Int)-1)=(n:Int):=by rw[wrap_i64 (by omega) (by omega)]; omega
 have e2:IntKind.i64.wrap ((n:Int)*32)=((32*n:Nat):Int):=by rw[wrap_i64 (by omega) (by omega)]; omega
 simp -implicitDefEqProofs only[go_sem,γ,reduceCtorEq,bF (show ((nl (val xs):Nat):Int)≠0 by omega),atQ,atR,e1,e2,hrow]
 refine wp_loop (α:=Nat × Nat) (fun a=>atJ a.1 a.2) (fun _=>.nil) (fun a=>a.1+cB a.2=32*n+cB t∧a.2<4294967296) (fun a=>a.2) (32*n,t) ⟨rfl,htl⟩ ?_ PH.nil_le ?_
 ·unfold atJ
  (repeat' (first|exact PF.nil_le|refine PF.aA ?_ ?_))<;>first|(simp -implicitDefEqProofs only[go_sem,γ]<;>rfl)|rfl
 rintro⟨k,v⟩ ⟨hk,hlt⟩
 simp only at hk hlt
 have hk32:cB t≤32:=(jU t 32).2 htl
 simp -implicitDefEqProofs only[go_sem,γ,atK,atS,atJ]
 by_cases c2:(v:Int)>0
 ·have hv0:v≠0:=by omega
  have hsh:PV.bin .shr (.int .u32 (v:Int)) (.int .u64 1)=some (.int .u32 ((v/2:Nat):Int)):=by
   show shift .shr .u32 (v:Int) 1=_
   unfold shift
   rw[if_neg (by decide)]
   simp only
   have:min (Int.toNat 1) IntKind.u32.bits=1:=by decide
   rw[this,show (2:Int) ^ 1=2 by decide,Int.fdiv_eq_ediv_of_nonneg _ (by decide)]
   rfl
  have hsh':shift .shr .u32 (v:Int) 1=some (.int .u32 ((v/2:Nat):Int)):=hsh
  simp -implicitDefEqProofs only[go_sem,γ,c2,atT,atU,hsh,hsh',aK (show k<9223372036854775807 by omega)]
  refine aI (k+1,v/2) ⟨?_,?_⟩ (Nat.div_lt_self (by omega) (by decide)) ?_ PH.nil_le
  ·have:=oI hv0
   simp only; omega
  ·simp only; omega
  ·(repeat' (first|exact PF.nil_le|refine PF.aA ?_ ?_))<;>first|(simp -implicitDefEqProofs only[go_sem,γ]<;>rfl)|rfl
 ·have:v=0:=by omega
  subst this
  simp -implicitDefEqProofs only[go_sem,γ,c2,afV]
  refine cC (.inr rfl) (by simp -implicitDefEqProofs only[go_sem,γ]<;>rfl) ?_
  rw[jA] at hk
  simp only[cN,PV.int.injEq,true_and]
  omega
end Go.PM
namespace Go.PM
open Go Go.Na
structure oF (C:Ctx):Prop where
 length:∀ xs,Lim xs→xs.length≤16777216→aJ C 138 [aF xs] .nil (aL (.int .i64 (nl (val xs):Nat)))
 large:∀ xs,Lim xs→xs.length≤16777216→aJ C 137 [aF xs] .nil (aL (.bool (decide (nl (val xs)>512))))
 sized:∀ xs,Lim xs→xs.length≤16777216→aJ C 141 [aF xs] .nil (aL (szV (val xs)))
 trim:∀ xs,Lim xs→xs.length≤16777216→aJ C 135 [aF xs] .nil (aL (aF (aH (val xs))))
 make:∀ v:Nat,v<18446744073709551616→aJ C 132 [.int .u64 v] .nil (aL (aF (aH v)))
 cmp:∀ xs ys,Lim xs→Lim ys→xs.length≤16777216→ys.length≤16777216→aJ C 129 [aF xs,aF ys] .nil (aL (.int .i64 (dE (val xs) (val ys))))
def jG:PV→List Nat
 | .sl _ rows=>rows.map fun r=>match r with | [.int _ n]=>n.toNat | _=>0
 | _=>[]
theorem eK (xs:List Nat):jG (aF xs)=xs:=by
 simp[jG,List.map_map,Function.comp_def]
def aLC:Spec:=fun name vs=>match name,vs with
 | 138,[x]=>some ([],fun _=>aL (.int .i64 (nl (val (jG x)):Nat)))
 | _,_=>none
theorem lN (xs:List Nat):aLC 138 [aF xs]=some ([],fun _=>aL (.int .i64 (nl (val xs):Nat))):=by
 show some _=_; rw[eK]
theorem uV (P:List Nat) (k v:Nat):(P++bgV (k+1) 0).set P.length v=(P++[v])++bgV k 0:=by
 rw[bjR _ _ (bgX _),Nat.sub_self,List.replicate_succ,List.set_cons_zero,bhY]
 rfl
theorem eQ (L:List Nat) (i v:Nat):(aE L).set i [.int .u32 (v:Int)]=aE (L.set i v):=by
 unfold aE; rw[List.map_set]
theorem gL (P:List Nat) (v:Nat):val (P++[v])=val P+4294967296 ^ P.length*v:=by
 rw[fA]; simp[val]
theorem bT (xs:List Nat) {i:Nat} (h:i<xs.length):val (xs.take (i+1))=val (xs.take i)+4294967296 ^ i*xs[i]:=by
 rw[biZ h,gL,bhJ,biT (by omega)]
theorem tY {v:Nat}:shift .shr .u64 (v:Int) 32=some (.int .u64 ((v/4294967296:Nat):Int)):=by
 unfold shift
 rw[if_neg (by decide)]
 simp only
 have:min (Int.toNat 32) IntKind.u64.bits=32:=by decide
 rw[this,show (2:Int) ^ 32=4294967296 by decide,Int.fdiv_eq_ediv_of_nonneg _ (by decide)]
 rfl
theorem eH {a b:Nat} (h:a+b<18446744073709551616):IntKind.u64.wrap ((a:Int)+(b:Int))=((a+b:Nat):Int):=by
 rw[wrap_u64 (by omega) (by omega)]; omega
theorem aZ {a:Nat} (h:a<18446744073709551616):IntKind.u64.wrap (a:Int)=(a:Int):=wrap_u64 (by omega) (by omega)
def XY (a b:List Nat) (o i c:Nat):PF:=(((((((PF.nil.set 0 (aF a)).set 1 (aF b)).set 6 (.osl o 1 0 (a.length+1))).set 7 (.int .u64 c)).set 35 (.int .i64 (a.length:Nat))).set 34 (aF a)).set 36 (.int .i64 i))
theorem afT {C:Ctx} (L:oF C) (a b:List Nat) (ha:Lim a) (hb:Lim b) (hl:b.length≤a.length) (h1:a.length≤1000) (F:PF) (f0:F 0=some (aF a)) (f1:F 1=some (aF b)) :
  aD.wp C (.seq (.region acD) (.seq (.region acE) (.seq (.seq (.region acF) (.block 0 (.loop SX))) (.seq (.region TB) (.seq (.region TC) .ret))))) (aY [.tmp 4,.tmp 5] (bY (szV (val a+val b)))) F .nil:=by
 have hlen:IntKind.i64.wrap ((a.length:Int)+1)=((a.length+1:Nat):Int):=aK (by omega)
 have hm1:((a.length+1:Nat):Int)*((4:Nat):Int)≤140737488355328:=by omega
 have hm2:((a.length+1:Nat):Int)≤9223372036854775807:=by omega
 have hz:bgV (a.length+1) [PV.int .u32 0]=aE ([]++bgV (a.length+1) 0):=by
  simp[aE]
 simp -implicitDefEqProofs only[go_sem,γ,acD,f0,hlen,hm1,hm2,hz]
 refine aQ fun o ho=>?_
 simp -implicitDefEqProofs only[go_sem,γ,reduceCtorEq,acE,acF,f0]
 refine wp_loop (α:=List Nat × Nat × Nat) (fun s=>XY a b s.2.2 s.1.length s.2.1) (fun s=>PH.nil.set s.2.2 (.rows 1 (aE (s.1++bgV (a.length+1-s.1.length) 0))))
  (fun s=>s.1.length≤a.length∧Lim s.1∧s.2.1≤1∧val s.1+4294967296 ^ s.1.length*s.2.1=val (a.take s.1.length)+val (b.take s.1.length)) (fun s=>a.length-s.1.length) ([],0,o) ⟨by simp,by simp[Lim],by simp,by simp[val]⟩ ?_ ?_ ?_
 ·unfold XY
  repeat' first|exact PF.nil_le|refine PF.aA ?_ ?_|rfl|assumption
 ·exact PH.aA PH.nil_le (by simp -implicitDefEqProofs only[go_sem,bjB])
 rintro⟨P,c,q⟩ ⟨hP,hLim,hc,hval⟩
 simp only at hP hLim hc hval
 simp -implicitDefEqProofs only[go_sem,γ,reduceCtorEq,SX,aFC,XY]
 by_cases c1:P.length<a.length
 ·have c1':(P.length:Int)<(a.length:Nat):=by omega
  have hai:=ha _ (bgY c1)
  obtain⟨k,hk⟩:∃ k,a.length+1-P.length=k+1:=⟨a.length-P.length,by omega⟩
  have hin:(aE (P++bgV (k+1) 0))[P.length]?=some [.int .u32 ((0:Nat):Int)]:=by
   rw[bJ _ (by simp)]; simp
  have hlast:a.length+1-(P.length+1)=k:=by omega
  have c2':(P.length:Int)<((a.length+1:Nat):Int):=by omega
  have fin:∀ (t:Nat) (F':PF) (H':PH),t<2*4294967296→val P+4294967296 ^ P.length*t=val (a.take (P.length+1))+val (b.take (P.length+1)) →
    F' 0=some (aF a)→F' 1=some (aF b)→F' 6=some (.osl q 1 0 (a.length+1))→F' 7=some (.int .u64 (t:Nat))→F' 8=some (.int .i64 P.length)→F' 34=some (aF a)→F' 35=some (.int .i64 (a.length:Nat))→F' 36=some (.int .i64 P.length) →
    H' q=some (.rows 1 (aE (P++bgV (k+1) 0)))→∀ K:bZ,(∀ P' c' F2 H2,P'.length=P.length+1→Lim P'→c'≤1→val P'+4294967296 ^ P'.length*c'=val (a.take (P.length+1))+val (b.take (P.length+1))→(XY a b q P'.length c').le F2→H2 q=some (.rows 1 (aE (P'++bgV k 0)))→K .normal F2 H2) →
    aD.wp C (.seq (.region SY) (.region SZ)) (dY 1 (iZ C (aD.wp C (.region TA)) K)) F' H':=by
   intro t F' H' ht hv g0 g1 g6 g7 g8 g34 g35 g36 gH K hK
   have hrow:(aE (P++bgV (k+1) 0)).set P.length [.int .u32 ((t%4294967296:Nat):Int)]=aE ((P++[t%4294967296])++bgV k 0):=by
    rw[eQ,uV]
   simp -implicitDefEqProofs only[go_sem,γ,SY,g6,g8,g7,bX,c2',gH,hin,hrow,SZ,tY,TA,g36,aK (show P.length<9223372036854775807 by omega)]
   refine hK (P++[t%4294967296]) (t/4294967296) _ _ (by simp) (hLim.app fun x hx=>by simp at hx; subst hx; exact biB _ (by decide)) (by omega) ?_ ?_ (by simp -implicitDefEqProofs only[go_sem])
   ·rw[gL,bgW,bhA,biJ,bhL,biW,← bhD,Nat.mod_add_div]
    exact hv
   ·unfold XY
    rw[bgW,bhA]
    refine PF.aA (PF.aA (PF.aA (PF.aA (PF.aA (PF.aA (PF.aA PF.nil_le ?_) ?_) ?_) ?_) ?_) ?_) ?_<;>simp -implicitDefEqProofs only[go_sem,γ,reduceCtorEq,g0,g1,g6,g34,g35]
  have hta:=bT a c1
  have ea:IntKind.u64.wrap ((a[P.length]:Nat):Int)=((a[P.length]:Nat):Int):=aZ (by omega)
  have es:IntKind.u64.wrap ((c:Nat)+((a[P.length]:Nat):Int))=((c+a[P.length]:Nat):Int):=eH (by omega)
  simp -implicitDefEqProofs only[go_sem,γ,reduceCtorEq,c1',atF,atG,bJ a c1,ea,es,atH]
  by_cases c3:P.length<b.length
  ·have c3':(P.length:Int)<(b.length:Nat):=by omega
   have hbi:=hb _ (bgY c3)
   have htb:=bT b c3
   have eb:IntKind.u64.wrap ((b[P.length]:Nat):Int)=((b[P.length]:Nat):Int):=aZ (by omega)
   have es2:IntKind.u64.wrap (((c+a[P.length]:Nat):Int)+((b[P.length]:Nat):Int))=((c+a[P.length]+b[P.length]:Nat):Int):=eH (by omega)
   simp -implicitDefEqProofs only[go_sem,γ,reduceCtorEq,c3',atI,bJ b c3,eb,es2]
   refine fin (c+a[P.length]+b[P.length]) _ _ (by omega) ?_ ?_ ?_ ?_ ?_ ?_ ?_ ?_ ?_ ?_ _ ?_
   ·rw[hta,htb,bhD,bhD]; omega
   any_goals simp -implicitDefEqProofs only[go_sem,γ,reduceCtorEq,hk]
   intro P' c' F2 H2 e1 e2 e3 e4 e5 e6
   rw[← e1] at e4
   refine aI (P',c',q) ⟨by simp only; omega,e2,e3,e4⟩ (by simp only; omega) e5 (PH.aA PH.nil_le ?_)
   simp only
   rw[e1,hlast]; exact e6
  ·have c3':¬ (P.length:Int)<(b.length:Nat):=by omega
   have htb:val (b.take (P.length+1))=val (b.take P.length):=by rw[bhI (by omega),bhI (by omega)]
   simp -implicitDefEqProofs only[go_sem,c3']
   refine fin (c+a[P.length]) _ _ (by omega) ?_ ?_ ?_ ?_ ?_ ?_ ?_ ?_ ?_ ?_ _ ?_
   ·rw[hta,htb,bhD]; omega
   any_goals simp -implicitDefEqProofs only[go_sem,γ,reduceCtorEq,hk]
   intro P' c' F2 H2 e1 e2 e3 e4 e5 e6
   rw[← e1] at e4
   refine aI (P',c',q) ⟨by simp only; omega,e2,e3,e4⟩ (by simp only; omega) e5 (PH.aA PH.nil_le ?_)
   simp only
   rw[e1,hlast]; exact e6
 ·have e:P.length=a.length:=by omega
  have c1':¬ (P.length:Int)<(a.length:Nat):=by omega
  have hk:bgV (a.length+1-P.length) 0=[0]:=by rw[show a.length+1-P.length=1 by omega]; rfl
  have hin:(aE (P++[0]))[a.length]?=some [.int .u32 ((0:Nat):Int)]:=by
   rw[bJ _ (by simp; omega)]
   simp[e]
  have hrow:(aE (P++[0])).set a.length [.int .u32 ((c%4294967296:Nat):Int)]=aE (P++[c]):=by
   have:=uV P 0 (c%4294967296)
   simp only[List.replicate_zero,biN,bhS,List.replicate_one] at this
   rw[← e,eQ,this,bhX (by omega)]
  have c2':(a.length:Int)<((a.length+1:Nat):Int):=by omega
  have hV:val (P++[c])=val a+val b:=by
   rw[gL,hval,e,bhZ,bhI hl]
  have hLc:Lim (P++[c]):=hLim.app fun x hx=>by simp at hx; omega
  simp -implicitDefEqProofs only[go_sem,γ,reduceCtorEq,c1',TB,bX,hk,hin,c2',hrow,TC]
  have hs:=L.sized _ hLc (by simp; omega)
  rw[hV] at hs
  refine nL (o:=q) (s:=1) (k:=a.length+1) (rs:=aE (P++[c])) (v:=szV (val a+val b)) ?_ rfl (by simp -implicitDefEqProofs only[go_sem]) (by rw[bP]; simp; omega) ?_
  ·rw[bhI (by rw[bP]; simp; omega)]; exact hs
  ·simp -implicitDefEqProofs only[go_sem,γ,reduceCtorEq,szV]
   exact aW (.inr rfl) .nil rfl PH.nil_le ⟨.refl _,rfl⟩
end Go.PM
namespace Go.PM
open Go Go.Na
def opV (big:Bool) (n:Nat):PV:=if big then .tup [aF [],.int .i64 2] else szV n
def eN (a b:Nat):Bool:=decide (nl a>512)||decide (nl b>512)
theorem gX {res:List dD} {F:PF} {H:PH} {e:Int} (h:dD.evs F H res=some [.nils,.int .i64 e]):aY res (bY (.tup [aF [],.int .i64 e])) .ret F H:=by
 refine aW (.inr rfl) .nil h PH.nil_le ⟨?_,rfl⟩
 refine .tup rfl fun j p q hp hq=>?_
 match j with
 | 0=>simp at hp hq; subst hp; subst hq; exact .nil 1
 | 1=>simp at hp hq; subst hp; subst hq; exact .refl _
 | j+2=>simp at hp
theorem bH (n:Nat):(aH n).length=nl n:=rfl
theorem gI {xs:List Nat} (h:Lim xs):(xs.map fun (n:Nat)=>[PV.int .u32 (n:Int)]).take (nl (val xs))=(aH (val xs)).map fun (n:Nat)=>[PV.int .u32 (n:Int)]:=by
 rw[← List.map_take,iJ h]
theorem a1P {C:Ctx} (L:oF C) (a b:List Nat) (ha:Lim a) (hb:Lim b) (la:a.length≤16777216) (lb:b.length≤16777216) :
  IX.wp C (aY atE.res (bY (opV (eN (val a) (val b)) (val a+val b)))) (PF.args [aF a,aF b]) .nil:=by
 simp -implicitDefEqProofs only[go_sem,reduceCtorEq,IX,aEX,aEY,atE]
 refine aB (L.large a ha la) rfl ?_
 by_cases c1:nl (val a)>512
 ·simp -implicitDefEqProofs only[go_sem,γ,c1,acC]
  rw[show opV (eN (val a) (val b)) (val a+val b)=.tup [aF [],.int .i64 2] by simp[opV,eN,c1]]
  exact gX rfl
 simp -implicitDefEqProofs only[go_sem,γ,c1]
 refine aB (L.large b hb lb) rfl ?_
 by_cases c2:nl (val b)>512
 ·simp -implicitDefEqProofs only[go_sem,γ,reduceCtorEq,c2,acC]
  rw[show opV (eN (val a) (val b)) (val a+val b)=.tup [aF [],.int .i64 2] by simp[opV,eN,c2]]
  exact gX rfl
 have e:opV (eN (val a) (val b)) (val a+val b)=szV (val a+val b):=by simp[opV,eN,c1,c2]
 rw[e]
 simp -implicitDefEqProofs only[go_sem,γ,reduceCtorEq,c2]
 refine cA .nil aLC PH.nil_le ?_
 simp -implicitDefEqProofs only[go_sem,reduceCtorEq,aEZ]
 have h1:=eP ha
 have h2:=eP hb
 have h1':((nl (val a):Nat):Int)≤(a.length:Nat):=by omega
 have h2':((nl (val b):Nat):Int)≤(b.length:Nat):=by omega
 refine cO (lN a) (L.length a ha la) rfl PH.nil_le ?_
 simp -implicitDefEqProofs only[go_sem,ν,γ,reduceCtorEq,h1',or_true,bhV,gI ha]
 refine cO (lN b) (L.length b hb lb) rfl PH.nil_le ?_
 simp -implicitDefEqProofs only[go_sem,ν,γ,reduceCtorEq,h2',or_true,bhV,gI hb,aFA,bH]
 have va:=aX (val a)
 have vb:=aX (val b)
 by_cases c3:nl (val a)<nl (val b)
 ·have c3':((nl (val a):Nat):Int)<(nl (val b):Nat):=by omega
  simp -implicitDefEqProofs only[go_sem,γ,reduceCtorEq,c3',aFB]
  have:=afT L (aH (val b)) (aH (val a)) (bD _) (bD _) (by rw[bH,bH]; omega) (by rw[bH]; omega)
  rw[va,vb,Nat.add_comm] at this
  exact this _ rfl rfl
 ·have c3':¬ ((nl (val a):Nat):Int)<(nl (val b):Nat):=by omega
  simp -implicitDefEqProofs only[go_sem,c3']
  have:=afT L (aH (val a)) (aH (val b)) (bD _) (bD _) (by rw[bH,bH]; omega) (by rw[bH]; omega)
  rw[va,vb] at this
  exact this _ rfl rfl
end Go.PM
namespace Go.PM
open Go Go.Na
theorem eT (n:Int):IntKind.u64.wrap n=n%18446744073709551616:=by simp[IntKind.wrap,IntKind.bits,IntKind.signed]
theorem QX (n:Int):IntKind.u32.wrap n=n%4294967296:=by simp[IntKind.wrap,IntKind.bits,IntKind.signed]
theorem aMC {v:Int}:shift .shr .u64 v 63=some (.int .u64 (v/9223372036854775808)):=by
 unfold shift
 rw[if_neg (by decide)]
 simp only
 have:min (Int.toNat 63) IntKind.u64.bits=63:=by decide
 rw[this,show (2:Int) ^ 63=9223372036854775808 by decide,Int.fdiv_eq_ediv_of_nonneg _ (by decide)]
def KI (a bor b:Nat):Nat:=(a+4294967296-bor-b)%4294967296
def TU (a bor b:Nat):Nat:=if a<bor+b then 1 else 0
theorem awJ {a bor b:Nat} (ha:a<4294967296) (hb:b<4294967296) (hc:bor≤1) (v:Int) (hv:v=((a:Int)-bor-b)%18446744073709551616) :
  IntKind.u32.wrap v=((KI a bor b:Nat):Int)∧v/9223372036854775808=((TU a bor b:Nat):Int)∧a+4294967296*TU a bor b=KI a bor b+b+bor∧KI a bor b<4294967296:=by
 rw[QX]
 unfold KI TU
 split<;>omega
def YM (a b:List Nat) (o i c:Nat):PF:=(((((((PF.nil.set 0 (aF a)).set 1 (aF b)).set 6 (.osl o 1 0 a.length)).set 7 (.int .u64 c)).set 33 (aF a)).set 34 (.int .i64 (a.length:Nat))).set 35 (.int .i64 i))
theorem aQC {C:Ctx} (L:oF C) (a b:List Nat) (ha:Lim a) (hb:Lim b) (hle:val b≤val a) (hl:b.length≤a.length) (h1:a.length≤1000) (F:PF) (f0:F 0=some (aF a)) (f1:F 1=some (aF b)) :
  aD.wp C (.seq (.region acR) (.seq (.region acS) (.seq (.seq (.region acT) (.block 1 (.loop TH))) (.seq (.region TL) .ret)))) (aY [.tmp 4,.tmp 5] (bY (szV (val a-val b)))) F .nil:=by
 have hm1:((a.length:Nat):Int)*((4:Nat):Int)≤140737488355328:=by omega
 have hm2:((a.length:Nat):Int)≤9223372036854775807:=by omega
 have hz:bgV a.length [PV.int .u32 0]=aE ([]++bgV a.length 0):=by
  simp[aE]
 simp -implicitDefEqProofs only[go_sem,γ,acR,f0,hm1,hm2,hz]
 refine aQ fun o ho=>?_
 simp -implicitDefEqProofs only[go_sem,γ,reduceCtorEq,acS,acT,f0]
 refine wp_loop (α:=List Nat × Nat × Nat) (fun s=>YM a b s.2.2 s.1.length s.2.1) (fun s=>PH.nil.set s.2.2 (.rows 1 (aE (s.1++bgV (a.length-s.1.length) 0))))
  (fun s=>s.1.length≤a.length∧Lim s.1∧s.2.1≤1∧val (a.take s.1.length)+4294967296 ^ s.1.length*s.2.1=val s.1+val (b.take s.1.length)) (fun s=>a.length-s.1.length) ([],0,o) ⟨by simp,by simp[Lim],by simp,by simp[val]⟩ ?_ ?_ ?_
 ·unfold YM
  repeat' first|exact PF.nil_le|refine PF.aA ?_ ?_|rfl|assumption
 ·exact PH.aA PH.nil_le (by simp -implicitDefEqProofs only[go_sem,bjB])
 rintro⟨P,c,q⟩ ⟨hP,hLim,hc,hval⟩
 simp only at hP hLim hc hval
 simp -implicitDefEqProofs only[go_sem,γ,reduceCtorEq,TH,aGL,YM]
 by_cases c1:P.length<a.length
 ·have c1':(P.length:Int)<(a.length:Nat):=by omega
  have hai:=ha _ (bgY c1)
  obtain⟨k,hk⟩:∃ k,a.length-P.length=k+1:=⟨a.length-P.length-1,by omega⟩
  have hin:(aE (P++bgV (k+1) 0))[P.length]?=some [.int .u32 ((0:Nat):Int)]:=by
   rw[bJ _ (by simp)]; simp
  have hlast:a.length-(P.length+1)=k:=by omega
  have hta:=bT a c1
  have fin:∀ (t:Nat) (v:Int) (F':PF) (H':PH),t<4294967296→v=((a[P.length]:Int)-c-t)%18446744073709551616→val (b.take (P.length+1))=val (b.take P.length)+4294967296 ^ P.length*t →
    F' 0=some (aF a)→F' 1=some (aF b)→F' 6=some (.osl q 1 0 a.length)→F' 9=some (.int .u64 v)→F' 8=some (.int .i64 P.length)→F' 33=some (aF a)→F' 34=some (.int .i64 (a.length:Nat))→F' 35=some (.int .i64 P.length) →
    H' q=some (.rows 1 (aE (P++bgV (k+1) 0)))→∀ K:bZ,(∀ P' c' F2 H2,P'.length=P.length+1→Lim P'→c'≤1→val (a.take (P.length+1))+4294967296 ^ P'.length*c'=val P'+val (b.take (P.length+1))→(YM a b q P'.length c').le F2→H2 q=some (.rows 1 (aE (P'++bgV k 0)))→K .normal F2 H2) →
    aD.wp C (.seq (.region TI) (.region TJ)) (dY 2 (iZ C (aD.wp C (.region TK)) K)) F' H':=by
   intro t v F' H' ht hv htb g0 g1 g6 g9 g8 g33 g34 g35 gH K hK
   obtain⟨e1,e2,e3,e4⟩:=awJ hai ht hc v hv
   have hrow:(aE (P++bgV (k+1) 0)).set P.length [.int .u32 ((KI a[P.length] c t:Nat):Int)]=aE ((P++[KI a[P.length] c t])++bgV k 0):=by
    rw[eQ,uV]
   simp -implicitDefEqProofs only[go_sem,γ,TI,g6,g8,g9,e1,c1',gH,hin,hrow,TJ,aMC,e2,TK,g35,aK (show P.length<9223372036854775807 by omega)]
   refine hK (P++[KI a[P.length] c t]) (TU a[P.length] c t) _ _ (by simp) (hLim.app fun x hx=>by simp at hx; subst hx; exact e4) (by unfold TU; split<;>omega) ?_ ?_ (by simp -implicitDefEqProofs only[go_sem])
   ·rw[gL,bgW,bhA,biJ,bhL,hta,htb,biW,← bhD,e3,bhD,bhD]
    omega
   ·unfold YM
    rw[bgW,bhA]
    refine PF.aA (PF.aA (PF.aA (PF.aA (PF.aA (PF.aA (PF.aA PF.nil_le ?_) ?_) ?_) ?_) ?_) ?_) ?_<;>simp -implicitDefEqProofs only[go_sem,γ,reduceCtorEq,g0,g1,g6,g33,g34]
  have ea:IntKind.u64.wrap ((a[P.length]:Nat):Int)=((a[P.length]:Nat):Int):=aZ (by omega)
  simp -implicitDefEqProofs only[go_sem,γ,reduceCtorEq,c1',auT,auU,bJ a c1,ea,auV]
  by_cases c3:P.length<b.length
  ·have c3':(P.length:Int)<(b.length:Nat):=by omega
   have hbi:=hb _ (bgY c3)
   have htb:=bT b c3
   have eb:IntKind.u64.wrap ((b[P.length]:Nat):Int)=((b[P.length]:Nat):Int):=aZ (by omega)
   simp -implicitDefEqProofs only[go_sem,γ,reduceCtorEq,c3',auW,bJ b c3,eb]
   refine fin b[P.length] (IntKind.u64.wrap (IntKind.u64.wrap ((a[P.length]:Int)-(c:Int))-(b[P.length]:Int))) _ _ hbi (by rw[eT,eT]; omega) htb ?_ ?_ ?_ ?_ ?_ ?_ ?_ ?_ ?_ _ ?_
   any_goals simp -implicitDefEqProofs only[go_sem,γ,reduceCtorEq,hk]
   intro P' c' F2 H2 e1 e2 e3 e4 e5 e6
   rw[← e1] at e4
   refine aI (P',c',q) ⟨by simp only; omega,e2,e3,e4⟩ (by simp only; omega) e5 (PH.aA PH.nil_le ?_)
   simp only
   rw[e1,hlast]; exact e6
  ·have c3':¬ (P.length:Int)<(b.length:Nat):=by omega
   have htb:val (b.take (P.length+1))=val (b.take P.length)+4294967296 ^ P.length*0:=by rw[bhI (by omega),bhI (by omega)]; simp
   simp -implicitDefEqProofs only[go_sem,c3']
   refine fin 0 (IntKind.u64.wrap ((a[P.length]:Int)-(c:Int))) _ _ (by decide) (by rw[eT]; omega) htb ?_ ?_ ?_ ?_ ?_ ?_ ?_ ?_ ?_ _ ?_
   any_goals simp -implicitDefEqProofs only[go_sem,γ,reduceCtorEq,hk]
   intro P' c' F2 H2 e1 e2 e3 e4 e5 e6
   rw[← e1] at e4
   refine aI (P',c',q) ⟨by simp only; omega,e2,e3,e4⟩ (by simp only; omega) e5 (PH.aA PH.nil_le ?_)
   simp only
   rw[e1,hlast]; exact e6
 ·have e:P.length=a.length:=by omega
  have c1':¬ (P.length:Int)<(a.length:Nat):=by omega
  have hk:bgV (a.length-P.length) 0=[]:=by rw[show a.length-P.length=0 by omega]; rfl
  have hV:val P=val a-val b:=by
   rw[e,bhZ,bhI hl] at hval
   have hlt:=eG hLim
   rw[e] at hlt
   rcases bjA c with h | h
   ·subst h; omega
   ·have:c=1:=by omega
    subst this; omega
  simp -implicitDefEqProofs only[go_sem,γ,reduceCtorEq,c1',hk,biN,TL]
  have hs:=L.sized _ hLim (by omega)
  rw[hV] at hs
  refine nL (o:=q) (s:=1) (k:=a.length) (rs:=aE P) (v:=szV (val a-val b)) ?_ rfl (by simp -implicitDefEqProofs only[go_sem]) (by rw[bP]; omega) ?_
  ·rw[bhI (by rw[bP]; omega)]; exact hs
  ·simp -implicitDefEqProofs only[go_sem,γ,reduceCtorEq,szV]
   exact aW (.inr rfl) .nil rfl PH.nil_le ⟨.refl _,rfl⟩
def vZ (a b:Nat):PV:=if eN a b then .tup [aF [],.int .i64 2] else if a<b then .tup [aF [],.int .i64 4] else szV (a-b)
theorem a2A {C:Ctx} (L:oF C) (a b:List Nat) (ha:Lim a) (hb:Lim b) (la:a.length≤16777216) (lb:b.length≤16777216) :
  JJ.wp C (aY auS.res (bY (vZ (val a) (val b)))) (PF.args [aF a,aF b]) .nil:=by
 simp -implicitDefEqProofs only[go_sem,reduceCtorEq,JJ,aGG,aGH,auS]
 refine aB (L.large a ha la) rfl ?_
 by_cases c1:nl (val a)>512
 ·simp -implicitDefEqProofs only[go_sem,γ,c1,acQ]
  rw[show vZ (val a) (val b)=.tup [aF [],.int .i64 2] by simp[vZ,eN,c1]]
  exact gX rfl
 simp -implicitDefEqProofs only[go_sem,γ,c1]
 refine aB (L.large b hb lb) rfl ?_
 by_cases c2:nl (val b)>512
 ·simp -implicitDefEqProofs only[go_sem,γ,reduceCtorEq,c2,acQ]
  rw[show vZ (val a) (val b)=.tup [aF [],.int .i64 2] by simp[vZ,eN,c2]]
  exact gX rfl
 simp -implicitDefEqProofs only[go_sem,γ,reduceCtorEq,c2,aGI]
 refine aB (L.cmp a b ha hb la lb) rfl ?_
 by_cases c3:val a<val b
 ·have hc:dE (val a) (val b)<0:=by simp[dE,c3]
  simp -implicitDefEqProofs only[go_sem,γ,hc,aGJ]
  rw[show vZ (val a) (val b)=.tup [aF [],.int .i64 4] by simp[vZ,eN,c1,c2,c3]]
  exact gX rfl
 have hc:¬ dE (val a) (val b)<0:=by
  unfold dE
  rw[if_neg c3]
  split<;>decide
 rw[show vZ (val a) (val b)=szV (val a-val b) by simp[vZ,eN,c1,c2,c3]]
 simp -implicitDefEqProofs only[go_sem,γ,hc]
 refine cA .nil aLC PH.nil_le ?_
 simp -implicitDefEqProofs only[go_sem,reduceCtorEq,aGK]
 have h1:=eP ha
 have h2:=eP hb
 have h1':((nl (val a):Nat):Int)≤(a.length:Nat):=by omega
 have h2':((nl (val b):Nat):Int)≤(b.length:Nat):=by omega
 refine cO (lN a) (L.length a ha la) rfl PH.nil_le ?_
 simp -implicitDefEqProofs only[go_sem,ν,γ,reduceCtorEq,h1',or_true,bhV,gI ha]
 refine cO (lN b) (L.length b hb lb) rfl PH.nil_le ?_
 simp -implicitDefEqProofs only[go_sem,ν,γ,reduceCtorEq,h2',or_true,bhV,gI hb]
 have va:=aX (val a)
 have vb:=aX (val b)
 have hm:=gN (show val b≤val a by omega)
 have:=aQC L (aH (val a)) (aH (val b)) (bD _) (bD _) (by omega) (by rw[bH,bH]; omega) (by rw[bH]; omega)
 rw[va,vb] at this
 exact this _ rfl rfl
end Go.PM
namespace Go.Na
def cW:Nat→Nat→List Nat
 | 0,_=>[]
 | k+1,n=>(n%4294967296)::cW k (n/4294967296)
theorem jH:∀ k n,(cW k n).length=k
 | 0,_=>rfl
 | k+1,n=>by simp[cW,jH k]
theorem CA {xs:List Nat} (h:Lim xs):cW xs.length (val xs)=xs:=by
 induction xs with
 | nil=>rfl
 | cons x xs ih =>
  have hx:=h x (by simp)
  have e1:(x+4294967296*val xs)%4294967296=x:=by omega
  have e2:(x+4294967296*val xs)/4294967296=val xs:=by omega
  simp only[bjJ,cW,val]
  rw[e1,e2,ih fun y hy=>h y (by simp[hy])]
theorem kI:∀ k n,Lim (cW k n)
 | 0,_=>fun x hx=>by cases hx
 | k+1,n=>fun x hx=>by
  simp only[cW,bhF] at hx
  rcases hx with rfl | hx
  ·exact biB _ (by decide)
  ·exact kI k _ x hx
theorem wE:∀ k n,val (cW k n)=n%4294967296 ^ k
 | 0,n=>by simp[cW,val,Nat.mod_one]
 | k+1,n=>by
  simp only[cW,val,wE k]
  rw[biJ,bhR (4294967296 ^ k) 4294967296,Nat.mod_mul]
theorem lS {k n:Nat} (h:n<4294967296 ^ k):val (cW k n)=n:=by rw[wE,bhX h]
end Go.Na
namespace Go.PM
open Go Go.Na
theorem a7H {a b:Nat} (ha:a<18446744073709551616) (hb:b<18446744073709551616):(BitVec.ofInt 64 (a:Int) ||| BitVec.ofInt 64 (b:Int)).toNat=a ||| b:=by
 rw[BitVec.ofInt_natCast,BitVec.ofInt_natCast,BitVec.toNat_or,BitVec.toNat_ofNat,BitVec.toNat_ofNat,bhX (by simpa using ha),bhX (by simpa using hb)]
theorem avI {c x s:Nat} (hc:c<2 ^ s) (h:c+2 ^ s*x<18446744073709551616):c ||| (2 ^ s*x)=c+2 ^ s*x:=by
 rw[Nat.or_comm,← Nat.two_pow_add_eq_or_of_lt hc,Nat.add_comm]
theorem orI {a b n:Nat} (ha:a<18446744073709551616) (hb:b<18446744073709551616) (h:a ||| b=n) (hn:n<18446744073709551616):jF .or .u64 (a:Int) (b:Int)=some (.int .u64 (n:Int)):=by
 show some (PV.int .u64 (IntKind.u64.wrap (((BitVec.ofInt 64 (a:Int) ||| BitVec.ofInt 64 (b:Int)).toNat:Nat):Int)))=_
 rw[a7H ha hb,h,aZ hn]
theorem EW {x s:Nat} (hs:s≤64) (h:x*2 ^ s<18446744073709551616):shift .shl .u64 (x:Int) (s:Int)=some (.int .u64 ((2 ^ s*x:Nat):Int)):=by
 unfold shift
 rw[if_neg (by omega)]
 simp only
 have:min (Int.toNat (s:Int)) IntKind.u64.bits=s:=by
  rw[show IntKind.u64.bits=64 from rfl]; omega
 rw[this,show (x:Int)*2 ^ s=((x*2 ^ s:Nat):Int) by simp,aZ h,bhR]
def aWJ (a:List Nat) (s o i c:Nat):PF:=(((((((PF.nil.set 0 (aF a)).set 1 (.int .u64 s)).set 5 (.osl o 1 0 (a.length+1))).set 6 (.int .u64 c)).set 13 (aF a)).set 14 (.int .i64 (a.length:Nat))).set 15 (.int .i64 i))
def upR (a:List Nat) (s:Nat) (r:PV) (H:PH):Prop:=∃ o,r=.osl o 1 0 (a.length+1)∧H=PH.nil.set o (.rows 1 (aE (cW (a.length+1) (val a*2 ^ s))))
theorem a5A {C:Ctx} (a:List Nat) (s:Nat) (ha:Lim a) (hs:s<32) (h1:a.length≤1000):TN.wp C (aY nup.res (upR a s)) (PF.args [aF a,.int .u64 s]) .nil:=by
 have hlen:IntKind.i64.wrap ((a.length:Int)+1)=((a.length+1:Nat):Int):=aK (by omega)
 have hm1:((a.length+1:Nat):Int)*((4:Nat):Int)≤140737488355328:=by omega
 have hm2:((a.length+1:Nat):Int)≤9223372036854775807:=by omega
 have hz:bgV (a.length+1) [PV.int .u32 0]=aE ([]++bgV (a.length+1) 0):=by
  simp[aE]
 have h2s:2 ^ s≤2147483648:=Nat.pow_le_pow_right (show 0<2 by decide) (show s≤31 by omega)
 have h2s0:0<2 ^ s:=bjG (by decide)
 simp -implicitDefEqProofs only[go_sem,γ,reduceCtorEq,TN,aQD,aQE,nup,hlen,hm1,hm2,hz]
 refine aQ fun o ho=>?_
 simp -implicitDefEqProofs only[go_sem,γ,reduceCtorEq,aQF,aQG]
 refine wp_loop (α:=List Nat × Nat × Nat) (fun t=>aWJ a s t.2.2 t.1.length t.2.1) (fun t=>PH.nil.set t.2.2 (.rows 1 (aE (t.1++bgV (a.length+1-t.1.length) 0))))
  (fun t=>t.1.length≤a.length∧Lim t.1∧t.2.1<2 ^ s∧val t.1+4294967296 ^ t.1.length*t.2.1=val (a.take t.1.length)*2 ^ s) (fun t=>a.length-t.1.length) ([],0,o) ⟨by simp,by simp[Lim],h2s0,by simp[val]⟩ ?_ ?_ ?_
 ·unfold aWJ
  (repeat' (first|exact PF.nil_le|refine PF.aA ?_ ?_))<;>first|(simp -implicitDefEqProofs only[go_sem,γ,reduceCtorEq]<;>rfl)|rfl
 ·exact PH.aA PH.nil_le (by simp -implicitDefEqProofs only[go_sem,bjB])
 rintro⟨P,c,q⟩ ⟨hP,hLim,hc,hval⟩
 simp only at hP hLim hc hval
 simp -implicitDefEqProofs only[go_sem,γ,reduceCtorEq,aGM,aQH,aWJ]
 by_cases c1:P.length<a.length
 ·have c1':(P.length:Int)<(a.length:Nat):=by omega
  have hai:=ha _ (bgY c1)
  obtain⟨k,hk⟩:∃ k,a.length+1-P.length=k+1:=⟨a.length-P.length,by omega⟩
  have hin:(aE (P++bgV (k+1) 0))[P.length]?=some [.int .u32 ((0:Nat):Int)]:=by
   rw[bJ _ (by simp)]; simp
  have hlast:a.length+1-(P.length+1)=k:=by omega
  have c2':(P.length:Int)<((a.length+1:Nat):Int):=by omega
  have hta:=bT a c1
  generalize hx:a[P.length]=x at *
  have hxs:x*2 ^ s≤4294967295*2147483648:=Nat.mul_le_mul (by omega) h2s
  have ex:IntKind.u64.wrap ((x:Nat):Int)=((x:Nat):Int):=aZ (by omega)
  have hxs':2 ^ s*x=x*2 ^ s:=bhR _ _
  have esh:shift .shl .u64 (x:Int) (s:Int)=some (.int .u64 ((2 ^ s*x:Nat):Int)):=EW (by omega) (by omega)
  have eor:=orI (a:=c) (b:=2 ^ s*x) (n:=c+2 ^ s*x) (by omega) (by omega) (avI hc (by omega)) (by omega)
  have hdig:(c+2 ^ s*x)/4294967296<2 ^ s:=by
   rw[bjL (by decide)]
   have:2 ^ s*(x+1)≤2 ^ s*4294967296:=biX _ (by omega)
   rw[bhD,Nat.mul_one] at this
   omega
  have hrow:(aE (P++bgV (k+1) 0)).set P.length [.int .u32 (((c+2 ^ s*x)%4294967296:Nat):Int)]=aE ((P++[(c+2 ^ s*x)%4294967296])++bgV k 0):=by
   rw[eQ,uV]
  have hax:(aE a)[P.length]?=some [.int .u32 ((x:Nat):Int)]:=by rw[bJ a c1,hx]
  simp -implicitDefEqProofs only[go_sem,γ,reduceCtorEq,c1',aQI,aQJ,hax,ex,esh,eor,aQK,bX,hk,c2',hin,hrow,aQL,tY,aQM,aK (show P.length<9223372036854775807 by omega)]
  refine aI (P++[(c+2 ^ s*x)%4294967296],(c+2 ^ s*x)/4294967296,q) ⟨by simp; omega,hLim.app fun y hy=>by simp at hy; subst hy; exact biB _ (by decide),hdig,?_⟩ (by simp; omega) ?_ (PH.aA PH.nil_le ?_)
  ·simp only
   rw[gL,bgW,bhA,biJ,bhL,biW,← bhD,Nat.mod_add_div,hta,bhD,bhT,← biW,hval,hxs',bhL]
  ·simp only
   rw[bgW,bhA]
   (repeat' (first|exact PF.nil_le|refine PF.aA ?_ ?_))<;>first|(simp -implicitDefEqProofs only[go_sem,γ,reduceCtorEq]<;>rfl)|rfl
  ·simp only
   rw[bgW,bhA,hlast]
   simp -implicitDefEqProofs only[go_sem]
 ·have e:P.length=a.length:=by omega
  have c1':¬ (P.length:Int)<(a.length:Nat):=by omega
  have hk:bgV (a.length+1-P.length) 0=[0]:=by rw[show a.length+1-P.length=1 by omega]; rfl
  have hin:(aE (P++[0]))[a.length]?=some [.int .u32 ((0:Nat):Int)]:=by
   rw[bJ _ (by simp; omega)]
   simp[e]
  have hrow:(aE (P++[0])).set a.length [.int .u32 ((c%4294967296:Nat):Int)]=aE (P++[c]):=by
   have:=uV P 0 (c%4294967296)
   simp only[List.replicate_zero,biN,bhS,List.replicate_one] at this
   rw[← e,eQ,this,bhX (by omega)]
  have c2':(a.length:Int)<((a.length+1:Nat):Int):=by omega
  have hV:val (P++[c])=val a*2 ^ s:=by
   rw[gL,hval,e,bhZ]
  have hLc:Lim (P++[c]):=hLim.app fun x hx=>by simp at hx; omega
  have hD:cW (a.length+1) (val a*2 ^ s)=P++[c]:=by
   have:=CA hLc
   rw[hV,bgW,bhA,e] at this
   exact this
  simp -implicitDefEqProofs only[go_sem,γ,reduceCtorEq,c1',aGN,bX,hk,hin,c2',hrow,aGO]
  exact aW (vs:=[.osl q 1 0 (a.length+1)]) (.inr rfl) (PH.nil.set q (.rows 1 (aE (P++[c])))) (by simp -implicitDefEqProofs only[go_sem,γ,reduceCtorEq]<;>rfl) (PH.aA PH.nil_le (by simp -implicitDefEqProofs only[go_sem])) ⟨q,rfl,by rw[hD]⟩
def acP (a:List Nat) (d o k r:Nat):PF:=(((((PF.nil.set 0 (aF a)).set 1 (.int .u32 d)).set 6 (.osl o 1 0 a.length)).set 7 (.int .u64 r)).set 8 (.int .i64 ((k:Int)-1)))
theorem aPY {C:Ctx} (L:oF C) (a:List Nat) (d:Nat) (ha:Lim a) (hd0:0<d) (hd:d<4294967296) (h1:a.length≤1000) :
  zM.wp C (aY JH.res (aL (.tup [aF (aH (val a/d)),.int .u32 ((val a%d:Nat):Int)]))) (PF.args [aF a,.int .u32 d]) .nil:=by
 have hm1:((a.length:Nat):Int)*((4:Nat):Int)≤140737488355328:=by omega
 have hm2:((a.length:Nat):Int)≤9223372036854775807:=by omega
 have hz:bgV a.length [PV.int .u32 0]=aE (bgV a.length 0++[]):=by
  simp[aE]
 simp -implicitDefEqProofs only[go_sem,γ,reduceCtorEq,zM,agA,agB,JH,hm1,hm2,hz]
 refine aQ fun o ho=>?_
 simp -implicitDefEqProofs only[go_sem,γ,reduceCtorEq,agC,agD]
 refine wp_loop (α:=Nat × List Nat × Nat × Nat) (fun t=>acP a d t.2.2.2 t.1 t.2.2.1) (fun t=>PH.nil.set t.2.2.2 (.rows 1 (aE (bgV t.1 0++t.2.1))))
  (fun t=>t.1+t.2.1.length=a.length∧Lim t.2.1∧t.2.2.1<d∧val t.2.1*d+t.2.2.1=val (a.drop t.1)) (fun t=>t.1) (a.length,[],0,o) ⟨by simp,by simp[Lim],hd0,by simp[val]⟩ ?_ ?_ ?_
 ·unfold acP
  (repeat' (first|exact PF.nil_le|refine PF.aA ?_ ?_))<;>first|(simp -implicitDefEqProofs only[go_sem,γ,reduceCtorEq,wrap_i64 (show -9223372036854775808≤((a.length:Nat):Int)-1 by omega) (show ((a.length:Nat):Int)-1≤9223372036854775807 by omega)]<;>rfl)|rfl
 ·exact PH.aA PH.nil_le (by simp -implicitDefEqProofs only[go_sem])
 rintro⟨k,S,r,q⟩ ⟨hk,hLim,hr,hval⟩
 simp only at hk hLim hr hval
 simp -implicitDefEqProofs only[go_sem,γ,reduceCtorEq,afZ,agE,acP]
 by_cases h0:0<k
 ·obtain⟨m,rfl⟩:∃ m,k=m+1:=⟨k-1,by omega⟩
  have hzz:((m+1:Nat):Int)-1=(m:Int):=by omega
  have hge:(m:Int)≥0:=by omega
  have hml:m<a.length:=by omega
  have hlt:(m:Int)<(a.length:Nat):=by omega
  have hai:=ha _ (bgY hml)
  have hdrop:val (a.drop m)=a[m]+4294967296*val (a.drop (m+1)):=by rw[biQ hml]; rfl
  generalize hx:a[m]=x at *
  have hax:(aE a)[m]?=some [.int .u32 ((x:Nat):Int)]:=by rw[bJ a hml,hx]
  have ex:IntKind.u64.wrap ((x:Nat):Int)=((x:Nat):Int):=aZ (by omega)
  have ed:IntKind.u64.wrap ((d:Nat):Int)=((d:Nat):Int):=aZ (by omega)
  have esh:shift .shl .u64 (r:Int) 32=some (.int .u64 ((2 ^ 32*r:Nat):Int)):=EW (s:=32) (by omega) (by omega)
  have e32:(2:Nat) ^ 32=4294967296:=by decide
  have eor:=orI (a:=2 ^ 32*r) (b:=x) (n:=2 ^ 32*r+x) (by omega) (by omega) (Nat.two_pow_add_eq_or_of_lt (by omega) r).symm (by omega)
  rw[e32] at esh eor
  have hq:(4294967296*r+x)/d<4294967296:=by
   rw[bjL hd0]
   have:4294967296*(r+1)≤4294967296*d:=biX _ hr
   omega
  have hdd:¬ ((d:Nat):Int)=0:=by omega
  have equo:IntKind.u64.wrap (Int.tdiv ((4294967296*r+x:Nat):Int) ((d:Nat):Int))=(((4294967296*r+x)/d:Nat):Int):=by
   rw[show Int.tdiv ((4294967296*r+x:Nat):Int) ((d:Nat):Int)=(((4294967296*r+x)/d:Nat):Int) from rfl]
   exact aZ (by omega)
  have erem:Int.tmod ((4294967296*r+x:Nat):Int) ((d:Nat):Int)=(((4294967296*r+x)%d:Nat):Int):=rfl
  have ec:IntKind.u32.wrap (((4294967296*r+x)/d:Nat):Int)=(((4294967296*r+x)/d:Nat):Int):=by rw[bX,bhX hq]
  have hrep:bgV (m+1) 0++S=bgV m 0++(0::S):=by
   rw[List.replicate_succ',bhY]; rfl
  have hin:(aE (bgV m 0++(0::S)))[m]?=some [.int .u32 ((0:Nat):Int)]:=by
   rw[bJ _ (by simp)]; simp
  have hrow:(aE (bgV m 0++(0::S))).set m [.int .u32 (((4294967296*r+x)/d:Nat):Int)]=aE (bgV m 0++(((4294967296*r+x)/d)::S)):=by
   rw[eQ,bjR _ _ (by simp)]; simp
  simp -implicitDefEqProofs only[go_sem,γ,reduceCtorEq,hzz,hge,agF,esh,hax,ex,eor,agG,ed,hdd,equo,ec,hlt,hrep,hin,hrow,agH,erem,agI]
  refine aI (m,((4294967296*r+x)/d)::S,(4294967296*r+x)%d,q) ⟨by simp only[bjJ]; omega,fun y hy=>?_,biB _ hd0,?_⟩ (by simp only; omega) ?_ (PH.aA PH.nil_le (by simp -implicitDefEqProofs only[go_sem]))
  ·rw[bhF] at hy
   rcases hy with rfl | hy
   ·exact hq
   ·exact hLim y hy
  ·simp only[val]
   rw[hdrop,← hval,bhT,bhD,bhL]
   have:=bjV (4294967296*r+x) d
   rw[bhR d] at this
   omega
  ·(repeat' (first|exact PF.nil_le|refine PF.aA ?_ ?_))<;>first|(simp -implicitDefEqProofs only[go_sem,γ,reduceCtorEq,wrap_i64 (show -9223372036854775808≤(m:Int)-1 by omega) (show (m:Int)-1≤9223372036854775807 by omega)]<;>rfl)|rfl
 ·have:k=0:=by omega
  subst this
  have hzz:¬ ((0:Nat):Int)-1≥0:=by decide
  rw[bhV] at hval
  have hS:S.length=a.length:=by omega
  have hq:val S=val a/d:=by
   rw[← hval,bhR,Nat.mul_add_div hd0,bjW hr,biP]
  have hrm:r=val a%d:=by rw[← hval,bhR,Nat.mul_add_mod,bhX hr]
  have hn0:bgV 0 0++S=S:=by simp
  simp -implicitDefEqProofs only[go_sem,υ,γ,reduceCtorEq,hzz,YL,List.nil_append]
  have hl:=L.length S hLim (by omega)
  have hnl:=eP hLim
  have hc:((nl (val S):Nat):Int)≤(S.length:Nat):=by omega
  refine nL (o:=q) (s:=1) (k:=a.length) (rs:=aE S) (v:=.int .i64 (nl (val S):Nat)) ?_ (by simp -implicitDefEqProofs only[go_sem,γ,reduceCtorEq]) (by simp -implicitDefEqProofs only[go_sem]) (by rw[bP]; omega) ?_
  ·rw[bhI (by rw[bP]; omega)]; exact hl
  ·have hfz:PV.frz q 1 (aE S) (.osl q 1 0 a.length)=aF S:=by
    have:0+a.length≤(aE S).length:=by rw[bP]; omega
    simp only[PV.frz,PV.qA,PV.cX,if_true,true_and,if_pos this,bhV]
    rw[bhI (by rw[bP]; omega)]
   have hfi:∀ n:Int,∀ k,PV.frz q 1 (aE S) (.int k n)=.int k n:=fun _ _=>rfl
   have er:IntKind.u32.wrap ((r:Nat):Int)=((r:Nat):Int):=by rw[bX,bhX (by omega)]
   simp -implicitDefEqProofs only[go_sem,ν,γ,reduceCtorEq,hfz,hfi,hc,or_true,bhV,gI hLim,er]
   refine aW (vs:=[aF (aH (val S)),.int .u32 ((r:Nat):Int)]) (.inr rfl) .nil (by simp -implicitDefEqProofs only[go_sem,γ,reduceCtorEq]<;>rfl) PH.nil_le ⟨?_,rfl⟩
   simp only[cN,← hq,← hrm]
end Go.PM
namespace Go.Na
theorem BR {L:List Nat} {i:Nat} (h:i<L.length) (v:Nat):val (L.set i v)+4294967296 ^ i*L[i]=val L+4294967296 ^ i*v:=by
 have h':i<(L.set i v).length:=by rw[bjC]; exact h
 rw[pF L h,pF (L.set i v) h',List.getElem_set_self,List.take_set_of_le (bgX _),List.drop_set_of_lt (by omega),bhD,bhD]
 omega
theorem aaY {L:List Nat} {i:Nat} (h:∀ (j x:Nat),i≤j→L[j]?=some x→x=0) (k v:Nat) (hk:k<i):∀ (j x:Nat),i≤j→(L.set k v)[j]?=some x→x=0:=fun j x hj hx=>by
 rw[List.getElem?_set_ne (by omega)] at hx
 exact h j x hj hx
end Go.Na
namespace Go.PM
open Go Go.Na
def iW (a b:List Nat) (o i:Nat):PF:=((((((PF.nil.set 0 (aF a)).set 1 (aF b)).set 6 (.osl o 1 0 (a.length+b.length))).set 32 (aF a)).set 33 (.int .i64 (a.length:Nat))).set 34 (.int .i64 i))
def aLN (a b:List Nat) (o i x c j:Nat):PF:=((((((((((((PF.nil.set 0 (aF a)).set 1 (aF b)).set 6 (.osl o 1 0 (a.length+b.length))).set 32 (aF a)).set 33 (.int .i64 (a.length:Nat))).set 34 (.int .i64 i)).set 7 (.int .i64 i)).set 8 (.int .u32 x)).set 9 (.int .u64 c)).set 39 (aF b)).set 40 (.int .i64 (b.length:Nat))).set 41 (.int .i64 j))
structure AP (a b L:List Nat) (i:Nat):Prop where
 len:L.length=a.length+b.length
 lim:Lim L
 v:val L=val (a.take i)*val b
 z:∀ j x,i+b.length≤j→L[j]?=some x→x=0
theorem aEW {x y:Nat} (hx:x<4294967296) (hy:y<4294967296):IntKind.u64.wrap ((x:Int)*(y:Int))=((x*y:Nat):Int):=by
 have:x*y≤4294967295*4294967295:=Nat.mul_le_mul (by omega) (by omega)
 rw[show (x:Int)*(y:Int)=((x*y:Nat):Int) by simp]
 exact aZ (by omega)
theorem fI {a b:Nat} (h:a+b≤9223372036854775807):IntKind.i64.wrap ((a:Int)+(b:Int))=((a+b:Nat):Int):=by
 rw[wrap_i64 (by omega) (by omega)]; omega
theorem aWG {C:Ctx} (a b:List Nat) (ha:Lim a) (hb:Lim b) (h1:a.length≤1000) (h2:b.length≤1000) (L:List Nat) (i:Nat) (hi:i<a.length) (hI:AP a b L i) (q:Nat) (K:bZ) (F:PF) (H:PH) (hF:(iW a b q i).le F) (hH:H q=some (.rows 1 (aE L)))
  (hK:∀ L' F' H',AP a b L' (i+1)→(iW a b q i).le F'→H' q=some (.rows 1 (aE L'))→K .normal F' H') :
  aD.wp C (.block 1 (.seq (.region acM) (.seq (.region acN) (.seq (.seq (.region acO) (.block 2 (.loop TD))) (.region TF))))) K F H:=by
 have f0:=hF 0 _ (by unfold iW; simp -implicitDefEqProofs only[go_sem,reduceCtorEq]; rfl)
 have f1:=hF 1 _ (by unfold iW; simp -implicitDefEqProofs only[go_sem,γ,reduceCtorEq]; rfl)
 have f6:=hF 6 _ (by unfold iW; simp -implicitDefEqProofs only[go_sem,γ,reduceCtorEq]; rfl)
 have f32:=hF 32 _ (by unfold iW; simp -implicitDefEqProofs only[go_sem,γ,reduceCtorEq]; rfl)
 have f33:=hF 33 _ (by unfold iW; simp -implicitDefEqProofs only[go_sem,γ,reduceCtorEq]; rfl)
 have f34:=hF 34 _ (by unfold iW; simp -implicitDefEqProofs only[go_sem,γ,reduceCtorEq]; rfl)
 have hx:=ha _ (bgY hi)
 have hta:=bT a hi
 generalize hxe:a[i]=x at *
 have hax:(aE a)[i]?=some [.int .u32 ((x:Nat):Int)]:=by rw[bJ a hi,hxe]
 simp -implicitDefEqProofs only[go_sem,γ,acM,acN,acO,f32,f34,f1,hax]
 refine wp_loop (α:=List Nat × Nat × Nat) (fun t=>aLN a b q i x t.2.1 t.2.2) (fun t=>PH.nil.set q (.rows 1 (aE t.1)))
  (fun t=>t.2.2≤b.length∧t.1.length=a.length+b.length∧Lim t.1∧t.2.1<4294967296∧val t.1+4294967296 ^ (i+t.2.2)*t.2.1=val (a.take i)*val b+4294967296 ^ i*(x*val (b.take t.2.2))∧∀ j y,i+b.length≤j→t.1[j]?=some y→y=0) (fun t=>b.length-t.2.2) (L,0,0)
  ⟨by simp,hI.len,hI.lim,by simp,by simp[val,hI.v],hI.z⟩ ?_ (PH.aA PH.nil_le hH) ?_
 ·unfold aLN
  repeat' first|exact PF.nil_le|refine PF.aA ?_ ?_|rfl|assumption
 rintro⟨M,c,j⟩ ⟨hj,hM,hLim,hc,hval,hz⟩
 simp only at hj hM hLim hc hval hz
 simp -implicitDefEqProofs only[go_sem,γ,reduceCtorEq,TD,auK,aLN]
 by_cases c1:j<b.length
 ·have c1':(j:Int)<(b.length:Nat):=by omega
  have hy:=hb _ (bgY c1)
  have htb:=bT b c1
  generalize hye:b[j]=y at *
  have hby:(aE b)[j]?=some [.int .u32 ((y:Nat):Int)]:=by rw[bJ b c1,hye]
  have hij:i+j<M.length:=by omega
  have hz0:=hLim _ (bgY hij)
  have hset:=BR hij
  generalize hze:M[i+j]=z at *
  have hMz:(aE M)[i+j]?=some [.int .u32 ((z:Nat):Int)]:=by rw[bJ M hij,hze]
  have ex:IntKind.u64.wrap ((x:Nat):Int)=((x:Nat):Int):=aZ (by omega)
  have ey:IntKind.u64.wrap ((y:Nat):Int)=((y:Nat):Int):=aZ (by omega)
  have ez:IntKind.u64.wrap ((z:Nat):Int)=((z:Nat):Int):=aZ (by omega)
  have em:=aEW hx hy
  have hxy:x*y≤4294967295*4294967295:=Nat.mul_le_mul (by omega) (by omega)
  have e1:IntKind.u64.wrap (((x*y:Nat):Int)+(z:Int))=((x*y+z:Nat):Int):=eH (by omega)
  have e2:IntKind.u64.wrap ((c:Int)+((x*y+z:Nat):Int))=((c+(x*y+z):Nat):Int):=eH (by omega)
  have eij:IntKind.i64.wrap ((i:Int)+(j:Int))=((i+j:Nat):Int):=fI (by omega)
  have hlt:((i+j:Nat):Int)<((a.length+b.length:Nat):Int):=by omega
  generalize ht:c+(x*y+z)=t at *
  have htt:t<4294967296*4294967296:=by omega
  have hrow:(aE M).set (i+j) [.int .u32 ((t%4294967296:Nat):Int)]=aE (M.set (i+j) (t%4294967296)):=eQ M (i+j) _
  simp -implicitDefEqProofs only[go_sem,γ,reduceCtorEq,c1',auL,hby,auM,ex,ey,em,eij,hlt,hMz,ez,e1,e2,auN,bX,hrow,auO,tY,auP,aK (show j<9223372036854775807 by omega)]
  refine aI (M.set (i+j) (t%4294967296),t/4294967296,j+1) ⟨by simp only; omega,by simp only[bjC]; exact hM,hLim.set _ (biB _ (by decide)),by simp only; omega,?_,aaY hz _ _ (by omega)⟩ (by simp only; omega) ?_ (PH.aA PH.nil_le (by simp -implicitDefEqProofs only[go_sem]))
  ·simp only
   have h3:=hset (t%4294967296)
   have h4:4294967296 ^ (i+(j+1))*(t/4294967296)+4294967296 ^ (i+j)*(t%4294967296)=4294967296 ^ (i+j)*t:=by
    rw[← biW,biJ,bhL,← bhD,bjV]
   have h5:4294967296 ^ (i+j)*t=4294967296 ^ (i+j)*c+(4294967296 ^ (i+j)*(x*y)+4294967296 ^ (i+j)*z):=by rw[← ht,bhD,bhD]
   have h6:4294967296 ^ i*(x*val (b.take (j+1)))=4294967296 ^ i*(x*val (b.take j))+4294967296 ^ (i+j)*(x*y):=by
    rw[htb,bhD,bhD,Nat.pow_add]
    congr 1
    rw[Nat.mul_left_comm x,bhL]
   omega
  ·(repeat' (first|exact PF.nil_le|refine PF.aA ?_ ?_))<;>first|(simp -implicitDefEqProofs only[go_sem,γ,reduceCtorEq]<;>rfl)|rfl
 ·have he:j=b.length:=by omega
  have c1':¬ (j:Int)<(b.length:Nat):=by omega
  subst he
  have hij:i+b.length<M.length:=by omega
  have hz0:M[i+b.length]=0:=hz _ _ (bgX _) (bhH hij)
  have hset:=BR hij
  have hMz:(aE M)[i+b.length]?=some [.int .u32 ((0:Nat):Int)]:=by rw[bJ M hij,hz0]
  have eij:IntKind.i64.wrap ((i:Int)+((b.length:Nat):Int))=((i+b.length:Nat):Int):=fI (by omega)
  have hlt:((i+b.length:Nat):Int)<((a.length+b.length:Nat):Int):=by omega
  have hrow:(aE M).set (i+b.length) [.int .u32 ((c%4294967296:Nat):Int)]=aE (M.set (i+b.length) c):=by
   rw[bhX hc]; exact eQ M _ _
  simp -implicitDefEqProofs only[go_sem,γ,reduceCtorEq,c1',TF,eij,bX,hlt,hMz,hrow]
  refine hK (M.set (i+b.length) c) _ _ ⟨by rw[bjC]; exact hM,hLim.set _ hc,?_,fun j y hj hy=>?_⟩ (by unfold iW; (repeat' (first|exact PF.nil_le|refine PF.aA ?_ ?_))<;>first|(simp -implicitDefEqProofs only[go_sem,γ,reduceCtorEq]<;>rfl)|rfl) (by simp -implicitDefEqProofs only[go_sem])
  ·have h3:=hset c
   rw[hz0,Nat.mul_zero,biP] at h3
   rw[h3,hval,bhZ,hta,bhT,bhL]
  ·rw[List.getElem?_set_ne (by omega)] at hy
   exact hz j y (by omega) hy
theorem aPX {C:Ctx} (L:oF C) (a b:List Nat) (ha:Lim a) (hb:Lim b) (h1:a.length≤1000) (h2:b.length≤1000) (F:PF) (f0:F 0=some (aF a)) (f1:F 1=some (aF b)) :
  aD.wp C (.seq (.region acK) (.seq (.seq (.region acL) (.block 0 (.loop TE))) (.seq (.region TG) .ret))) (aY [.tmp 4,.tmp 5] (bY (szV (val a*val b)))) F .nil:=by
 have hlen:IntKind.i64.wrap (((a.length:Nat):Int)+((b.length:Nat):Int))=((a.length+b.length:Nat):Int):=fI (by omega)
 have hm1:((a.length+b.length:Nat):Int)*((4:Nat):Int)≤140737488355328:=by omega
 have hm2:((a.length+b.length:Nat):Int)≤9223372036854775807:=by omega
 have hz:bgV (a.length+b.length) [PV.int .u32 0]=aE (bgV (a.length+b.length) 0):=by
  simp[aE]
 simp -implicitDefEqProofs only[go_sem,γ,acK,f0,f1,hlen,hm1,hm2,hz]
 refine aQ fun o ho=>?_
 simp -implicitDefEqProofs only[go_sem,γ,reduceCtorEq,acL,f0]
 refine wp_loop (α:=List Nat × Nat) (fun t=>iW a b o t.2) (fun t=>PH.nil.set o (.rows 1 (aE t.1))) (fun t=>t.2≤a.length∧AP a b t.1 t.2) (fun t=>a.length-t.2) (bgV (a.length+b.length) 0,0)
  ⟨by simp,by simp,sQ _,by simp[val,pI],fun j x _ hx=>by rw[List.getElem?_replicate] at hx; split at hx<;>simp_all⟩ ?_ (PH.aA PH.nil_le (by simp -implicitDefEqProofs only[go_sem])) ?_
 ·unfold iW
  repeat' first|exact PF.nil_le|refine PF.aA ?_ ?_|rfl|assumption
 rintro⟨M,i⟩ ⟨hi,hI⟩
 simp only at hi hI
 simp -implicitDefEqProofs only[go_sem,γ,reduceCtorEq,TE,aGF,iW]
 by_cases c1:i<a.length
 ·have c1':(i:Int)<(a.length:Nat):=by omega
  have key:=aWG (C:=C) a b ha hb h1 h2 M i c1 hI o
  simp -implicitDefEqProofs only[go_sem] at key
  simp -implicitDefEqProofs only[go_sem,c1']
  refine key _ _ _ (by unfold iW; (repeat' (first|exact PF.nil_le|refine PF.aA ?_ ?_))<;>first|(simp -implicitDefEqProofs only[go_sem,γ,reduceCtorEq]<;>rfl)|rfl) (by simp -implicitDefEqProofs only[go_sem]) ?_
  intro L' F' H' hI' hF' hH'
  have g34:=hF' 34 _ (by unfold iW; simp -implicitDefEqProofs only[go_sem,γ,reduceCtorEq]; rfl)
  have g0:=hF' 0 _ (by unfold iW; simp -implicitDefEqProofs only[go_sem,reduceCtorEq]; rfl)
  have g1:=hF' 1 _ (by unfold iW; simp -implicitDefEqProofs only[go_sem,γ,reduceCtorEq]; rfl)
  have g6:=hF' 6 _ (by unfold iW; simp -implicitDefEqProofs only[go_sem,γ,reduceCtorEq]; rfl)
  have g32:=hF' 32 _ (by unfold iW; simp -implicitDefEqProofs only[go_sem,γ,reduceCtorEq]; rfl)
  have g33:=hF' 33 _ (by unfold iW; simp -implicitDefEqProofs only[go_sem,γ,reduceCtorEq]; rfl)
  simp -implicitDefEqProofs only[go_sem,auQ,g34,aK (show i<9223372036854775807 by omega)]
  refine aI (L',i+1) ⟨by simp only; omega,hI'⟩ (by simp only; omega) ?_ (PH.aA PH.nil_le hH')
  repeat' first|exact PF.nil_le|refine PF.aA ?_ ?_|rfl|assumption
 ·have he:i=a.length:=by omega
  subst he
  have c1':¬ ((a.length:Nat):Int)<(a.length:Nat):=by omega
  have hV:val M=val a*val b:=by rw[hI.v,bhZ]
  simp -implicitDefEqProofs only[go_sem,γ,reduceCtorEq,TG]
  have hs:=L.sized _ hI.lim (by rw[hI.len]; omega)
  rw[hV] at hs
  refine nL (o:=o) (s:=1) (k:=a.length+b.length) (rs:=aE M) (v:=szV (val a*val b)) ?_ rfl (by simp -implicitDefEqProofs only[go_sem]) (by rw[bP,hI.len]; exact bgX _) ?_
  ·rw[bhI (by rw[bP,hI.len]; exact bgX _)]; exact hs
  ·simp -implicitDefEqProofs only[go_sem,γ,reduceCtorEq,szV]
   exact aW (.inr rfl) .nil rfl PH.nil_le ⟨.refl _,rfl⟩
theorem a1Y {C:Ctx} (L:oF C) (a b:List Nat) (ha:Lim a) (hb:Lim b) (la:a.length≤16777216) (lb:b.length≤16777216) :
  JE.wp C (aY auJ.res (bY (opV (eN (val a) (val b)) (val a*val b)))) (PF.args [aF a,aF b]) .nil:=by
 simp -implicitDefEqProofs only[go_sem,reduceCtorEq,JE,aGC,aGD,auJ]
 refine aB (L.large a ha la) rfl ?_
 by_cases c1:nl (val a)>512
 ·simp -implicitDefEqProofs only[go_sem,γ,c1,acJ]
  rw[show opV (eN (val a) (val b)) (val a*val b)=.tup [aF [],.int .i64 2] by simp[opV,eN,c1]]
  exact gX rfl
 simp -implicitDefEqProofs only[go_sem,γ,c1]
 refine aB (L.large b hb lb) rfl ?_
 by_cases c2:nl (val b)>512
 ·simp -implicitDefEqProofs only[go_sem,γ,reduceCtorEq,c2,acJ]
  rw[show opV (eN (val a) (val b)) (val a*val b)=.tup [aF [],.int .i64 2] by simp[opV,eN,c2]]
  exact gX rfl
 have e:opV (eN (val a) (val b)) (val a*val b)=szV (val a*val b):=by simp[opV,eN,c1,c2]
 rw[e]
 simp -implicitDefEqProofs only[go_sem,γ,reduceCtorEq,c2]
 refine cA .nil aLC PH.nil_le ?_
 simp -implicitDefEqProofs only[go_sem,reduceCtorEq,aGE]
 have h1:=eP ha
 have h2:=eP hb
 have h1':((nl (val a):Nat):Int)≤(a.length:Nat):=by omega
 have h2':((nl (val b):Nat):Int)≤(b.length:Nat):=by omega
 refine cO (lN a) (L.length a ha la) rfl PH.nil_le ?_
 simp -implicitDefEqProofs only[go_sem,ν,γ,reduceCtorEq,h1',or_true,bhV,gI ha]
 refine cO (lN b) (L.length b hb lb) rfl PH.nil_le ?_
 simp -implicitDefEqProofs only[go_sem,ν,γ,reduceCtorEq,h2',or_true,bhV,gI hb]
 have va:=aX (val a)
 have vb:=aX (val b)
 have:=aPX L (aH (val a)) (aH (val b)) (bD _) (bD _) (by rw[bH]; omega) (by rw[bH]; omega)
 rw[va,vb] at this
 have:=fun F f0 f1=>this F f0 f1
 simp -implicitDefEqProofs only[go_sem] at this
 exact this _ rfl rfl
end Go.PM
namespace Go.PM
open Go Go.Na
theorem YU {A P W Z:List Nat} {i:Nat} (hP:P.length=i) (hi:i<W.length):(aE (A++(P++W.drop i)++Z))[A.length+i]?=some [.int .u32 ((W[i]:Nat):Int)]:=by
 have hl:A.length+i<(A++(P++W.drop i)++Z).length:=by simp; omega
 rw[bJ _ hl]
 congr 4
 rw[List.getElem_append_left (by simp; omega),List.getElem_append_right (by omega),List.getElem_append_right (by omega),List.getElem_drop]
 congr 1
 omega
theorem BK {A P W Z:List Nat} {i:Nat} (hP:P.length=i) (hi:i<W.length) (v:Nat):(aE (A++(P++W.drop i)++Z)).set (A.length+i) [.int .u32 (v:Int)]=aE (A++((P++[v])++W.drop (i+1))++Z):=by
 rw[eQ]
 congr 1
 rw[List.set_append_left _ _ (by simp; omega),bjR _ _ (by omega),bjR _ _ (by omega),biQ hi]
 rw[show A.length+i-A.length-P.length=0 by omega,List.set_cons_zero]
 simp
theorem aTJ {t:Nat} (h:t<18446744073709551616):jF .and .u64 (t:Int) 4294967295=some (.int .u64 ((t%4294967296:Nat):Int)):=by
 show some (PV.int .u64 (IntKind.u64.wrap (((BitVec.ofInt 64 (t:Int) &&& BitVec.ofInt 64 (4294967295:Int)).toNat:Nat):Int)))=_
 have e:BitVec.ofInt 64 (4294967295:Int)=BitVec.ofNat 64 4294967295:=by rfl
 rw[e,BitVec.ofInt_natCast,BitVec.toNat_and,BitVec.toNat_ofNat,BitVec.toNat_ofNat,bhX (by simpa using h)]
 have e2:(4294967295:Nat)%2 ^ 64=2 ^ 32-1:=by decide
 rw[e2,Nat.and_two_pow_sub_one_eq_mod]
 rw[aZ (Nat.lt_of_lt_of_le (biB _ (by decide)) (by decide))]
theorem aTL {c f x:Nat} (hc:c<4294967296) (hf:f≤4294967296) (hx:x<4294967296):c+f*x<18446744073709551616∧(c+f*x)/4294967296<4294967296∧f*x≤4294967296*4294967295:=by
 have:f*x≤4294967296*4294967295:=Nat.mul_le_mul hf (by omega)
 refine⟨by omega,?_,this⟩
 omega
def auX (v:List Nat) (j o i c b:Nat) (f:Nat):PF:=((((((((PF.nil.set 0 (.osl o 1 j (v.length+1))).set 1 (aF v)).set 2 (.int .u64 f)).set 7 (.int .u64 c)).set 8 (.int .u64 b)).set 13 (aF v)).set 14 (.int .i64 (v.length:Nat))).set 15 (.int .i64 i))
def EY (n w m:Nat):Nat:=if w<m then w+4294967296 ^ n-m else w-m
theorem auY {C:Ctx} (A W Z v:List Nat) (f:Nat) (hW:Lim W) (hv:Lim v) (hl:W.length=v.length+1) (h1:A.length+v.length≤100000) (hf:f≤4294967296) (hfit:val v*f≤val W+4294967296 ^ (v.length+1)) (o:Nat) :
  rH.wp C (aY sU.res (fun r H'=>r=.bool (decide (val W<val v*f))∧H'=PH.nil.set o (.rows 1 (aE (A++cW (v.length+1) (EY (v.length+1) (val W) (val v*f))++Z)))))
   (PF.args [.osl o 1 A.length (v.length+1),aF v,.int .u64 f]) (PH.nil.set o (.rows 1 (aE (A++W++Z)))):=by
 simp -implicitDefEqProofs only[go_sem,γ,rH,JK,JL,JM,sU]
 refine wp_loop (α:=List Nat × Nat × Nat) (fun t=>auX v A.length o t.1.length t.2.1 t.2.2 f) (fun t=>PH.nil.set o (.rows 1 (aE (A++(t.1++W.drop t.1.length)++Z))))
  (fun t=>t.1.length≤v.length∧Lim t.1∧t.2.1<4294967296∧t.2.2≤1∧val (W.take t.1.length)+4294967296 ^ t.1.length*t.2.2+4294967296 ^ t.1.length*t.2.1=val t.1+val (v.take t.1.length)*f) (fun t=>v.length-t.1.length) ([],0,0)
  ⟨by simp,by simp[Lim],by simp,by simp,by simp[val]⟩ ?_ (PH.aA PH.nil_le (by simp -implicitDefEqProofs only[go_sem,bjB,bhV,List.nil_append])) ?_
 ·unfold auX
  (repeat' (first|exact PF.nil_le|refine PF.aA ?_ ?_))<;>first|(simp -implicitDefEqProofs only[go_sem,γ,reduceCtorEq]<;>rfl)|rfl
 rintro⟨P,c,b⟩ ⟨hP,hLim,hc,hb,hval⟩
 simp only at hP hLim hc hb hval
 simp -implicitDefEqProofs only[go_sem,γ,reduceCtorEq,GO,JN,auX]
 by_cases c1:P.length<v.length
 ·have c1':(P.length:Int)<(v.length:Nat):=by omega
  have c2:P.length<W.length:=by omega
  have c2':(P.length:Int)<((v.length+1:Nat):Int):=by omega
  have hx:=hv _ (bgY c1)
  have hw:=hW _ (bgY c2)
  have htv:=bT v c1
  have htw:=bT W c2
  have hat:=YU (A:=A) (Z:=Z) (P:=P) rfl c2
  have hset:=BK (A:=A) (Z:=Z) (P:=P) rfl c2
  generalize hxe:v[P.length]=x at *
  generalize hwe:W[P.length]=y at *
  have hvx:(aE v)[P.length]?=some [.int .u32 ((x:Nat):Int)]:=by rw[bJ v c1,hxe]
  obtain⟨k1,k2,k3⟩:=aTL hc hf hx
  have ex:IntKind.u64.wrap ((x:Nat):Int)=((x:Nat):Int):=aZ (by omega)
  have ey:IntKind.u64.wrap ((y:Nat):Int)=((y:Nat):Int):=aZ (by omega)
  have em:IntKind.u64.wrap ((f:Int)*(x:Int))=((f*x:Nat):Int):=by
   rw[show (f:Int)*(x:Int)=((f*x:Nat):Int) by simp]
   exact aZ (by omega)
  have hlt64:c+f*x<18446744073709551616:=k1
  have ea:IntKind.u64.wrap ((c:Int)+((f*x:Nat):Int))=((c+f*x:Nat):Int):=eH hlt64
  have eand:=aTJ hlt64
  have hvt:val (v.take (P.length+1))*f=val (v.take P.length)*f+4294967296 ^ P.length*(f*x):=by rw[htv,bhT,bhL,bhR x f]
  generalize f*x=fx at *
  have hmod:(c+fx)%4294967296<4294967296:=biB _ (by decide)
  obtain⟨s1,s2,s3,s4⟩:=awJ (a:=y) (bor:=b) (b:=(c+fx)%4294967296) hw hmod hb (IntKind.u64.wrap (IntKind.u64.wrap ((y:Int)-(((c+fx)%4294967296:Nat):Int))-(b:Int))) (by rw[eT,eT]; omega)
  generalize hd:KI y b ((c+fx)%4294967296)=d at *
  generalize hbb:TU y b ((c+fx)%4294967296)=b' at *
  have hb':b'≤1:=by rw[← hbb]; unfold TU; split<;>omega
  have hs:=hset d
  simp -implicitDefEqProofs only[go_sem,γ,reduceCtorEq,c1',JO,hvx,JP,ex,em,ea,JQ,c2',hat,ey,eand,JR,s1,hs,JS,aMC,s2,JT,tY,GP,aK (show P.length<9223372036854775807 by omega)]
  refine aI (P++[d],(c+fx)/4294967296,b') ⟨by simp; omega,hLim.app fun z hz=>by simp at hz; omega,k2,hb',?_⟩ (by simp; omega) ?_ (PH.aA PH.nil_le ?_)
  ·simp only
   rw[bgW,bhA,gL,htw,hvt,biJ,bhL,bhL]
   have h4:4294967296 ^ P.length*y+4294967296 ^ P.length*(4294967296*b')=4294967296 ^ P.length*d+4294967296 ^ P.length*((c+fx)%4294967296)+4294967296 ^ P.length*b:=by
    rw[← bhD,s3,bhD,bhD]
   have h5:4294967296 ^ P.length*(4294967296*((c+fx)/4294967296))+4294967296 ^ P.length*((c+fx)%4294967296)=4294967296 ^ P.length*c+4294967296 ^ P.length*fx:=by
    rw[← bhD,bjV,bhD]
   omega
  ·simp only
   rw[bgW,bhA]
   (repeat' (first|exact PF.nil_le|refine PF.aA ?_ ?_))<;>first|(simp -implicitDefEqProofs only[go_sem,γ,reduceCtorEq]<;>rfl)|rfl
  ·simp only
   rw[bgW,bhA]
   simp -implicitDefEqProofs only[go_sem]
 ·have e:P.length=v.length:=by omega
  have c1':¬ (P.length:Int)<(v.length:Nat):=by omega
  have c2:v.length<W.length:=by omega
  have c2':((v.length:Nat):Int)<((v.length+1:Nat):Int):=by omega
  have hw:=hW _ (bgY c2)
  have htw:=bT W c2
  have hat:=YU (A:=A) (Z:=Z) (P:=P) e c2
  have hset:=BK (A:=A) (Z:=Z) (P:=P) e c2
  have hWall:val (W.take (v.length+1))=val W:=by rw[bhI (by omega)]
  generalize hwe:W[v.length]=y at *
  have ey:IntKind.u64.wrap ((y:Nat):Int)=((y:Nat):Int):=aZ (by omega)
  have hP':=eG hLim
  rw[e] at hval hP'
  rw[bhZ] at hval
  rw[hWall] at htw
  have hpow:4294967296 ^ (v.length+1)=4294967296 ^ v.length*4294967296:=biJ _ _
  have key:val W+4294967296 ^ v.length*(b+c)=val P+val v*f+4294967296 ^ v.length*y:=by rw[htw,bhD]; omega
  have hbc:b+c≤y+4294967296:=by
   rcases bhK (y+4294967296) (b+c) with h | h
   ·exfalso
    have:4294967296 ^ v.length*(y+4294967296+1)≤4294967296 ^ v.length*(b+c):=biX _ h
    rw[bhD,bhD,Nat.mul_one] at this
    omega
   ·exact h
  have hlast:∃ d k:Nat,d<4294967296∧k≤1∧y+4294967296*k=d+(b+c)∧IntKind.u32.wrap (IntKind.u64.wrap (IntKind.u64.wrap ((y:Int)-(c:Int))-(b:Int)))=(d:Int)∧((IntKind.u64.wrap (IntKind.u64.wrap ((y:Int)-(c:Int))-(b:Int))/9223372036854775808==1)=decide (k=1)):=by
   rw[QX,eT,eT]
   by_cases h:y<b+c
   ·refine⟨y+4294967296-(b+c),1,by omega,by omega,by omega,by omega,?_⟩
    simp only[decide_true]
    exact bS (by omega)
   ·refine⟨y-(b+c),0,by omega,by omega,by omega,by omega,?_⟩
    exact bF (by omega)
  obtain⟨d,k,hd,hk,hy,w1,w2⟩:=hlast
  have hs:=hset d
  have hN:val (P++[d])+val v*f=val W+4294967296 ^ (v.length+1)*k:=by
   have:4294967296 ^ v.length*y+4294967296 ^ v.length*(4294967296*k)=4294967296 ^ v.length*d+4294967296 ^ v.length*(b+c):=by rw[← bhD,hy,bhD]
   rw[gL,e,hpow,bhL]
   omega
  have hLd:Lim (P++[d]):=hLim.app fun z hz=>by simp at hz; omega
  have hdl:=eG hLd
  rw[bgW,bhA,e] at hdl
  have hk1:decide (k=1)=decide (val W<val v*f):=by
   congr 1
   apply propext
   constructor
   ·intro h; subst h; omega
   ·intro h
    rcases bjA k with h0 | h0
    ·subst h0; omega
    ·omega
  have hval':EY (v.length+1) (val W) (val v*f)=val (P++[d]):=by
   unfold EY
   split
   ·rename_i h
    have:k=1:=by simpa [h] using hk1
    subst this; omega
   ·rename_i h
    have:k=0:=by
     have:¬ k=1:=by simpa [h] using hk1
     omega
    subst this; omega
  have hD:cW (v.length+1) (EY (v.length+1) (val W) (val v*f))=P++[d]:=by
   have:=CA hLd
   rw[bgW,bhA,e] at this
   rw[hval',this]
  have hdr:W.drop (v.length+1)=[]:=bkA (by omega)
  simp -implicitDefEqProofs only[go_sem,γ,reduceCtorEq,c1',GQ,e,c2',hat,ey,GR,w1,hs,GT,aMC,w2,hk1]
  refine aW (vs:=[.bool (decide (val W<val v*f))]) (.inr rfl) (PH.nil.set o (.rows 1 (aE (A++(P++[d]++W.drop (v.length+1))++Z)))) rfl (PH.aA PH.nil_le (by simp -implicitDefEqProofs only[go_sem])) ⟨rfl,?_⟩
  rw[hD,hdr,biN]
end Go.PM
namespace Go.Na
theorem aEA {xs ys:List Nat} (hx:Lim xs) (hy:Lim ys) (hl:xs.length=ys.length) (hv:val xs=val ys):xs=ys:=by
 rw[← CA hx,← CA hy,hl,hv]
theorem aZK {k n:Nat} {xs:List Nat} (hx:Lim xs) (hl:xs.length=k) (hv:val xs=n%4294967296 ^ k):cW k n=xs :=
 aEA (kI k n) hx (by rw[jH,hl]) (by rw[wE,hv])
end Go.Na
namespace Go.PM
open Go Go.Na
def auR (v:List Nat) (j o i c:Nat):PF:=((((((PF.nil.set 0 (.osl o 1 j (v.length+1))).set 1 (aF v)).set 4 (.int .u64 c)).set 7 (aF v)).set 8 (.int .i64 (v.length:Nat))).set 9 (.int .i64 i))
theorem aAM {C:Ctx} (A W Z v:List Nat) (hW:Lim W) (hv:Lim v) (hl:W.length=v.length+1) (h1:A.length+v.length≤100000) (o:Nat) :
  tG.wp C (aY vP.res (fun r H'=>r=.tup []∧H'=PH.nil.set o (.rows 1 (aE (A++cW (v.length+1) (val W+val v)++Z)))))
   (PF.args [.osl o 1 A.length (v.length+1),aF v]) (PH.nil.set o (.rows 1 (aE (A++W++Z)))):=by
 simp -implicitDefEqProofs only[go_sem,γ,tG,PR,PS,vP]
 refine wp_loop (α:=List Nat × Nat) (fun t=>auR v A.length o t.1.length t.2) (fun t=>PH.nil.set o (.rows 1 (aE (A++(t.1++W.drop t.1.length)++Z))))
  (fun t=>t.1.length≤v.length∧Lim t.1∧t.2≤1∧val (W.take t.1.length)+val (v.take t.1.length)=val t.1+4294967296 ^ t.1.length*t.2) (fun t=>v.length-t.1.length) ([],0)
  ⟨by simp,by simp[Lim],by simp,by simp[val]⟩ ?_ (PH.aA PH.nil_le (by simp -implicitDefEqProofs only[go_sem,bjB,bhV,List.nil_append])) ?_
 ·unfold auR
  (repeat' (first|exact PF.nil_le|refine PF.aA ?_ ?_))<;>first|(simp -implicitDefEqProofs only[go_sem,γ,reduceCtorEq]<;>rfl)|rfl
 rintro⟨P,c⟩ ⟨hP,hLim,hc,hval⟩
 simp only at hP hLim hc hval
 simp -implicitDefEqProofs only[go_sem,γ,reduceCtorEq,PQ,PT,auR]
 by_cases c1:P.length<v.length
 ·have c1':(P.length:Int)<(v.length:Nat):=by omega
  have c2:P.length<W.length:=by omega
  have c2':(P.length:Int)<((v.length+1:Nat):Int):=by omega
  have hx:=hv _ (bgY c1)
  have hw:=hW _ (bgY c2)
  have htv:=bT v c1
  have htw:=bT W c2
  have hat:=YU (A:=A) (Z:=Z) (P:=P) rfl c2
  have hset:=BK (A:=A) (Z:=Z) (P:=P) rfl c2
  generalize hxe:v[P.length]=x at *
  generalize hwe:W[P.length]=y at *
  have hvx:(aE v)[P.length]?=some [.int .u32 ((x:Nat):Int)]:=by rw[bJ v c1,hxe]
  have ex:IntKind.u64.wrap ((x:Nat):Int)=((x:Nat):Int):=aZ (by omega)
  have ey:IntKind.u64.wrap ((y:Nat):Int)=((y:Nat):Int):=aZ (by omega)
  have e1:IntKind.u64.wrap ((y:Int)+(x:Int))=((y+x:Nat):Int):=eH (by omega)
  have e2:IntKind.u64.wrap ((c:Int)+((y+x:Nat):Int))=((c+(y+x):Nat):Int):=eH (by omega)
  have hs:=hset ((c+(y+x))%4294967296)
  simp -implicitDefEqProofs only[go_sem,γ,reduceCtorEq,c1',PU,hvx,PW,c2',hat,ex,ey,e1,e2,PX,bX,hs,PY,tY,PZ,aK (show P.length<9223372036854775807 by omega)]
  refine aI (P++[(c+(y+x))%4294967296],(c+(y+x))/4294967296) ⟨by simp; omega,hLim.app fun z hz=>by simp at hz; subst hz; exact biB _ (by decide),by simp only; omega,?_⟩ (by simp; omega) ?_ (PH.aA PH.nil_le ?_)
  ·simp only
   rw[bgW,bhA,gL,htw,htv,biJ,bhL]
   have h5:4294967296 ^ P.length*(4294967296*((c+(y+x))/4294967296))+4294967296 ^ P.length*((c+(y+x))%4294967296)=4294967296 ^ P.length*c+(4294967296 ^ P.length*y+4294967296 ^ P.length*x):=by
    rw[← bhD,bjV,bhD,bhD]
   omega
  ·simp only
   rw[bgW,bhA]
   (repeat' (first|exact PF.nil_le|refine PF.aA ?_ ?_))<;>first|(simp -implicitDefEqProofs only[go_sem,γ,reduceCtorEq]<;>rfl)|rfl
  ·simp only
   rw[bgW,bhA]
   simp -implicitDefEqProofs only[go_sem]
 ·have e:P.length=v.length:=by omega
  have c1':¬ (P.length:Int)<(v.length:Nat):=by omega
  have c2:v.length<W.length:=by omega
  have c2':((v.length:Nat):Int)<((v.length+1:Nat):Int):=by omega
  have hw:=hW _ (bgY c2)
  have htw:=bT W c2
  have hat:=YU (A:=A) (Z:=Z) (P:=P) e c2
  have hset:=BK (A:=A) (Z:=Z) (P:=P) e c2
  have hWall:val (W.take (v.length+1))=val W:=by rw[bhI (by omega)]
  generalize hwe:W[v.length]=y at *
  have hP':=eG hLim
  rw[e] at hval hP'
  rw[bhZ] at hval
  rw[hWall] at htw
  have ec:IntKind.u32.wrap ((c:Nat):Int)=((c:Nat):Int):=by rw[bX,bhX (by omega)]
  have ey:IntKind.u32.wrap ((y:Int)+(c:Int))=(((y+c)%4294967296:Nat):Int):=by
   rw[show (y:Int)+(c:Int)=((y+c:Nat):Int) by omega,bX]
  have hs:=hset ((y+c)%4294967296)
  have hLd:Lim (P++[(y+c)%4294967296]):=hLim.app fun z hz=>by simp at hz; subst hz; exact biB _ (by decide)
  have hdl:=eG hLd
  rw[bgW,bhA,e] at hdl
  have hD:cW (v.length+1) (val W+val v)=P++[(y+c)%4294967296]:=by
   refine aZK hLd (by rw[bgW,bhA,e]) ?_
   have:val W+val v=val (P++[(y+c)%4294967296])+4294967296 ^ (v.length+1)*((y+c)/4294967296):=by
    rw[gL,e,biJ,bhL,biW,← bhD,Nat.mod_add_div,bhD]
    omega
   rw[this,Nat.add_mul_mod_self_left,bhX hdl]
  have hdr:W.drop (v.length+1)=[]:=bkA (by omega)
  simp -implicitDefEqProofs only[go_sem,γ,reduceCtorEq,c1',QA,e,c2',hat,ec,ey,hs]
  refine aW (vs:=[]) (.inl rfl) (PH.nil.set o (.rows 1 (aE (A++(P++[(y+c)%4294967296]++W.drop (v.length+1))++Z)))) rfl (PH.aA PH.nil_le (by simp -implicitDefEqProofs only[go_sem])) ⟨rfl,?_⟩
  rw[hD,hdr,biN]
def aLK (o n:Nat) (len:Nat):PF:=((PF.nil.set 0 (.osl o 1 0 len)).set 3 (.int .i64 n))
theorem aAL {C:Ctx} (xs:List Nat) (hx:Lim xs) (hl:xs.length≤16777216) (o:Nat):mM.wp C (aY rG.res (fun r H'=>r=.int .i64 (nl (val xs):Nat)∧H'=PH.nil.set o (.rows 1 (aE xs)))) (PF.args [.osl o 1 0 xs.length]) (PH.nil.set o (.rows 1 (aE xs))):=by
 simp -implicitDefEqProofs only[go_sem,γ,reduceCtorEq,mM,EG,EH,rG]
 refine wp_loop (α:=Nat) (fun n=>aLK o n xs.length) (fun _=>PH.nil.set o (.rows 1 (aE xs))) (fun n=>n≤xs.length∧∀ j x,n≤j→xs[j]?=some x→x=0) (fun n=>n) xs.length ⟨bgX _,fun j x h e=>by rw[biE h] at e; cases e⟩ ?_ PH.le_refl ?_
 ·unfold aLK
  (repeat' (first|exact PF.nil_le|refine PF.aA ?_ ?_))<;>first|(simp -implicitDefEqProofs only[go_sem,γ,reduceCtorEq]<;>rfl)|rfl
 rintro n ⟨hn,hz⟩
 have out:(∀ x,0<n→xs[n-1]?=some x→x≠0)→nl (val xs)=n:=fun h=>aGW hx hn hz h
 simp -implicitDefEqProofs only[go_sem,γ,reduceCtorEq,EF,EI,aLK]
 by_cases h0:(n:Int)>0
 ·have hp:0<n:=by omega
  have hi:=bJ xs (show n-1<xs.length by omega)
  have hlt:((n-1:Nat):Int)<(xs.length:Nat):=by omega
  simp -implicitDefEqProofs only[go_sem,γ,reduceCtorEq,h0,tB (show n≤9223372036854775807 by omega) hp,hi,hlt]
  by_cases hz0:xs[n-1]=0
  ·simp -implicitDefEqProofs only[go_sem,γ,reduceCtorEq,bS (show ((xs[n-1]:Nat):Int)=0 by omega),EJ,tB (show n≤9223372036854775807 by omega) hp]
   refine aI (n-1) ⟨by omega,fun j x hj he=>?_⟩ (by omega) ?_ PH.le_refl
   ·rcases bhK j n with h | h
    ·have:j=n-1:=by omega
     subst this
     rw[bhH (by omega)] at he
     cases he; exact hz0
    ·exact hz j x h he
   ·(repeat' (first|exact PF.nil_le|refine PF.aA ?_ ?_))<;>first|(simp -implicitDefEqProofs only[go_sem,γ,reduceCtorEq]<;>rfl)|rfl
  ·simp -implicitDefEqProofs only[go_sem,γ,reduceCtorEq,bF (show ((xs[n-1]:Nat):Int)≠0 by omega),qN]
   refine aW (.inr rfl) _ rfl PH.le_refl ⟨?_,rfl⟩
   rw[out fun x _ he=>by rw[bhH (by omega)] at he; cases he; exact hz0]
   rfl
 ·simp -implicitDefEqProofs only[go_sem,γ,reduceCtorEq,h0,qN]
  refine aW (.inr rfl) _ rfl PH.le_refl ⟨?_,rfl⟩
  rw[out fun x h=>by omega]
  rfl
end Go.PM
namespace Go.Na
structure Kn (V W top next Vr head u2 Wr p:Nat):Prop where
 hV:V=top*(4294967296*p)+next*p+Vr
 hW:W=head*(4294967296*p)+u2*p+Wr
 hVr:Vr<p
 hWr:Wr<p
 htop:2147483648≤top
 hnext:next<4294967296
 hu2:u2<4294967296
 hlt:W<V*4294967296
section
variable {V W top next Vr head u2 Wr p:Nat}
theorem Kn.low (K:Kn V W top next Vr head u2 Wr p):next*p+Vr<4294967296*p∧u2*p+Wr<4294967296*p:=by
 have h1:(next+1)*p≤4294967296*p:=bhU _ K.hnext
 have h2:(u2+1)*p≤4294967296*p:=bhU _ K.hu2
 rw[bhT,Nat.one_mul] at h1 h2
 have:=K.hVr
 have:=K.hWr
 omega
theorem Kn.amC (K:Kn V W top next Vr head u2 Wr p):0<V∧4294967296*p≤V∧0<p:=by
 have:=K.hVr
 have h:1*(4294967296*p)≤top*(4294967296*p):=bhU _ (by have:=K.htop; omega)
 have:=K.hV
 omega
theorem Kn.a5E (K:Kn V W top next Vr head u2 Wr p):W/V<4294967296:=by
 rw[bjL K.amC.1,bhR]; exact K.hlt
theorem Kn.g0 (K:Kn V W top next Vr head u2 Wr p):W/V≤head/top:=by
 have ht:0<top:=by have:=K.htop; omega
 rw[Nat.le_div_iff_mul_le ht]
 have h1:W/V*V≤W:=Nat.div_mul_le_self W V
 have h2:W/V*(top*(4294967296*p))≤W/V*V:=biX _ (by have:=K.hV; omega)
 have h3:=K.low.2
 have h4:=K.hW
 have h5:(W/V*top)*(4294967296*p)<(head+1)*(4294967296*p):=by
  rw[bhL,bhT,Nat.one_mul]; omega
 have:=Nat.lt_of_mul_lt_mul_right h5
 omega
theorem Kn.g1 (K:Kn V W top next Vr head u2 Wr p) {g r:Nat} (hg:g*top+r=head) (hq:W/V≤g) (h:g≥4294967296∨g*next>r*4294967296+u2):1≤g∧W/V≤g-1:=by
 have hql:=K.a5E
 have hdiv:=Nat.div_mul_le_self W V
 generalize W/V=Q at *
 rcases h with h | h
 ·omega
 ·have hne:Q≠g:=by
   intro e
   have h1:g*V≤W:=by rw[← e]; exact hdiv
   have h2:g*V=g*top*(4294967296*p)+g*next*p+g*Vr:=by rw[K.hV,bhD,bhD,bhL,bhL]
   have h3:(r*4294967296+u2+1)*p≤g*next*p:=bhU _ h
   rw[bhT,bhT,Nat.one_mul,bhL r] at h3
   have h4:g*top*(4294967296*p)+r*(4294967296*p)=head*(4294967296*p):=by rw[← bhT,hg]
   have:=K.hW
   have:=K.hWr
   omega
  omega
theorem Kn.g2 (K:Kn V W top next Vr head u2 Wr p) {g r:Nat} (hg:g*top+r=head) (hl:g≤4294967296) (h:g*next≤r*4294967296+u2):g≤W/V+1:=by
 rcases bjA g with e | e
 ·rw[e]; exact bhE _
 have h2:g*V=g*top*(4294967296*p)+g*next*p+g*Vr:=by rw[K.hV,bhD,bhD,bhL,bhL]
 have h3:g*next*p≤(r*4294967296+u2)*p:=bhU _ h
 rw[bhT,bhL r] at h3
 have h4:g*top*(4294967296*p)+r*(4294967296*p)=head*(4294967296*p):=by rw[← bhT,hg]
 have h5:g*Vr≤4294967296*Vr:=bhU _ hl
 have h6:4294967296*(Vr+1)≤4294967296*p:=biX _ K.hVr
 have hV:=K.amC
 have hW:=K.hW
 have h7:(g-1)*V≤W:=by
  have:g*V=(g-1)*V+V:=by
   obtain⟨k,rfl⟩:∃ k,g=k+1:=⟨g-1,by omega⟩
   rw[bhT,Nat.one_mul]; rfl
  omega
 have:=(Nat.le_div_iff_mul_le hV.1).2 h7
 generalize W/V=Q at *
 clear h2 h3 h4 h5 h7
 omega
theorem Kn.g3 (K:Kn V W top next Vr head u2 Wr p) {g r:Nat} (hg:g*top+r=head) (hl:g≤4294967296) (hr:4294967296≤r):g≤W/V+1:=by
 have hlow:=K.low.1
 have hV:=K.amC
 have h2:g*V=g*top*(4294967296*p)+g*(next*p+Vr):=by rw[K.hV,biW,bhD,bhL]
 have h3:g*(next*p+Vr)≤4294967296*(4294967296*p):=Nat.mul_le_mul hl (by omega)
 have h4:g*top*(4294967296*p)+r*(4294967296*p)=head*(4294967296*p):=by rw[← bhT,hg]
 have h5:4294967296*(4294967296*p)≤r*(4294967296*p):=bhU _ hr
 have hW:=K.hW
 have h7:g*V≤W:=by omega
 have:=(Nat.le_div_iff_mul_le hV.1).2 h7
 generalize W/V=Q at *
 clear h2 h3 h4 h5 h7
 omega
theorem Kn.g4 (K:Kn V W top next Vr head u2 Wr p):head/top≤4294967296+1:=by
 have hlow:=K.low.1
 have hV:=K.amC
 have hW:=K.hW
 have hlt:=K.hlt
 have ht:=K.htop
 have h1:head<(top+1)*4294967296:=by
  have h2:V<(top+1)*(4294967296*p):=by rw[K.hV,bhT,Nat.one_mul]; omega
  have h3:V*4294967296≤(top+1)*(4294967296*p)*4294967296:=bhU _ (Nat.le_of_lt h2)
  have h4:head*(4294967296*p)<(top+1)*4294967296*(4294967296*p):=by
   have:(top+1)*(4294967296*p)*4294967296=(top+1)*4294967296*(4294967296*p):=by rw[bhL,bhR (4294967296*p) 4294967296,← bhL]
   omega
  exact Nat.lt_of_mul_lt_mul_right h4
 have h5:head/top<4294967296+2:=by
  rw[bjL (by omega)]
  omega
 omega
end
theorem sL:∀ (k n:Nat),cW (k+1) n=cW k n++[n/4294967296 ^ k%4294967296]
 | 0,n=>by simp[cW]
 | k+1,n=>by
  show (n%4294967296)::cW (k+1) (n/4294967296)=(n%4294967296)::cW k (n/4294967296)++[n/4294967296 ^ (k+1)%4294967296]
  rw[sL k (n/4294967296),Nat.div_div_eq_div_mul,biJ,bhR 4294967296]
  rfl
theorem rM {xs:List Nat} (h:Lim xs):∀ {k:Nat},k≤xs.length→val (xs.drop k)=val xs/4294967296 ^ k:=by
 intro k hk
 have e:val xs=val (xs.take k)+4294967296 ^ k*val (xs.drop k):=by
  conv=>lhs; rw[← bjE k xs,fA,bhJ,biT hk]
 have hl:=eG (h.take k)
 rw[bhJ,biT hk] at hl
 rw[e,Nat.add_mul_div_left _ _ (bjG (by decide)),bjW hl,bhS]
theorem QC {R s i u0 u1 X:Nat} (hs:s<32) (h:R/4294967296 ^ i=u0+4294967296*(u1+4294967296*X)):(R/2 ^ s)/4294967296 ^ i%4294967296=(4294967296*u1+u0)/2 ^ s%4294967296:=by
 rw[Nat.div_div_eq_div_mul,bhR (2 ^ s),← Nat.div_div_eq_div_mul,h]
 have hp:4294967296*4294967296=2 ^ s*(2 ^ (32-s)*4294967296):=by
  rw[← bhL,← Nat.pow_add,show s+(32-s)=32 by omega]
 have e:u0+4294967296*(u1+4294967296*X)=(4294967296*u1+u0)+2 ^ s*(2 ^ (32-s)*X*4294967296):=by
  have:4294967296*(4294967296*X)=2 ^ s*(2 ^ (32-s)*X*4294967296):=by
   rw[← bhL,hp,bhL,bhL,bhL,bhR 4294967296 X]
  rw[bhD,this]; omega
 rw[e,Nat.add_mul_div_left _ _ (bjG (by decide)),Nat.add_mul_mod_self_right]
end Go.Na
namespace Go.PM
open Go Go.Na
theorem a2G {A W Z:List Nat} {i:Nat} (hi:i<W.length):(aE (A++W++Z))[A.length+i]?=some [.int .u32 ((W[i]:Nat):Int)]:=by
 have hl:A.length+i<(A++W++Z).length:=by simp; omega
 rw[bJ _ hl]
 congr 4
 rw[List.getElem_append_left (by simp; omega),List.getElem_append_right (by omega)]
 congr 1
 omega
def dF (u v:PV) (n:Nat) (q:PV) (top next j s:Nat):PF:=((((((((PF.nil.set 8 (.int .u64 s)).set 9 (u)).set 10 (v)).set 11 (.int .i64 n)).set 12 (q)).set 13 (.int .u64 top)).set 14 (.int .u64 next)).set 15 (.int .i64 j))
def dG (u v:PV) (n:Nat) (q:PV) (top next j s g r:Nat):PF:=((((((((((PF.nil.set 8 (.int .u64 s)).set 9 (u)).set 10 (v)).set 11 (.int .i64 n)).set 12 (q)).set 13 (.int .u64 top)).set 14 (.int .u64 next)).set 15 (.int .i64 j)).set 17 (.int .u64 g)).set 18 (.int .u64 r))
theorem akV {C:Ctx} {V Wv top next Vr head u2 Wr p:Nat} (Kk:Kn V Wv top next Vr head u2 Wr p) (htop:top<4294967296) (o lu m j s:Nat) (v q:PV) (hjm:j+m+2<lu) (hlu:lu≤100000) (U:List Nat) (hU:(aE U)[j+m]?=some [.int .u32 (u2:Nat)]) (K:bZ) (F:PF) (H:PH)
  (hF:(dG (.osl o 1 0 lu) v (m+2) q top next j s (head/top) (head%top)).le F) (hH:H o=some (.rows 1 (aE U)))
  (hK:∀ g r F',Wv/V≤g→g≤Wv/V+1→g≤4294967296→(dG (.osl o 1 0 lu) v (m+2) q top next j s g r).le F'→K .normal F' H) :
  aD.wp C (.block 4 (.loop rY)) K F H:=by
 have ht0:0<top:=by have:=Kk.htop; omega
 have hn:=Kk.hnext
 have hu2:=Kk.hu2
 simp -implicitDefEqProofs only[go_sem]
 refine wp_loop (α:=Nat × Nat) (fun t=>dG (.osl o 1 0 lu) v (m+2) q top next j s t.1 t.2) (fun _=>H) (fun t=>t.1*top+t.2=head∧Wv/V≤t.1∧t.1≤4294967296+1∧t.2<4294967296) (fun t=>t.1) (head/top,head%top)
  ⟨by simp only; rw[bhR]; exact bjV head top,Kk.g0,Kk.g4,Nat.lt_trans (biB _ ht0) htop⟩ hF PH.le_refl ?_
 rintro⟨g,r⟩ ⟨hg,hq,hgl,hr⟩
 simp only at hg hq hgl hr
 have e1:IntKind.i64.wrap ((j:Int)+((m+2:Nat):Int))=((j+(m+2):Nat):Int):=fI (by omega)
 have e2:IntKind.i64.wrap (((j+(m+2):Nat):Int)-2)=((j+m:Nat):Int):=by rw[wrap_i64 (by omega) (by omega)]; omega
 have hlt:((j+m:Nat):Int)<(lu:Nat):=by omega
 have eu2:IntKind.u64.wrap ((u2:Nat):Int)=((u2:Nat):Int):=aZ (by omega)
 have esh:shift .shl .u64 (r:Int) 32=some (.int .u64 ((2 ^ 32*r:Nat):Int)):=EW (s:=32) (by omega) (by omega)
 have e32:(2:Nat) ^ 32=4294967296:=by decide
 have eor:=orI (a:=2 ^ 32*r) (b:=u2) (n:=2 ^ 32*r+u2) (by omega) (by omega) (Nat.two_pow_add_eq_or_of_lt (by omega) r).symm (by omega)
 rw[e32] at esh eor
 have more:(g≥4294967296∨g*next>r*4294967296+u2)→∀ F':PF,(dG (.osl o 1 0 lu) v (m+2) q top next j s g r).le F'→aD.wp C (.block 5 (.seq (.region zD) (.seq (.region zE) (.seq (.region zF) (.cond (.tmp 136) (.exit 4) .skip)))))
   (eZ (fun t:Nat × Nat=>dG (.osl o 1 0 lu) v (m+2) q top next j s t.1 t.2) (fun _=>H) (fun t=>t.1*top+t.2=head∧Wv/V≤t.1∧t.1≤4294967296+1∧t.2<4294967296) (fun t=>t.1) g (dY 4 K)) F' H:=by
  intro hc F' hF'
  obtain⟨g1,g2⟩:=Kk.g1 hg hq hc
  have f8:=hF' 8 _ (by unfold dG; simp -implicitDefEqProofs only[go_sem,γ]; rfl)
  have f9:=hF' 9 _ (by unfold dG; simp -implicitDefEqProofs only[go_sem,γ]; rfl)
  have f10:=hF' 10 _ (by unfold dG; simp -implicitDefEqProofs only[go_sem,γ]; rfl)
  have f11:=hF' 11 _ (by unfold dG; simp -implicitDefEqProofs only[go_sem,γ]; rfl)
  have f12:=hF' 12 _ (by unfold dG; simp -implicitDefEqProofs only[go_sem,γ]; rfl)
  have f13:=hF' 13 _ (by unfold dG; simp -implicitDefEqProofs only[go_sem,γ]; rfl)
  have f14:=hF' 14 _ (by unfold dG; simp -implicitDefEqProofs only[go_sem,γ]; rfl)
  have f15:=hF' 15 _ (by unfold dG; simp -implicitDefEqProofs only[go_sem,γ]; rfl)
  have f17:=hF' 17 _ (by unfold dG; simp -implicitDefEqProofs only[go_sem,γ]; rfl)
  have f18:=hF' 18 _ (by unfold dG; simp -implicitDefEqProofs only[go_sem,γ]; rfl)
  have w1:IntKind.u64.wrap ((g:Int)-1)=((g-1:Nat):Int):=by rw[wrap_u64 (by omega) (by omega)]; omega
  have w2:IntKind.u64.wrap ((r:Int)+(top:Int))=((r+top:Nat):Int):=eH (by omega)
  have hg':(g-1)*top+(r+top)=head:=by
   obtain⟨k,rfl⟩:∃ k,g=k+1:=⟨g-1,by omega⟩
   rw[bhT,Nat.one_mul] at hg
   simp only[Nat.add_sub_cancel]
   omega
  simp -implicitDefEqProofs only[go_sem,δ,γ,zD,zE,zF,f17,f18,f13,w1,w2]
  by_cases c:r+top≥4294967296
  ·have c':((r+top:Nat):Int)≥4294967296:=by omega
   simp -implicitDefEqProofs only[go_sem,γ,c']
   refine hK (g-1) (r+top) _ g2 (Kk.g3 hg' (by omega) c) (by omega) ?_
   unfold dG
   repeat' first|exact PF.nil_le|refine PF.aA ?_ ?_|rfl|assumption
  ·have c':¬ ((r+top:Nat):Int)≥4294967296:=by omega
   simp -implicitDefEqProofs only[go_sem,c']
   refine aI (g-1,r+top) ⟨hg',g2,by simp only; omega,by simp only; omega⟩ (by simp only; omega) ?_ PH.le_refl
   unfold dG
   repeat' first|exact PF.nil_le|refine PF.aA ?_ ?_|rfl|assumption
 simp -implicitDefEqProofs only[go_sem,δ,γ,rY,PI,dG]
 by_cases c1:g≥4294967296
 ·have c1':(g:Int)≥4294967296:=by omega
  simp -implicitDefEqProofs only[go_sem,γ,c1']
  have:=more (.inl c1)
  simp -implicitDefEqProofs only[go_sem,δ,dG] at this
  refine this _ ?_
  (repeat' (first|exact PF.nil_le|refine PF.aA ?_ ?_))<;>first|(simp -implicitDefEqProofs only[go_sem,γ]<;>rfl)|rfl
 ·have c1':¬ (g:Int)≥4294967296:=by omega
  have hgn:g*next≤4294967295*4294967295:=Nat.mul_le_mul (by omega) (by omega)
  have em:IntKind.u64.wrap ((g:Int)*(next:Int))=((g*next:Nat):Int):=by
   rw[show (g:Int)*(next:Int)=((g*next:Nat):Int) by simp]
   exact aZ (by omega)
  simp -implicitDefEqProofs only[go_sem,γ,reduceCtorEq,c1',em,esh,e1,e2,hlt,hH,hU,eu2,eor]
  by_cases c2:g*next>r*4294967296+u2
  ·have c2':((g*next:Nat):Int)>((4294967296*r+u2:Nat):Int):=by omega
   simp -implicitDefEqProofs only[go_sem,c2']
   have:=more (.inr c2)
   simp -implicitDefEqProofs only[go_sem,δ,dG] at this
   refine this _ ?_
   (repeat' (first|exact PF.nil_le|refine PF.aA ?_ ?_))<;>first|(simp -implicitDefEqProofs only[go_sem,γ]<;>rfl)|rfl
  ·have c2':¬ ((g*next:Nat):Int)>((4294967296*r+u2:Nat):Int):=by omega
   simp -implicitDefEqProofs only[go_sem,c2']
   refine hK g r _ hq (Kk.g2 hg (by omega) (by omega)) (by omega) ?_
   unfold dG
   (repeat' (first|exact PF.nil_le|refine PF.aA ?_ ?_))<;>first|(simp -implicitDefEqProofs only[go_sem,γ]<;>rfl)|rfl
end Go.PM
namespace Go.Na
theorem a7V {W v:List Nat} {m:Nat} (hW:Lim W) (hv:Lim v) (hlv:v.length=m+2) (hlW:W.length=m+3) (ht:2147483648≤v[m+1]) (hlt:val W<val v*4294967296) :
  Kn (val v) (val W) (v[m+1]) (v[m]) (val (v.take m)) (W[m+2]*4294967296+W[m+1]) (W[m]) (val (W.take m)) (4294967296 ^ m):=by
 have e1:val v=val (v.take m)+4294967296 ^ m*(v[m]+4294967296*v[m+1]):=by
  rw[pF v (show m<v.length by omega)]
  congr 4
  have:v.drop (m+1)=[v[m+1]]:=by
   rw[biQ (by omega),bkA (by omega)]
  rw[this]; simp[val]
 have e2:val W=val (W.take m)+4294967296 ^ m*(W[m]+4294967296*(W[m+1]+4294967296*W[m+2])):=by
  rw[pF W (show m<W.length by omega)]
  congr 4
  have:W.drop (m+1)=[W[m+1],W[m+2]]:=by
   rw[biQ (by omega),biQ (by omega),bkA (by omega)]
  rw[this]; simp[val]
 have l1:=eG (hv.take m)
 have l2:=eG (hW.take m)
 rw[bhJ,biT (by omega)] at l1 l2
 refine⟨?_,?_,l1,l2,ht,hv _ (bgY _),hW _ (bgY _),hlt⟩
 ·rw[e1,bhD,bhR (4294967296 ^ m) (v[m]),← bhL (4294967296 ^ m),bhR (4294967296 ^ m*4294967296),bhR (4294967296 ^ m) 4294967296]
  omega
 ·rw[e2,bhD,bhR (4294967296 ^ m) (W[m]),← bhL (4294967296 ^ m),bhR (4294967296 ^ m*4294967296),bhR (4294967296 ^ m) 4294967296,bhR (W[m+2]),Nat.add_comm (4294967296*W[m+2])]
  omega
end Go.Na
namespace Go.PM
open Go Go.Na
structure alG (C:Ctx):Prop where
 subtract:∀ (A W Z v:List Nat) (f o:Nat),Lim W→Lim v→W.length=v.length+1→A.length+v.length≤100000→f≤4294967296→val v*f≤val W+4294967296 ^ (v.length+1) →
  aJ C 142 [.osl o 1 A.length (v.length+1),aF v,.int .u64 f] (PH.nil.set o (.rows 1 (aE (A++W++Z)))) (fun r H'=>r=.bool (decide (val W<val v*f))∧H'=PH.nil.set o (.rows 1 (aE (A++cW (v.length+1) (EY (v.length+1) (val W) (val v*f))++Z))))
 restore:∀ (A W Z v:List Nat) (o:Nat),Lim W→Lim v→W.length=v.length+1→A.length+v.length≤100000 →
  aJ C 139 [.osl o 1 A.length (v.length+1),aF v] (PH.nil.set o (.rows 1 (aE (A++W++Z)))) (fun r H'=>r=.tup []∧H'=PH.nil.set o (.rows 1 (aE (A++cW (v.length+1) (val W+val v)++Z))))
theorem amV (k n:Nat):cW k (n%4294967296 ^ k)=cW k n :=
 aEA (kI _ _) (kI _ _) (by rw[jH,jH]) (by rw[wE,wE,Nat.mod_mod])
theorem akU {C:Ctx} (D:alG C) (A W Z v Q:List Nat) (m o oq lu s:Nat) (hne:oq≠o) (hW:Lim W) (hv:Lim v) (hlv:v.length=m+2) (hlW:W.length=m+3) (ht:2147483648≤v[m+1]) (hlt:val W<val v*4294967296)
  (hlu:lu=A.length+(m+3)+Z.length) (hmax:lu≤10000) (hjq:A.length<Q.length) (K:bZ) (F:PF) (H:PH) (hF:(dF (.osl o 1 0 lu) (aF v) (m+2) (.osl oq 1 0 Q.length) (v[m+1]) (v[m]) A.length s).le F)
  (hH:H o=some (.rows 1 (aE (A++W++Z)))) (hHq:H oq=some (.rows 1 (aE Q)))
  (hK:∀ F' H',(dF (.osl o 1 0 lu) (aF v) (m+2) (.osl oq 1 0 Q.length) (v[m+1]) (v[m]) A.length s).le F'→H' o=some (.rows 1 (aE (A++cW (m+3) (val W%val v)++Z)))→H' oq=some (.rows 1 (aE (Q.set A.length (val W/val v))))→K .normal F' H') :
  aD.wp C (.block 3 (.seq (.draw zB) (.seq (.draw zC) (.seq (.block 4 (.loop rY)) (.seq (.seq (.region zG) (.cond (.tmp 146) (.seq (.region zH) (.region zI)) .skip)) (.region rZ)))))) K F H:=by
 have Kk:=a7V hW hv hlv hlW ht hlt
 have hgetU:∀ i (h:i<W.length),(aE (A++W++Z))[A.length+i]?=some [.int .u32 ((W[i]:Nat):Int)]:=fun i h=>a2G h
 have g0:=hgetU (m+2) (by omega)
 have g1:=hgetU (m+1) (by omega)
 have g2:=hgetU m (by omega)
 have hq:=Kk.a5E
 have htop:v[m+1]<4294967296:=hv _ (bgY _)
 have hu0:=hW _ (bgY (show m+2<W.length by omega))
 have hu1:=hW _ (bgY (show m+1<W.length by omega))
 have hVpos:=Kk.amC.1
 generalize hte:v[m+1]=top at *
 generalize hnx:v[m]=next at *
 generalize hw0:W[m+2]=u0 at *
 generalize hw1:W[m+1]=u1 at *
 generalize hw2:W[m]=u2 at *
 have f8:=hF 8 _ (by unfold dF; simp -implicitDefEqProofs only[go_sem,γ]; rfl)
 have f9:=hF 9 _ (by unfold dF; simp -implicitDefEqProofs only[go_sem,γ]; rfl)
 have f10:=hF 10 _ (by unfold dF; simp -implicitDefEqProofs only[go_sem,γ]; rfl)
 have f11:=hF 11 _ (by unfold dF; simp -implicitDefEqProofs only[go_sem,γ]; rfl)
 have f12:=hF 12 _ (by unfold dF; simp -implicitDefEqProofs only[go_sem,γ]; rfl)
 have f13:=hF 13 _ (by unfold dF; simp -implicitDefEqProofs only[go_sem,γ]; rfl)
 have f14:=hF 14 _ (by unfold dF; simp -implicitDefEqProofs only[go_sem,γ]; rfl)
 have f15:=hF 15 _ (by unfold dF; simp -implicitDefEqProofs only[go_sem,γ]; rfl)
 have e1:IntKind.i64.wrap ((A.length:Int)+((m+2:Nat):Int))=((A.length+(m+2):Nat):Int):=fI (by omega)
 have e2:IntKind.i64.wrap (((A.length+(m+2):Nat):Int)-1)=((A.length+(m+1):Nat):Int):=by rw[wrap_i64 (by omega) (by omega)]; omega
 have c0:((A.length+(m+2):Nat):Int)<(lu:Nat):=by omega
 have c1:((A.length+(m+1):Nat):Int)<(lu:Nat):=by omega
 have eu0:IntKind.u64.wrap ((u0:Nat):Int)=((u0:Nat):Int):=aZ (by omega)
 have eu1:IntKind.u64.wrap ((u1:Nat):Int)=((u1:Nat):Int):=aZ (by omega)
 have esh:shift .shl .u64 (u0:Int) 32=some (.int .u64 ((2 ^ 32*u0:Nat):Int)):=EW (s:=32) (by omega) (by omega)
 have e32:(2:Nat) ^ 32=4294967296:=by decide
 have eor:=orI (a:=2 ^ 32*u0) (b:=u1) (n:=2 ^ 32*u0+u1) (by omega) (by omega) (Nat.two_pow_add_eq_or_of_lt (by omega) u0).symm (by omega)
 rw[e32] at esh eor
 have hcm:4294967296*u0+u1=u0*4294967296+u1:=by omega
 rw[hcm] at eor
 simp -implicitDefEqProofs only[go_sem]
 refine cA H dU PH.le_refl ?_
 simp -implicitDefEqProofs only[go_sem,γ,reduceCtorEq,zB,f9,f15,f11,e1,e2,c0,c1,hH,g0,g1,eu0,eu1,esh,eor]
 refine cA H dU PH.le_refl ?_
 have ht0:0<top:=by omega
 have htz:¬ ((top:Nat):Int)=0:=by omega
 generalize hhd:u0*4294967296+u1=head at *
 have equo:IntKind.u64.wrap (Int.tdiv ((head:Nat):Int) ((top:Nat):Int))=((head/top:Nat):Int):=by
  rw[show Int.tdiv ((head:Nat):Int) ((top:Nat):Int)=((head/top:Nat):Int) from rfl]
  exact aZ (by have:=Kk.g4; omega)
 have erem:Int.tmod ((head:Nat):Int) ((top:Nat):Int)=((head%top:Nat):Int):=rfl
 simp -implicitDefEqProofs only[go_sem,γ,zC,f13,htz,equo,erem]
 have guess:=akV (C:=C) Kk htop o lu m A.length s (aF v) (.osl oq 1 0 Q.length) (by omega) (by omega) (A++W++Z) g2
 simp -implicitDefEqProofs only[go_sem] at guess
 refine guess _ _ H ?_ hH ?_
 ·unfold dG
  refine PF.aA (PF.aA (PF.aA (PF.aA (PF.aA (PF.aA (PF.aA (PF.aA (PF.aA (PF.aA PF.nil_le ?_) ?_) ?_) ?_) ?_) ?_) ?_) ?_) ?_) ?_<;>simp -implicitDefEqProofs only[go_sem,γ,f8,f9,f10,f11,f12,f13,f14,f15]
 clear guess
 intro g r F' q1 q2 q3 hF'
 have h8:=hF' 8 _ (by unfold dG; simp -implicitDefEqProofs only[go_sem,γ]; rfl)
 have h9:=hF' 9 _ (by unfold dG; simp -implicitDefEqProofs only[go_sem,γ]; rfl)
 have h10:=hF' 10 _ (by unfold dG; simp -implicitDefEqProofs only[go_sem,γ]; rfl)
 have h11:=hF' 11 _ (by unfold dG; simp -implicitDefEqProofs only[go_sem,γ]; rfl)
 have h12:=hF' 12 _ (by unfold dG; simp -implicitDefEqProofs only[go_sem,γ]; rfl)
 have h13:=hF' 13 _ (by unfold dG; simp -implicitDefEqProofs only[go_sem,γ]; rfl)
 have h14:=hF' 14 _ (by unfold dG; simp -implicitDefEqProofs only[go_sem,γ]; rfl)
 have h15:=hF' 15 _ (by unfold dG; simp -implicitDefEqProofs only[go_sem,γ]; rfl)
 have h17:=hF' 17 _ (by unfold dG; simp -implicitDefEqProofs only[go_sem,γ]; rfl)
 have e3:IntKind.i64.wrap (((A.length+(m+2):Nat):Int)+1)=((A.length+(m+3):Nat):Int):=by rw[wrap_i64 (by omega) (by omega)]; omega
 have c3:((A.length:Nat):Int)≤((A.length+(m+3):Nat):Int):=by omega
 have c4:((A.length+(m+3):Nat):Int)≤(lu:Nat):=by omega
 have e4:A.length+(m+3)-A.length=v.length+1:=by omega
 have hvl:v.length+1=m+3:=by omega
 have hdm:val v*(val W/val v)+val W%val v=val W:=bjV _ _
 have hWlt:=eG hW
 rw[hlW] at hWlt
 have hmodlt:val W%val v<val v:=biB _ hVpos
 have hvlt:=eG hv
 rw[hlv] at hvlt
 have hpow:4294967296 ^ (m+3)=4294967296 ^ (m+2)*4294967296:=biJ _ _
 generalize hQd:val W/val v=qd at *
 generalize hRd:val W%val v=rd at *
 have hfin:∀ (F2:PF) (H2:PH),F2 8=some (.int .u64 s)→F2 9=some (.osl o 1 0 lu)→F2 10=some (aF v)→F2 11=some (.int .i64 ((m+2:Nat):Int))→F2 12=some (.osl oq 1 0 Q.length)→F2 13=some (.int .u64 top)→F2 14=some (.int .u64 next)→F2 15=some (.int .i64 A.length)→F2 17=some (.int .u64 qd) →
   H2 o=some (.rows 1 (aE (A++cW (m+3) rd++Z)))→H2 oq=some (.rows 1 (aE Q))→aD.wp C (.region rZ) (dY 3 K) F2 H2:=by
  intro F2 H2 k8 k9 k10 k11 k12 k13 k14 k15 k17 kH kQ
  have hqr:(aE Q)[A.length]?=some [.int .u32 ((Q[A.length]:Nat):Int)]:=bJ Q hjq
  have hlq:((A.length:Nat):Int)<(Q.length:Nat):=by omega
  have eq:IntKind.u32.wrap ((qd:Nat):Int)=((qd:Nat):Int):=by rw[bX,bhX hq]
  have hrow:=eQ Q A.length qd
  have hne':¬ o=oq:=fun h=>hne h.symm
  simp -implicitDefEqProofs only[go_sem,γ,rZ,k12,k15,k17,eq,hlq,kQ,hqr,hrow]
  refine hK _ _ ?_ (by simp -implicitDefEqProofs only[go_sem,hne',kH]) (by simp -implicitDefEqProofs only[go_sem])
  unfold dF
  refine PF.aA (PF.aA (PF.aA (PF.aA (PF.aA (PF.aA (PF.aA (PF.aA PF.nil_le ?_) ?_) ?_) ?_) ?_) ?_) ?_) ?_<;>simp -implicitDefEqProofs only[go_sem,γ,k8,k9,k10,k11,k12,k13,k14,k15]
 have hle:(PH.nil.set o (.rows 1 (aE (A++W++Z)))).le H:=PH.aA PH.nil_le hH
 have hfit:val v*g≤val W+4294967296 ^ (v.length+1):=by
  have:val v*g≤val v*(qd+1):=biX _ q2
  rw[bhD,Nat.mul_one] at this
  rw[hvl,hpow]; omega
 simp -implicitDefEqProofs only[go_sem,γ,reduceCtorEq,zG,h9,h15,h11,e1,e3,c3,c4,e4,h10,h17]
 refine lH (D.subtract A W Z v g o hW hv (by omega) (by omega) q3 hfit) rfl hle ?_
 rintro rr H' ⟨rfl,rfl⟩ -
 rw[PH.qP]
 by_cases hgq:g=qd
 ·subst hgq
  have hneg:¬ val W<val v*g:=by omega
  have hN:EY (v.length+1) (val W) (val v*g)=rd:=by unfold EY; rw[if_neg hneg]; omega
  rw[hN,hvl]
  simp -implicitDefEqProofs only[go_sem,γ,hneg]
  have:=hfin
  simp -implicitDefEqProofs only[go_sem] at this
  refine this _ _ ?_ ?_ ?_ ?_ ?_ ?_ ?_ ?_ ?_ ?_ ?_<;>simp -implicitDefEqProofs only[go_sem,γ,h8,h9,h10,h11,h12,h13,h14,h15,h17,hne,hHq]
 ·have hg1:g=qd+1:=by omega
  subst hg1
  rw[bhD,Nat.mul_one]
  have hneg:val W<val v*qd+val v:=by omega
  have hN:EY (v.length+1) (val W) (val v*qd+val v)=rd+4294967296 ^ (m+3)-val v:=by unfold EY; rw[if_pos hneg,hvl]; omega
  rw[hN]
  have w1:IntKind.u64.wrap (((qd+1:Nat):Int)-1)=((qd:Nat):Int):=by rw[wrap_u64 (by omega) (by omega)]; omega
  simp -implicitDefEqProofs only[go_sem,γ,reduceCtorEq,hneg,zH,h17,w1,zI,h9,h15,h11,e1,e3,c3,c4,e4,h10]
  have hD':val (cW (v.length+1) (rd+4294967296 ^ (m+3)-val v))=rd+4294967296 ^ (m+3)-val v:=lS (by rw[hvl]; omega)
  refine lH (D.restore A (cW (v.length+1) (rd+4294967296 ^ (m+3)-val v)) Z v o (kI _ _) hv (jH _ _) (by omega)) rfl (PH.aA PH.nil_le (by simp -implicitDefEqProofs only[go_sem])) ?_
  rintro rr H' ⟨rfl,rfl⟩ -
  rw[PH.qP,PH.set_set,hD']
  have hfinal:cW (v.length+1) (rd+4294967296 ^ (m+3)-val v+val v)=cW (m+3) rd:=by
   rw[hvl,← amV (m+3) (rd+4294967296 ^ (m+3)-val v+val v)]
   rw[show rd+4294967296 ^ (m+3)-val v+val v=rd+4294967296 ^ (m+3) by omega,Nat.add_mod_right,amV]
  rw[hfinal]
  simp -implicitDefEqProofs only[go_sem]
  have:=hfin
  simp -implicitDefEqProofs only[go_sem] at this
  refine this _ _ ?_ ?_ ?_ ?_ ?_ ?_ ?_ ?_ ?_ ?_ ?_<;>simp -implicitDefEqProofs only[go_sem,γ,h8,h9,h10,h11,h12,h13,h14,h15,hne,hHq]
end Go.PM
namespace Go.PM
open Go
section
variable {C:Ctx} {K:bZ} {F:PF} {H Hs:PH} {S:Spec}
theorem abD {name:Nat} {vs:List PV} {R:PV→PH→Prop} {args:List aN} {st:Bool} {d:Option Nat} {K:PF→PH→Prop} (hS:S name vs=some ([],fun _=>R)) (h:aJ C name vs .nil R) (ha:aN.evs F args=some vs)
  (hex:∀ G:PH,∃ r H',R r H'∧jW G .nil H') (hk:∀ r H',R r H'→jW H .nil H'→Hs.le (H.over .nil H')∧K (F.put d r) (H.over .nil H')):dOp C Hs S st (.call name args) d K F H:=by
 refine⟨vs,[],fun _=>R,ha,hS,fun o ho=>by simp at ho,by rw[EN]; exact h,fun G=>?_,fun r H' hr ha=>?_⟩
 ·obtain⟨r,H',h1,h2⟩:=hex G
  exact⟨r,H',h1,fun o x hx hn=>h2 o x hx (by simp[PH.nil])⟩
 ·rw[EN] at ha ⊢
  exact hk r H' hr ha
theorem PH.over_self (H0:PH) (h:H0.le H):H.over H0 H0=H:=PH.ext fun q=>by
 rw[lO]
 cases e:H0 q with
 | none=>rfl
 | some x=>exact (h q x e).symm
theorem avH {o:Nat} {x:bV} (h:H o=some x):H.only [o]=PH.nil.set o x:=PH.ext fun q=>by
 rw[pC,aV]
 by_cases e:q=o
 ·subst e; simp[h]
 ·simp[e,abS]
theorem RA {name o:Nat} {x:bV} {vs:List PV} {v:PV} {R:PH→PV→PH→Prop} {args:List aN} {st:Bool} {d:Option Nat} {K:PF→PH→Prop} (hS:S name vs=some ([o],R)) (ho:H o=some x)
  (h:aJ C name vs (PH.nil.set o x) (fun r H'=>r=v∧H'=PH.nil.set o x)) (hR1:R (PH.nil.set o x) v (PH.nil.set o x)) (hR2:∀ r H',R (PH.nil.set o x) r H'→r=v∧H'=PH.nil.set o x) (ha:aN.evs F args=some vs) (hle:Hs.le H) (hk:K (F.put d v) H) :
  dOp C Hs S st (.call name args) d K F H:=by
 have e:=avH ho
 refine⟨vs,[o],_,ha,hS,fun q hq=>?_,?_,fun G=>⟨v,_,by rw[e]; exact hR1,fun q y hy hn=>?_⟩,fun r H' hr _=>?_⟩
 ·simp at hq; subst hq; exact⟨x,ho⟩
 ·rw[e]
  exact h.post fun r H' hr=>⟨r,.refl _,by rw[hr.1,hr.2]; exact hR1⟩
 ·rw[e] at hn; rw[hy] at hn; cases hn
 ·rw[e] at hr
  obtain⟨rfl,rfl⟩:=hR2 r H' hr
  rw[e,PH.over_self _ (by rw[← e]; exact acV H [o])]
  exact⟨hle,hk⟩
theorem aAX {c:aD} {α:Type} (Fs:α→PF) (Hs:α→PH) (Pr:α→Prop) (m:α→Nat) (a0:α) (o:Nat) {s:Nat} {rs:List (List PV)} (ho:H o=some (.rows s rs)) (h0:Pr a0) (hF:(Fs a0).le (F.frz o s rs)) (hH:(Hs a0).le (H.frz o s rs))
  (hb:∀ a,Pr a→c.wp C (eZ Fs Hs Pr m (m a) K) (Fs a) (Hs a)):aD.wp C (.loop c) K F H :=
 ⟨α,Fs,Hs,Pr,m,a0,_,_,.step o ho (.refl _ _),h0,hF,hH,hb⟩
@[go_sem] theorem MV (o s:Nat) (rs:List (List PV)) (q:Nat):(H.frz o s rs) q=if q=o then none else (H q).map (bV.frz o s rs):=rfl
theorem aQX {t u o1 o2 s1 s2 k1 k2:Nat} {rs1 rs2:List (List PV)} {R:PV→PH→Prop} {e:kJ} (he:e=.normal∨e=.ret) (hne:o1≠o2) (h1:F t=some (.osl o1 s1 0 k1)) (h2:F u=some (.osl o2 s2 0 k2)) (ho1:H o1=some (.rows s1 rs1)) (ho2:H o2=some (.rows s2 rs2))
  (hk1:k1≤rs1.length) (hk2:k2≤rs2.length) (hp2:rs2.map (fun r=>r.map (PV.cX o1 s1 rs1))=rs2) (hp1:(rs1.take k1)=rs1.take k1) (hR:R (.tup [.sl s1 (rs1.take k1),.sl s2 (rs2.take k2)]) .nil):aY [.tmp t,.tmp u] R e F H:=by
 have key:∃ vs,dD.evs F H [.tmp t,.tmp u]=some vs∧∃ F1 H1 H2,gS (PF.nil.set 0 (cN vs)) H F1 H1∧H2.le H1∧∃ w,F1 0=some w∧R w H2:=by
  have hne':o2≠o1:=fun h=>hne h.symm
  have e2:(H.frz o1 s1 rs1) o2=some (.rows s2 rs2):=by rw[MV,if_neg hne',ho2]; simp only[biD,bV.frz,hp2]
  refine⟨[.osl o1 s1 0 k1,.osl o2 s2 0 k2],by rw[jO,lP,h1,jO,lP,h2,nG],_,_,.nil,.step o1 ho1 (.step o2 e2 (.refl _ _)),PH.nil_le,_,?_,hR⟩
  have a1:0+k1≤rs1.length:=by omega
  have a2:0+k2≤rs2.length:=by omega
  simp only[PF.frz,kW,if_true,cN,biD,PV.frz,PV.qA,PV.cX,biC,biV,true_and,if_pos a1,if_pos a2,bhV,if_neg hne']
 rcases he with rfl | rfl<;>exact key
end
end Go.PM
namespace Go.Na
structure mF (U0 V n lu lq:Nat) (k:Nat) (U Q:List Nat):Prop where
 lu':U.length=lu
 lq':Q.length=lq
 limU:Lim U
 limQ:Lim Q
 v:val U+val Q*V=U0
 r:val (U.drop k)<V
 z:∀ i x,i<k→Q[i]?=some x→x=0
theorem amW {U0 V n lu lq j:Nat} {U Q:List Nat} (h:mF U0 V n lu lq (j+1) U Q) (hV:V<4294967296 ^ n) (hj:j<lq) (hl:lu=lq+n) :
  val ((U.drop j).take (n+1))<V*4294967296∧mF U0 V n lu lq j (U.take j++cW (n+1) (val ((U.drop j).take (n+1))%V)++U.drop (j+(n+1))) (Q.set j (val ((U.drop j).take (n+1))/V)):=by
 have hlu:=h.lu'
 have hlq:=h.lq'
 have hVpos:0<V:=by have:=h.r; omega
 have hju:j<U.length:=by omega
 have e1:val (U.drop j)=U[j]+4294967296*val (U.drop (j+1)):=by rw[biQ hju]; rfl
 have hUj:=h.limU _ (bgY hju)
 have hlt:val (U.drop j)<V*4294967296:=by have:=h.r; omega
 have hlW:((U.drop j).take (n+1)).length=n+1:=by rw[bhJ,biR]; omega
 have e2:val (U.drop j)=val ((U.drop j).take (n+1))+4294967296 ^ (n+1)*val (U.drop (j+(n+1))):=by
  conv=>lhs; rw[← bjE (n+1) (U.drop j),fA,hlW,List.drop_drop]
 have hpow:4294967296 ^ (n+1)=4294967296 ^ n*4294967296:=biJ _ _
 have hVB:V*4294967296≤4294967296 ^ n*4294967296:=bhU _ (Nat.le_of_lt hV)
 have hZ:val (U.drop (j+(n+1)))=0:=by
  rcases bjA (val (U.drop (j+(n+1)))) with h0 | h0
  ·exact h0
  ·have:=biX (4294967296 ^ (n+1)) h0
   omega
 rw[hZ,Nat.mul_zero,biP] at e2
 generalize hW:val ((U.drop j).take (n+1))=W at *
 have e3:val U=val (U.take j)+4294967296 ^ j*W:=by
  conv=>lhs; rw[← bjE j U,fA,bhJ,biT (by omega),e2]
 have hmod:W%V<V:=biB _ hVpos
 have hdm:V*(W/V)+W%V=W:=bjV _ _
 have hqB:W/V<4294967296:=by rw[bjL hVpos,bhR]; omega
 have hD:val (cW (n+1) (W%V))=W%V:=lS (by omega)
 have hQj:Q[j]=0:=h.z j _ (by omega) (bhH (by omega))
 have hset:=BR (show j<Q.length by omega) (W/V)
 rw[hQj,Nat.mul_zero,biP] at hset
 have hlt':(U.take j).length=j:=by rw[bhJ]; omega
 refine⟨by omega,?_,?_,?_,?_,?_,?_,?_⟩
 ·simp only[bgW,jH,biR,bhJ]; omega
 ·rw[bjC]; exact hlq
 ·exact ((h.limU.take j).app (kI _ _)).app (h.limU.drop _)
 ·exact h.limQ.set _ hqB
 ·rw[bhY,fA,fA,hlt',hD,jH,hZ,Nat.mul_zero,biP,hset]
  have:=h.v
  have h5:(val Q+4294967296 ^ j*(W/V))*V=val Q*V+4294967296 ^ j*(V*(W/V)):=by
   rw[bhT,bhL,bhR (W/V) V]
  have h6:4294967296 ^ j*W=4294967296 ^ j*(V*(W/V))+4294967296 ^ j*(W%V):=by rw[← bhD,hdm]
  omega
 ·rw[bhY,List.drop_append_of_le_length (by omega),bkA (by omega),List.nil_append,fA,hD,hZ,Nat.mul_zero,biP]
  exact hmod
 ·intro i x hi hx
  rw[List.getElem?_set_ne (by omega)] at hx
  exact h.z i x (by omega) hx
end Go.Na
namespace Go.PM
open Go Go.Na
def dI (u v:PV) (n:Nat) (q:PV) (top next s:Nat) (j:Int):PF:=((((((((PF.nil.set 8 (.int .u64 s)).set 9 (u)).set 10 (v)).set 11 (.int .i64 n)).set 12 (q)).set 13 (.int .u64 top)).set 14 (.int .u64 next)).set 15 (.int .i64 j))
theorem oY (o s:Nat) (rs:List (List PV)) (L:List Nat):(aE L).map (fun r=>r.map (PV.cX o s rs))=aE L:=by
 unfold aE
 rw[List.map_map]
 rfl
theorem auD {C:Ctx} (D:alG C) (U0 m lu lq o o2 oq s:Nat) (v vfull:List Nat) (h2:o2≠o) (h3:oq≠o) (h4:oq≠o2) (hv:Lim v) (hlv:v.length=m+2) (hvf:(aE vfull).take (m+2)=aE v) (hvl:m+2≤vfull.length) (ht:2147483648≤v[m+1])
  (hlu:lu=lq+(m+2)) (hmax:lu≤10000) (U:List Nat) (hI:mF U0 (val v) (m+2) lu lq lq U (bgV lq 0)) (K:bZ) (F:PF) (H:PH)
  (hF:(dI (.osl o 1 0 lu) (.osl o2 1 0 (m+2)) (m+2) (.osl oq 1 0 lq) (v[m+1]) (v[m]) s ((lq:Int)-1)).le F) (hH:H o=some (.rows 1 (aE U))) (hHv:H o2=some (.rows 1 (aE vfull))) (hHq:H oq=some (.rows 1 (aE (bgV lq 0))))
  (hK:∀ U' Q' F',mF U0 (val v) (m+2) lu lq 0 U' Q'→(dI (.osl o 1 0 lu) (aF v) (m+2) (.osl oq 1 0 lq) (v[m+1]) (v[m]) s (-1)).le F'→K .normal F' ((PH.nil.set o (.rows 1 (aE U'))).set oq (.rows 1 (aE Q')))) :
  aD.wp C (.block 2 (.loop yZ)) K F H:=by
 have f8:=hF 8 _ (by unfold dI; simp -implicitDefEqProofs only[go_sem,γ]; rfl)
 have f9:=hF 9 _ (by unfold dI; simp -implicitDefEqProofs only[go_sem,γ]; rfl)
 have f10:=hF 10 _ (by unfold dI; simp -implicitDefEqProofs only[go_sem,γ]; rfl)
 have f11:=hF 11 _ (by unfold dI; simp -implicitDefEqProofs only[go_sem,γ]; rfl)
 have f12:=hF 12 _ (by unfold dI; simp -implicitDefEqProofs only[go_sem,γ]; rfl)
 have f13:=hF 13 _ (by unfold dI; simp -implicitDefEqProofs only[go_sem,γ]; rfl)
 have f14:=hF 14 _ (by unfold dI; simp -implicitDefEqProofs only[go_sem,γ]; rfl)
 have f15:=hF 15 _ (by unfold dI; simp -implicitDefEqProofs only[go_sem,γ]; rfl)
 have hne2:¬ o=o2:=fun h=>h2 h.symm
 have hne4:¬ oq=o2:=h4
 have hne3:¬ o=oq:=fun h=>h3 h.symm
 have hfi:∀ (k:IntKind) (n:Int),PV.frz o2 1 (aE vfull) (.int k n)=.int k n:=fun _ _=>rfl
 have hfu:∀ l,PV.frz o2 1 (aE vfull) (.osl o 1 0 l)=.osl o 1 0 l:=fun l=>by simp only[PV.frz,PV.qA,PV.cX,if_neg hne2]
 have hfq:∀ l,PV.frz o2 1 (aE vfull) (.osl oq 1 0 l)=.osl oq 1 0 l:=fun l=>by simp only[PV.frz,PV.qA,PV.cX,if_neg hne4]
 have hfv:PV.frz o2 1 (aE vfull) (.osl o2 1 0 (m+2))=aF v:=by
  have:0+(m+2)≤(aE vfull).length:=by rw[bP]; omega
  simp only[PV.frz,PV.qA,PV.cX,if_true,true_and,if_pos this,bhV,hvf]
 simp -implicitDefEqProofs only[go_sem]
 refine aAX (α:=Nat × List Nat × List Nat) (fun t=>dI (.osl o 1 0 lu) (aF v) (m+2) (.osl oq 1 0 lq) (v[m+1]) (v[m]) s ((t.1:Int)-1)) (fun t=>(PH.nil.set o (.rows 1 (aE t.2.1))).set oq (.rows 1 (aE t.2.2)))
  (fun t=>t.1≤lq∧mF U0 (val v) (m+2) lu lq t.1 t.2.1 t.2.2) (fun t=>t.1) (lq,U,bgV lq 0) o2 hHv ⟨bgX _,hI⟩ ?_ ?_ ?_
 ·unfold dI
  refine PF.aA (PF.aA (PF.aA (PF.aA (PF.aA (PF.aA (PF.aA (PF.aA PF.nil_le ?_) ?_) ?_) ?_) ?_) ?_) ?_) ?_<;>simp -implicitDefEqProofs only[go_sem,f8,f9,f10,f11,f12,f13,f14,f15,hfi,hfu,hfq,hfv]
 ·refine PH.aA (PH.aA PH.nil_le ?_) ?_
  ·simp -implicitDefEqProofs only[go_sem,hne2,hH,bV.frz,oY]
  ·simp -implicitDefEqProofs only[go_sem,hne4,hHq,bV.frz,oY]
 rintro⟨k,U,Q⟩ ⟨hk,hI⟩
 simp only at hk hI
 simp -implicitDefEqProofs only[go_sem,γ,yZ,PG,dI]
 by_cases h0:0<k
 ·obtain⟨j,rfl⟩:∃ j,k=j+1:=⟨k-1,by omega⟩
  have hz:((j+1:Nat):Int)-1=(j:Int):=by omega
  have hge:(j:Int)≥0:=by omega
  have hVlt:val v<4294967296 ^ (m+2):=by have:=eG hv; rw[hlv] at this; exact this
  obtain⟨hlt,hI'⟩:=amW hI hVlt (by omega) hlu
  have hUl:=hI.lu'
  have hQl:=hI.lq'
  have hA:(U.take j).length=j:=by rw[bhJ]; omega
  have hWl:((U.drop j).take (m+3)).length=m+3:=by rw[bhJ,biR]; omega
  have hsplit:U.take j++(U.drop j).take (m+3)++U.drop (j+(m+3))=U:=by
   rw[bhY,← List.drop_drop,bjE,bjE]
  have hZl:(U.drop (j+(m+3))).length=lu-(j+(m+3)):=by rw[biR,hUl]
  have key:=akU (C:=C) D (U.take j) ((U.drop j).take (m+3)) (U.drop (j+(m+3))) v Q m o oq lu s h3 ((hI.limU.drop _).take _) hv hlv hWl ht hlt (by rw[hA,hZl]; omega) hmax (by rw[hA]; omega)
  rw[hA,hsplit,hQl] at key
  have e15:IntKind.i64.wrap ((j:Int)-1)=(j:Int)-1:=wrap_i64 (by omega) (by omega)
  simp -implicitDefEqProofs only[go_sem,hz,hge]
  simp -implicitDefEqProofs only[go_sem] at key
  refine key _ _ _ ?_ (by simp -implicitDefEqProofs only[go_sem,hne3]) (by simp -implicitDefEqProofs only[go_sem]) ?_
  ·unfold dF
   (repeat' (first|exact PF.nil_le|refine PF.aA ?_ ?_))<;>first|(simp -implicitDefEqProofs only[go_sem,γ]<;>rfl)|rfl
  ·intro F' H' hF' hH' hHq'
   have g8:=hF' 8 _ (by unfold dF; simp -implicitDefEqProofs only[go_sem,γ]; rfl)
   have g9:=hF' 9 _ (by unfold dF; simp -implicitDefEqProofs only[go_sem,γ]; rfl)
   have g10:=hF' 10 _ (by unfold dF; simp -implicitDefEqProofs only[go_sem,γ]; rfl)
   have g11:=hF' 11 _ (by unfold dF; simp -implicitDefEqProofs only[go_sem,γ]; rfl)
   have g12:=hF' 12 _ (by unfold dF; simp -implicitDefEqProofs only[go_sem,γ]; rfl)
   have g13:=hF' 13 _ (by unfold dF; simp -implicitDefEqProofs only[go_sem,γ]; rfl)
   have g14:=hF' 14 _ (by unfold dF; simp -implicitDefEqProofs only[go_sem,γ]; rfl)
   have g15:=hF' 15 _ (by unfold dF; simp -implicitDefEqProofs only[go_sem,γ]; rfl)
   simp -implicitDefEqProofs only[go_sem,γ,PJ,g15,e15]
   refine aI (j,_,_) ⟨by simp only; omega,hI'⟩ (by simp only; omega) ?_ (PH.aA (PH.aA PH.nil_le hH') hHq')
   refine PF.aA (PF.aA (PF.aA (PF.aA (PF.aA (PF.aA (PF.aA (PF.aA PF.nil_le ?_) ?_) ?_) ?_) ?_) ?_) ?_) ?_<;>simp -implicitDefEqProofs only[go_sem,γ,g8,g9,g10,g11,g12,g13,g14]
 ·have:k=0:=by omega
  subst this
  have hz:¬ ((0:Nat):Int)-1≥0:=by decide
  simp -implicitDefEqProofs only[go_sem,hz]
  refine hK U Q _ hI ?_
  unfold dI
  (repeat' (first|exact PF.nil_le|refine PF.aA ?_ ?_))<;>first|(simp -implicitDefEqProofs only[go_sem,ο,γ,show ((0:Nat):Int)-1=-1 from rfl]<;>rfl)|rfl
end Go.PM
namespace Go.PM
open Go Go.Na
def rFr (o lu oq lq or n s i:Nat):PF:=((((((PF.nil.set 8 (.int .u64 s)).set 9 (.osl o 1 0 lu)).set 12 (.osl oq 1 0 lq)).set 19 (.osl or 1 0 n)).set 166 (.int .i64 n)).set 167 (.int .i64 i))
theorem a5M {x s:Nat} (hs:s≤64):shift .shr .u64 (x:Int) (s:Int)=some (.int .u64 ((x/2 ^ s:Nat):Int)):=by
 unfold shift
 rw[if_neg (by omega)]
 simp only
 have:min (Int.toNat (s:Int)) IntKind.u64.bits=s:=by
  rw[show IntKind.u64.bits=64 from rfl]; omega
 rw[this,Int.fdiv_eq_ediv_of_nonneg _ (by exact_mod_cast bhE _)]
 norm_cast
theorem auE {C:Ctx} (o lu oq lq n s:Nat) (U Q:List Nat) (hs:s<32) (h3:oq≠o) (hU:Lim U) (hl:U.length=lu) (hn:n<lu) (hmax:lu≤10000) (K:bZ) (F:PF)
  (f8:F 8=some (.int .u64 s)) (f9:F 9=some (.osl o 1 0 lu)) (f11:F 11=some (.int .i64 n)) (f12:F 12=some (.osl oq 1 0 lq))
  (hK:∀ or F' H',or≠o→or≠oq→(rFr o lu oq lq or n s n).le F'→H' oq=some (.rows 1 (aE Q))→H' or=some (.rows 1 (aE (cW n (val U/2 ^ s))))→K .normal F' H') :
  aD.wp C (.seq (.region zJ) (.seq (.region zK) (.block 6 (.loop zA)))) K F ((PH.nil.set o (.rows 1 (aE U))).set oq (.rows 1 (aE Q))):=by
 have hm1:((n:Nat):Int)*((4:Nat):Int)≤140737488355328:=by omega
 have hm2:((n:Nat):Int)≤9223372036854775807:=by omega
 have hz:bgV n [PV.int .u32 0]=aE ([]++bgV n 0):=by
  simp[aE]
 simp -implicitDefEqProofs only[go_sem,zJ,f11,hm1,hm2,hz]
 refine aQ fun or hor=>?_
 have n1:¬ or=oq:=(fZ.1 hor).1
 have n2:¬ or=o:=(fZ.1 (fZ.1 hor).2).1
 have n1':¬ oq=or:=fun h=>n1 h.symm
 have n2':¬ o=or:=fun h=>n2 h.symm
 have n3:¬ oq=o:=h3
 have n3':¬ o=oq:=fun h=>n3 h.symm
 simp -implicitDefEqProofs only[go_sem,γ,zK]
 refine wp_loop (α:=List Nat) (fun P=>rFr o lu oq lq or n s P.length) (fun P=>((PH.nil.set o (.rows 1 (aE U))).set oq (.rows 1 (aE Q))).set or (.rows 1 (aE (P++bgV (n-P.length) 0)))) (fun P=>P.length≤n∧P=cW P.length (val U/2 ^ s)) (fun P=>n-P.length) []
  ⟨by simp,rfl⟩ ?_ ?_ ?_
 ·unfold rFr
  repeat' first|exact PF.nil_le|refine PF.aA ?_ ?_|rfl|assumption
 ·refine PH.aA (PH.aA (PH.aA PH.nil_le ?_) ?_) ?_<;>simp -implicitDefEqProofs only[go_sem,n1,n1',n2,n2',n3,n3',bjB]
 rintro P ⟨hP,hD⟩
 simp -implicitDefEqProofs only[go_sem,γ,zA,PK,rFr]
 by_cases c1:P.length<n
 ·have c1':(P.length:Int)<(n:Nat):=by omega
  obtain⟨k,hk⟩:∃ k,n-P.length=k+1:=⟨n-P.length-1,by omega⟩
  have hin:(aE (P++bgV (k+1) 0))[P.length]?=some [.int .u32 ((0:Nat):Int)]:=by
   rw[bJ _ (by simp)]; simp
  have a0:P.length<U.length:=by omega
  have a1:P.length+1<U.length:=by omega
  have b0:(P.length:Int)<(lu:Nat):=by omega
  have b1:((P.length+1:Nat):Int)<(lu:Nat):=by omega
  have hu0:=hU _ (bgY a0)
  have hu1:=hU _ (bgY a1)
  have e:val U/4294967296 ^ P.length=U[P.length]+4294967296*(U[P.length+1]+4294967296*val (U.drop (P.length+2))):=by
   rw[← rM hU (by omega),biQ a0,biQ a1]
   rfl
  have hdig:=QC hs e
  have g0:=bJ U a0
  have g1:=bJ U a1
  generalize hx0:U[P.length]=u0 at *
  generalize hx1:U[P.length+1]=u1 at *
  have e1:IntKind.i64.wrap ((P.length:Int)+1)=((P.length+1:Nat):Int):=aK (by omega)
  have eu0:IntKind.u64.wrap ((u0:Nat):Int)=((u0:Nat):Int):=aZ (by omega)
  have eu1:IntKind.u64.wrap ((u1:Nat):Int)=((u1:Nat):Int):=aZ (by omega)
  have esh:shift .shl .u64 (u1:Int) 32=some (.int .u64 ((2 ^ 32*u1:Nat):Int)):=EW (s:=32) (by omega) (by omega)
  have e32:(2:Nat) ^ 32=4294967296:=by decide
  have eor:=orI (a:=2 ^ 32*u1) (b:=u0) (n:=2 ^ 32*u1+u0) (by omega) (by omega) (Nat.two_pow_add_eq_or_of_lt (by omega) u1).symm (by omega)
  rw[e32] at esh eor
  have eshr:=a5M (x:=4294967296*u1+u0) (s:=s) (by omega)
  have hrow:(aE (P++bgV (k+1) 0)).set P.length [.int .u32 (((4294967296*u1+u0)/2 ^ s%4294967296:Nat):Int)]=aE ((P++[(4294967296*u1+u0)/2 ^ s%4294967296])++bgV k 0):=by
   rw[eQ,uV]
  simp -implicitDefEqProofs only[go_sem,γ,c1',PL]
  refine cA .nil dU PH.nil_le ?_
  simp -implicitDefEqProofs only[go_sem,γ,reduceCtorEq,PN,c1',e1,b0,b1,n2',n3',g0,g1,eu0,eu1,esh,eor,eshr,bX,hk,hin,hrow]
  refine⟨PH.nil_le,?_⟩
  simp -implicitDefEqProofs only[go_sem,γ,PO,e1]
  refine aI (P++[(4294967296*u1+u0)/2 ^ s%4294967296]) ⟨by simp; omega,?_⟩ (by simp; omega) ?_ (PH.aA (PH.aA (PH.aA PH.nil_le ?_) ?_) ?_)
  ·rw[bgW,bhA,sL,← hD,hdig]
  ·rw[bgW,bhA]
   (repeat' (first|exact PF.nil_le|refine PF.aA ?_ ?_))<;>first|(simp -implicitDefEqProofs only[go_sem,γ]<;>rfl)|rfl
  ·simp -implicitDefEqProofs only[go_sem,n2',n3']
  ·simp -implicitDefEqProofs only[go_sem,n1']
  ·rw[bgW,bhA,show n-(P.length+1)=k by omega]
   simp -implicitDefEqProofs only[go_sem]
 ·have e:P.length=n:=by omega
  have c1':¬ (P.length:Int)<(n:Nat):=by omega
  have hrep:bgV (n-P.length) 0=[]:=by rw[show n-P.length=0 by omega]; rfl
  rw[e] at hD
  simp -implicitDefEqProofs only[go_sem,c1',hrep,biN]
  refine hK or _ _ n2 n1 ?_ (by simp -implicitDefEqProofs only[go_sem,n1']) (by simp -implicitDefEqProofs only[go_sem]; rw[← hD])
  unfold rFr
  rw[e]
  (repeat' (first|exact PF.nil_le|refine PF.aA ?_ ?_))<;>first|(simp -implicitDefEqProofs only[go_sem,γ]<;>rfl)|rfl
end Go.PM
namespace Go.PM
open Go Go.Na
structure alV (C:Ctx):Prop where
 L:oF C
 D:alG C
 up:∀ (a:List Nat) (s:Nat),Lim a→s<32→a.length≤1000→aJ C 143 [aF a,.int .u64 s] .nil (upR a s)
 short:∀ (a:List Nat) (d:Nat),Lim a→0<d→d<4294967296→a.length≤1000→aJ C 140 [aF a,.int .u32 d] .nil (aL (.tup [aF (aH (val a/d)),.int .u32 ((val a%d:Nat):Int)]))
 lengthO:∀ (xs:List Nat) (o:Nat),Lim xs→xs.length≤16777216→aJ C 138 [.osl o 1 0 xs.length] (PH.nil.set o (.rows 1 (aE xs))) (fun r H'=>r=.int .i64 (nl (val xs):Nat)∧H'=PH.nil.set o (.rows 1 (aE xs)))
def aTV:Spec:=fun name vs=>match name,vs with
 | 143,[x,.int _ s]=>some ([],fun _=>upR (jG x) s.toNat)
 | 138,[.osl q _ _ _]=>some ([q],fun H0 r H'=>H'=H0∧∀ xs,Lim xs→H0 q=some (.rows 1 (aE xs))→r=.int .i64 (nl (val xs):Nat))
 | _,_=>none
theorem aBJ (a:List Nat) (s:Nat):aTV 143 [aF a,.int .u64 s]=some ([],fun _=>upR a s):=by
 show some _=_; rw[eK,bjT]
theorem ayY (a:List Nat) (s:Nat):∀ G:PH,∃ r H',upR a s r H'∧jW G .nil H':=fun G=>by
 obtain⟨o,ho⟩:=G.fresh
 refine⟨_,_,⟨o,rfl,rfl⟩,fun q x hx _=>?_⟩
 rw[aV] at hx
 split at hx
 ·rename_i e; subst e; exact ho
 ·cases hx
theorem JG {xs ys:List Nat} (h:aE xs=aE ys):xs=ys:=by
 have:=congrArg jG (show aF xs=aF ys by show PV.sl 1 (aE xs)=PV.sl 1 (aE ys); rw[h])
 rwa [eK,eK] at this
theorem agU (q:Nat) (L:List Nat):(PH.nil.set q (.rows 1 (aE L)))=(PH.nil.set q (.rows 1 (aE L)))∧∀ xs,Lim xs→(PH.nil.set q (.rows 1 (aE L))) q=some (.rows 1 (aE xs))→(PV.int .i64 (nl (val L):Nat))=.int .i64 (nl (val xs):Nat):=by
 refine⟨rfl,fun xs hx e=>?_⟩
 rw[fS] at e
 have:aE L=aE xs:=(bV.rows.inj (biY.inj e)).2
 rw[JG this]
def nN (A B:Nat):PV:=.tup [aF (aH (A/B)),aF (aH (A%B))]
def aLE (a b:List Nat) (s:Nat):PF:=(((PF.nil.set 0 (aF a)).set 1 (aF b)).set 8 (.int .u64 s))
theorem a2J {x s:Nat} (hs:s≤31) (h:x*2 ^ s<4294967296):shift .shl .u32 (x:Int) (s:Int)=some (.int .u32 ((x*2 ^ s:Nat):Int)):=by
 unfold shift
 rw[if_neg (by omega)]
 simp only
 have:min (Int.toNat (s:Int)) IntKind.u32.bits=s:=by
  rw[show IntKind.u32.bits=32 from rfl]; omega
 rw[this,show (x:Int)*2 ^ s=((x*2 ^ s:Nat):Int) by simp,bX,bhX h]
theorem azW {n i x:Nat} (hx:(bgV n 0)[i]?=some x):x=0:=by
 have:=bjI hx
 rw[List.mem_replicate] at this
 exact this.2
theorem aLG {C:Ctx} (Lb:alV C) (A B:Nat) (hB:B≠0) (hA:nl A≤900) (hBl:nl B≤900) :
  vO.wp C (aY BE.res (bY (nN A B))) (PF.args [aF (aH A),aF (aH B)]) .nil:=by
 have LA:=bD A
 have LB:=bD B
 have vA:=aX A
 have vB:=aX B
 have lA:(aH A).length=nl A:=rfl
 have lB:(aH B).length=nl B:=rfl
 simp -implicitDefEqProofs only[go_sem,γ,reduceCtorEq,vO,YB,YC,BE]
 refine aB (Lb.L.cmp _ _ LA LB (by omega) (by omega)) rfl ?_
 rw[vA,vB]
 by_cases c1:A<B
 ·have hc:dE A B<0:=by simp[dE,c1]
  simp -implicitDefEqProofs only[go_sem,γ,reduceCtorEq,hc,YD]
  refine aB (Lb.L.trim _ LA (by omega)) rfl ?_
  rw[vA]
  simp -implicitDefEqProofs only[go_sem,γ]
  refine aW (vs:=[.nils,aF (aH A)]) (.inr rfl) .nil rfl PH.nil_le ⟨?_,rfl⟩
  rw[nN,bjW c1,bhX c1,eY]
  refine .tup rfl fun j p q hp hq=>?_
  match j with
  | 0=>simp at hp hq; subst hp; subst hq; exact .nil 1
  | 1=>simp at hp hq; subst hp; subst hq; exact .refl _
  | j+2=>simp at hp
 have hc:¬ dE A B<0:=by
  unfold dE
  rw[if_neg c1]
  split<;>decide
 have hB0:0<B:=bjF hB
 have hnB:nl B≠0:=fun h=>hB (iV.1 h)
 simp -implicitDefEqProofs only[go_sem,γ,hc,YE]
 by_cases c2:nl B=1
 ·have hBB:B<4294967296:=by have:=(gQ B 1).1 (by omega); simpa using this
  have hlb:aH B=[B]:=lM hB hBB
  have hr:A%B<B:=biB _ hB0
  have ew:IntKind.u64.wrap ((A%B:Nat):Int)=((A%B:Nat):Int):=aZ (by omega)
  rw[hlb]
  have hsh:=Lb.short (aH A) B LA hB0 hBB (by omega)
  rw[vA] at hsh
  simp -implicitDefEqProofs only[go_sem,ν,γ,reduceCtorEq,show (((1:Nat):Int)==1)=true from rfl,YF]
  refine aB hsh rfl ?_
  simp -implicitDefEqProofs only[go_sem,γ,YG,ew]
  refine aB (Lb.L.make (A%B) (by omega)) rfl ?_
  simp -implicitDefEqProofs only[go_sem,γ]
  exact aW (vs:=[aF (aH (A/B)),aF (aH (A%B))]) (.inr rfl) .nil rfl PH.nil_le ⟨.refl _,rfl⟩
 obtain⟨m,hm⟩:∃ m,nl B=m+2:=⟨nl B-2,by omega⟩
 have hAB:nl B≤nl A:=gN (by omega)
 obtain⟨bt,hbt,hbt0⟩:=awQ LB (n:=m+1) (by rw[vB]; exact hm)
 have hml:m+1<(aH B).length:=by omega
 have hbtl:bt<4294967296:=LB bt (bjI hbt)
 have hBv:B=val ((aH B).take (m+1))+4294967296 ^ (m+1)*bt:=by
  have h1:=bT (aH B) hml
  rw[bhI (by omega),vB] at h1
  rw[bhH hml] at hbt
  rw[biY.inj hbt] at h1
  exact h1
 have hBlow:=eG (LB.take (m+1))
 rw[bhJ,biT (by omega)] at hBlow
 have hrow:(aE (aH B))[m+1]?=some [.int .u32 ((bt:Nat):Int)]:=by
  rw[bJ _ hml]
  rw[bhH hml] at hbt
  rw[biY.inj hbt]
 have i1:IntKind.i64.wrap ((((aH B).length:Nat):Int)-1)=((m+1:Nat):Int):=by rw[wrap_i64 (by omega) (by omega)]; omega
 have hne1:¬ (((aH B).length:Nat):Int)=1:=by omega
 simp -implicitDefEqProofs only[go_sem,bF hne1,YH]
 refine wp_loop (α:=Nat) (fun s=>aLE (aH A) (aH B) s) (fun _=>.nil) (fun s=>s≤31∧bt*2 ^ s<4294967296) (fun s=>32-s) 0 ⟨by omega,by simpa using hbtl⟩ ?_ PH.nil_le ?_
 ·unfold aLE
  (repeat' (first|exact PF.nil_le|refine PF.aA ?_ ?_))<;>first|(simp -implicitDefEqProofs only[go_sem,γ,reduceCtorEq]<;>rfl)|rfl
 rintro s ⟨hs,hbs⟩
 have esh:=a2J hs hbs
 simp -implicitDefEqProofs only[go_sem,γ,reduceCtorEq,YA,YI,aLE,i1,hrow,esh]
 refine aTS ?_ ?_
 ·intro c3
  have c3':=of_decide_eq_true c3
  have hs30:s<31:=by
   rcases bhK s 31 with h | h
   ·exact h
   ·exfalso
    have h1:2147483648≤2 ^ s:=Nat.pow_le_pow_right (show 0<2 by decide) h
    have h2:1*2 ^ s≤bt*2 ^ s:=bhU _ (by omega)
    omega
  have es:IntKind.u64.wrap ((s:Int)+1)=((s+1:Nat):Int):=by rw[wrap_u64 (by omega) (by omega)]; omega
  simp -implicitDefEqProofs only[go_sem,γ,reduceCtorEq,YJ,es]
  refine aI (s+1) ⟨by omega,by rw[biJ,← bhL]; omega⟩ (by omega) ?_ PH.nil_le
  (repeat' (first|exact PF.nil_le|refine PF.aA ?_ ?_))<;>first|(simp -implicitDefEqProofs only[go_sem,γ,reduceCtorEq]<;>rfl)|rfl
 intro c3
 have c3':=of_decide_eq_false c3
 have hs32:s<32:=by omega
 have hp2:0<2 ^ s:=bjG (by decide)
 have hVlo:2147483648*4294967296 ^ (m+1)≤B*2 ^ s:=by
  have h1:2147483648*4294967296 ^ (m+1)≤(bt*2 ^ s)*4294967296 ^ (m+1):=bhU _ (by omega)
  have h2:(4294967296 ^ (m+1)*bt)*2 ^ s≤B*2 ^ s:=bhU _ (by omega)
  have h3:(4294967296 ^ (m+1)*bt)*2 ^ s=(bt*2 ^ s)*4294967296 ^ (m+1):=by rw[bhL,bhR]
  omega
 have hVhi:B*2 ^ s<4294967296 ^ (m+2):=by
  have h0:(bt+1)*2 ^ s≤4294967296:=by
   have e32:(4294967296:Nat)=2 ^ (32-s)*2 ^ s:=by rw[← Nat.pow_add,show 32-s+s=32 by omega]
   have:bt<2 ^ (32-s):=by
    rcases bhK bt (2 ^ (32-s)) with h | h
    ·exact h
    ·have:=bhU (2 ^ s) h
     omega
   have:=bhU (2 ^ s) (show bt+1≤2 ^ (32-s) from this)
   omega
  have h1:B<(bt+1)*4294967296 ^ (m+1):=by rw[bhT,Nat.one_mul,bhR bt]; omega
  have h2:B*2 ^ s<(bt+1)*4294967296 ^ (m+1)*2 ^ s:=Nat.mul_lt_mul_of_pos_right h1 hp2
  have h3:(bt+1)*4294967296 ^ (m+1)*2 ^ s=(bt+1)*2 ^ s*4294967296 ^ (m+1):=Nat.mul_right_comm _ _ _
  have h4:(bt+1)*2 ^ s*4294967296 ^ (m+1)≤4294967296*4294967296 ^ (m+1):=bhU _ h0
  have h5:4294967296 ^ (m+2)=4294967296*4294967296 ^ (m+1):=by rw[biJ,bhR]
  omega
 have hAlt:A<4294967296 ^ nl A:=(gQ A _).1 (bgX _)
 simp -implicitDefEqProofs only[go_sem]
 refine cA .nil aTV PH.nil_le ?_
 simp -implicitDefEqProofs only[go_sem,γ,reduceCtorEq,PA]
 have ua:=Lb.up (aH A) s LA hs32 (by omega)
 have ub:=Lb.up (aH B) s LB hs32 (by omega)
 refine abD (aBJ (aH A) s) ua rfl (ayY _ _) ?_
 rintro r H' ⟨o,rfl,rfl⟩ -
 rw[PH.kU,lA,vA]
 refine⟨PH.nil_le,?_⟩
 simp -implicitDefEqProofs only[go_sem,γ,reduceCtorEq]
 refine abD (aBJ (aH B) s) ub rfl (ayY _ _) ?_
 rintro r H' ⟨o2,rfl,rfl⟩ hap
 rw[PH.kU,lB,vB,hm]
 refine⟨PH.nil_le,?_⟩
 have hfr:=hap o2 _ (by rw[aV,if_pos rfl]) (by rfl)
 have n21:¬ o2=o:=(fZ.1 hfr).1
 have n12:¬ o=o2:=fun h=>n21 h.symm
 have k1:((m+2:Nat):Int)≤((m+2+1:Nat):Int):=by omega
 have k2:IntKind.i64.wrap (((nl A+1:Nat):Int)-((m+2:Nat):Int))=((nl A+1-(m+2):Nat):Int):=by rw[wrap_i64 (by omega) (by omega)]; omega
 obtain⟨lq,hlq⟩:∃ lq,nl A+1-(m+2)=lq:=⟨_,rfl⟩
 have hlu:nl A+1=lq+(m+2):=by omega
 rw[hlq] at k2
 have k3:((lq:Nat):Int)*((4:Nat):Int)≤140737488355328:=by omega
 have k4:((lq:Nat):Int)≤9223372036854775807:=by omega
 have hz:bgV lq [PV.int .u32 0]=aE (bgV lq 0):=by simp[aE]
 have k5:m+2-0=m+2:=by omega
 simp -implicitDefEqProofs only[go_sem,ν,γ,reduceCtorEq,lB,hm,k1,k5,PB,PC,k2,k3,k4,hz]
 refine aQ fun oq hoq=>?_
 have q2:¬ oq=o2:=(fZ.1 hoq).1
 have q1:¬ oq=o:=(fZ.1 (fZ.1 hoq).2).1
 have q2':¬ o2=oq:=fun h=>q2 h.symm
 have q1':¬ o=oq:=fun h=>q1 h.symm
 have hsn:cW (m+2+1) (B*2 ^ s)=cW (m+2) (B*2 ^ s)++[B*2 ^ s/4294967296 ^ (m+2)%4294967296]:=sL _ _
 have Lv:=kI (m+2) (B*2 ^ s)
 have lv:=jH (m+2) (B*2 ^ s)
 have vv:val (cW (m+2) (B*2 ^ s))=B*2 ^ s:=lS hVhi
 have hvf:(aE (cW (m+2+1) (B*2 ^ s))).take (m+2)=aE (cW (m+2) (B*2 ^ s)):=by
  unfold aE
  rw[← List.map_take,hsn,List.take_append_of_le_length (by omega),bhI (by omega)]
 generalize hvv:cW (m+2) (B*2 ^ s)=v at *
 have lvf:(cW (m+2+1) (B*2 ^ s)).length=m+2+1:=jH _ _
 have gtop:∀ i (h:i<v.length),(aE (cW (m+2+1) (B*2 ^ s)))[i]?=some [.int .u32 ((v[i]:Nat):Int)]:=by
  intro i h
  have h1:(aE v)[i]?=some [.int .u32 ((v[i]:Nat):Int)]:=bJ v h
  rw[← hvf,List.getElem?_take_of_lt (by omega)] at h1
  exact h1
 have g1:=gtop (m+1) (by omega)
 have g0:=gtop m (by omega)
 have htop:2147483648≤v[m+1]:=by
  have h1:=bT v (show m+1<v.length by omega)
  rw[bhI (by omega),vv] at h1
  have h2:=eG (Lv.take (m+1))
  rw[bhJ,biT (by omega)] at h2
  rcases bhK v[m+1] 2147483648 with h | h
  ·exfalso
   have h3:4294967296 ^ (m+1)*(v[m+1]+1)≤4294967296 ^ (m+1)*2147483648:=biX _ h
   rw[bhD,Nat.mul_one] at h3
   rw[bhR 2147483648] at hVlo
   omega
  ·exact h
 have ht1:=Lv _ (bgY (show m+1<v.length by omega))
 have ht0:=Lv _ (bgY (show m<v.length by omega))
 have w1:IntKind.u64.wrap ((v[m+1]:Nat):Int)=((v[m+1]:Nat):Int):=aZ (by omega)
 have w0:IntKind.u64.wrap ((v[m]:Nat):Int)=((v[m]:Nat):Int):=aZ (by omega)
 have j1:IntKind.i64.wrap (((m+2:Nat):Int)-1)=((m+1:Nat):Int):=by rw[wrap_i64 (by omega) (by omega)]; omega
 have j0:IntKind.i64.wrap (((m+2:Nat):Int)-2)=((m:Nat):Int):=by rw[wrap_i64 (by omega) (by omega)]; omega
 have d1:((m+1:Nat):Int)<((m+2:Nat):Int):=by omega
 have d0:((m:Nat):Int)<((m+2:Nat):Int):=by omega
 have jq:IntKind.i64.wrap ((lq:Int)-1)=(lq:Int)-1:=wrap_i64 (by omega) (by omega)
 simp -implicitDefEqProofs only[go_sem,γ,reduceCtorEq]
 refine cA .nil dU PH.nil_le ?_
 simp -implicitDefEqProofs only[go_sem,γ,reduceCtorEq,PD,j1,j0,d1,d0,q2',g1,g0,w1,w0,PE,jq]
 have hUlt:A*2 ^ s<4294967296 ^ (nl A+1):=by
  have h0:2 ^ s≤4294967296:=by
   have:(2:Nat) ^ s≤2 ^ 32:=Nat.pow_le_pow_right (by decide) (by omega)
   simpa using this
  have h1:A*2 ^ s<4294967296 ^ nl A*2 ^ s:=Nat.mul_lt_mul_of_pos_right hAlt hp2
  have h2:4294967296 ^ nl A*2 ^ s≤4294967296 ^ nl A*4294967296:=biX _ h0
  rw[biJ]; omega
 have LU:=kI (nl A+1) (A*2 ^ s)
 have lU:=jH (nl A+1) (A*2 ^ s)
 have vU:val (cW (nl A+1) (A*2 ^ s))=A*2 ^ s:=lS hUlt
 have hI:mF (A*2 ^ s) (val v) (m+2) (nl A+1) lq lq (cW (nl A+1) (A*2 ^ s)) (bgV lq 0):=by
  refine⟨lU,List.length_replicate,LU,sQ _,by rw[vU,pI]; omega,?_,fun i x _ hx=>azW hx⟩
  ·rw[rM LU (by omega),vU,vv,bjL (bjG (by decide))]
   have h1:A*2 ^ s<4294967296 ^ nl A*2 ^ s:=Nat.mul_lt_mul_of_pos_right hAlt hp2
   have hx:nl A=m+1+lq:=by omega
   have h2:4294967296 ^ nl A=4294967296 ^ (m+1)*4294967296 ^ lq:=by rw[hx,Nat.pow_add]
   have h3:2 ^ s≤2147483648:=by
    have:(2:Nat) ^ s≤2 ^ 31:=Nat.pow_le_pow_right (by decide) hs
    simpa using this
   have h4:4294967296 ^ nl A*2 ^ s≤(2147483648*4294967296 ^ (m+1))*4294967296 ^ lq:=by
    rw[h2,bhR (4294967296 ^ (m+1)*4294967296 ^ lq),← bhL]
    exact bhU _ (bhU _ h3)
   have h5:(2147483648*4294967296 ^ (m+1))*4294967296 ^ lq≤B*2 ^ s*4294967296 ^ lq:=bhU _ hVlo
   omega
 have key:=auD (C:=C) Lb.D (A*2 ^ s) m (nl A+1) lq o o2 oq s v (cW (m+2+1) (B*2 ^ s)) n21 q1 q2 Lv lv hvf (by omega) htop hlu (by omega) _ hI
 simp -implicitDefEqProofs only[go_sem,ο] at key
 refine key _ _ _ ?_ (by simp -implicitDefEqProofs only[go_sem,n12,q1']) (by simp -implicitDefEqProofs only[go_sem,q2']) (by simp -implicitDefEqProofs only[go_sem]) ?_
 ·unfold dI
  (repeat' (first|exact PF.nil_le|refine PF.aA ?_ ?_))<;>first|(simp -implicitDefEqProofs only[go_sem,γ,reduceCtorEq]<;>rfl)|rfl
 clear key
 intro U' Q' F' hI' hF'
 have hu:val U'<val v:=by have:=hI'.r; rwa [bhV] at this
 have hv':=hI'.v
 rw[vv] at hu hv'
 have hVp:0<B*2 ^ s:=by omega
 have hQv:val Q'=A/B:=by
  have:A*2 ^ s/(B*2 ^ s)=val Q':=by
   rw[← hv',Nat.add_mul_div_right _ _ hVp,bjW hu,bhS]
  rw[← this,Nat.mul_div_mul_right _ _ hp2]
 have hUv:val U'/2 ^ s=A%B:=by
  have:A*2 ^ s%(B*2 ^ s)=val U':=by rw[← hv',Nat.add_mul_mod_self_right,bhX hu]
  rw[← this,Nat.mul_mod_mul_right,Nat.mul_div_cancel _ hp2]
 have g8:=hF' 8 _ (by unfold dI; simp -implicitDefEqProofs only[go_sem,ο,γ]; rfl)
 have g9:=hF' 9 _ (by unfold dI; simp -implicitDefEqProofs only[go_sem,ο,γ]; rfl)
 have g11:=hF' 11 _ (by unfold dI; simp -implicitDefEqProofs only[go_sem,ο,γ]; rfl)
 have g12:=hF' 12 _ (by unfold dI; simp -implicitDefEqProofs only[go_sem,ο,γ]; rfl)
 have rest:=auE (C:=C) o (nl A+1) oq lq (m+2) s U' Q' hs32 q1 hI'.limU hI'.lu' (by omega) (by omega)
 simp -implicitDefEqProofs only[go_sem] at rest
 simp -implicitDefEqProofs only[go_sem]
 refine rest _ _ g8 g9 g11 g12 ?_
 clear rest
 intro or F2 H2 r1 r2 hF2 hQ2 hR2
 rw[hUv] at hR2
 have k12:=hF2 12 _ (by unfold rFr; simp -implicitDefEqProofs only[go_sem,γ]; rfl)
 have k19:=hF2 19 _ (by unfold rFr; simp -implicitDefEqProofs only[go_sem,γ]; rfl)
 have hRlt:A%B<4294967296 ^ (m+2):=by
  have h1:A%B<B:=biB _ hB0
  have h2:B<4294967296 ^ nl B:=(gQ B _).1 (bgX _)
  rw[hm] at h2; omega
 have LR:=kI (m+2) (A%B)
 have lR:=jH (m+2) (A%B)
 have vR:val (cW (m+2) (A%B))=A%B:=lS hRlt
 have nQ:=eP hI'.limQ
 have nR:=eP LR
 have e1:=hI'.lq'
 generalize hRR:cW (m+2) (A%B)=R at *
 simp -implicitDefEqProofs only[go_sem]
 refine cA .nil aTV PH.nil_le ?_
 simp -implicitDefEqProofs only[go_sem,γ,PP,k12]
 have LOq:=Lb.lengthO Q' oq hI'.limQ (by omega)
 rw[e1] at LOq
 have LOr:=Lb.lengthO R or LR (by omega)
 rw[lR] at LOr
 refine RA (o:=oq) (x:=.rows 1 (aE Q')) (v:=.int .i64 (nl (val Q'):Nat)) rfl hQ2 LOq (agU oq Q') (fun r H' hr=>⟨hr.2 Q' hI'.limQ (by rw[fS]),hr.1⟩) rfl PH.nil_le ?_
 have c4:((nl (val Q'):Nat):Int)≤(lq:Nat):=by omega
 simp -implicitDefEqProofs only[go_sem,ν,γ,reduceCtorEq,c4,k19,Nat.sub_zero]
 refine RA (o:=or) (x:=.rows 1 (aE R)) (v:=.int .i64 (nl (val R):Nat)) rfl hR2 LOr (agU or R) (fun r H' hr=>⟨hr.2 R LR (by rw[fS]),hr.1⟩) rfl PH.nil_le ?_
 have c5:((nl (val R):Nat):Int)≤((m+2:Nat):Int):=by omega
 simp -implicitDefEqProofs only[go_sem,ν,γ,reduceCtorEq,c5]
 refine aQX (o1:=oq) (o2:=or) (s1:=1) (s2:=1) (k1:=nl (val Q')) (k2:=nl (val R)) (rs1:=aE Q') (rs2:=aE R) (.inr rfl) (fun h=>r2 h.symm) rfl rfl hQ2 hR2 (by rw[bP]; exact nQ) (by rw[bP]; exact nR) (oY _ _ _ _) rfl ⟨?_,rfl⟩
 have t1:(aE Q').take (nl (val Q'))=aE (aH (A/B)):=by
  have:=gI hI'.limQ
  rw[hQv] at this ⊢
  exact this
 have t2:(aE R).take (nl (val R))=aE (aH (A%B)):=by
  have:=gI LR
  rw[vR] at this ⊢
  exact this
 rw[t1,t2]
 exact .refl _
end Go.PM
namespace Go.PM
open Go Go.Na
def aUM (a b:Nat):PF:=((PF.nil.set 0 (aF (aH a))).set 1 (aF (aH b)))
theorem a1W {C:Ctx} (L:oF C) (hdiv:∀ A B:Nat,B≠0→nl A≤900→nl B≤900→aJ C 136 [aF (aH A),aF (aH B)] .nil (aL (nN A B))) (a b:List Nat) (ha:Lim a) (hb:Lim b) (la:a.length≤16777216) (lb:b.length≤16777216) :
  JC.wp C (aY auF.res (bY (if eN (val a) (val b) then .tup [aF [],.int .i64 2] else .tup [aF (aH (bgU (val a) (val b))),.int .i64 0]))) (PF.args [aF a,aF b]) .nil:=by
 simp -implicitDefEqProofs only[go_sem,reduceCtorEq,JC,aFV,aFW,auF]
 refine aB (L.large a ha la) rfl ?_
 by_cases c1:nl (val a)>512
 ·simp -implicitDefEqProofs only[go_sem,γ,c1,acI]
  rw[if_pos (by simp[eN,c1])]
  exact gX rfl
 simp -implicitDefEqProofs only[go_sem,γ,c1]
 refine aB (L.large b hb lb) rfl ?_
 by_cases c2:nl (val b)>512
 ·simp -implicitDefEqProofs only[go_sem,γ,reduceCtorEq,c2,acI]
  rw[if_pos (by simp[eN,c2])]
  exact gX rfl
 rw[if_neg (by simp[eN,c1,c2])]
 simp -implicitDefEqProofs only[go_sem,γ,reduceCtorEq,c2,aFX]
 refine aB (L.trim a ha la) rfl ?_
 simp -implicitDefEqProofs only[go_sem,γ]
 refine aB (L.trim b hb lb) rfl ?_
 simp -implicitDefEqProofs only[go_sem,γ,reduceCtorEq]
 refine wp_loop (α:=Nat × Nat) (fun t=>aUM t.1 t.2) (fun _=>.nil) (fun t=>bgU t.1 t.2=bgU (val a) (val b)∧nl t.1≤512∧nl t.2≤512) (fun t=>t.2) (val a,val b) ⟨rfl,by simp only; omega,by simp only; omega⟩ ?_ PH.nil_le ?_
 ·unfold aUM
  (repeat' (first|exact PF.nil_le|refine PF.aA ?_ ?_))<;>first|(simp -implicitDefEqProofs only[go_sem,γ,reduceCtorEq]<;>rfl)|rfl
 rintro⟨x,y⟩ ⟨hg,hx,hy⟩
 simp only at hg hx hy
 simp -implicitDefEqProofs only[go_sem,γ,reduceCtorEq,aFU,aFY,aUM,bH]
 by_cases c3:y=0
 ·subst c3
  have:¬ ((nl 0:Nat):Int)>0:=by rw[uT]; decide
  simp -implicitDefEqProofs only[go_sem,γ,reduceCtorEq,this,aGB]
  refine aW (vs:=[aF (aH x),.int .i64 0]) (.inr rfl) .nil rfl PH.nil_le ⟨?_,rfl⟩
  rw[← hg,Nat.gcd_zero_right]
  exact .refl _
 ·have h0:nl y≠0:=fun h=>c3 (iV.1 h)
  have:((nl y:Nat):Int)>0:=by omega
  simp -implicitDefEqProofs only[go_sem,γ,reduceCtorEq,this,aFZ]
  refine aB (hdiv x y c3 (by omega) (by omega)) rfl ?_
  simp -implicitDefEqProofs only[go_sem,γ,reduceCtorEq,nN,aGA]
  have hlt:x%y<y:=biB _ (bjF c3)
  refine aI (y,x%y) ⟨?_,hy,?_⟩ hlt ?_ PH.nil_le
  ·simp only
   rw[← hg,Nat.gcd_comm y,← Nat.gcd_rec y x,Nat.gcd_comm]
  ·have:=gN (Nat.le_of_lt hlt)
   simp only; omega
  ·(repeat' (first|exact PF.nil_le|refine PF.aA ?_ ?_))<;>first|(simp -implicitDefEqProofs only[go_sem,γ,reduceCtorEq]<;>rfl)|rfl
def kL (A B:Nat):PV:=if eN A B then .tup [aF [],aF [],.int .i64 2] else if B=0 then .tup [aF [],aF [],.int .i64 3] else .tup [aF (aH (A/B)),aF (aH (A%B)),.int .i64 0]
def aLF:Spec:=fun name vs=>match name,vs with
 | 138,[x]=>some ([],fun _=>aL (.int .i64 (nl (val (jG x)):Nat)))
 | 136,[x,y]=>some ([],fun _=>aL (nN (val (jG x)) (val (jG y))))
 | _,_=>none
theorem IZ (xs:List Nat):aLF 138 [aF xs]=some ([],fun _=>aL (.int .i64 (nl (val xs):Nat))):=by
 show some _=_; rw[eK]
theorem auC (A B:Nat):aLF 136 [aF (aH A),aF (aH B)]=some ([],fun _=>aL (nN A B)):=by
 show some _=_; rw[eK,eK,aX,aX]
theorem pB {res:List dD} {F:PF} {H:PH} {e:Int} (h:dD.evs F H res=some [.nils,.nils,.int .i64 e]):aY res (bY (.tup [aF [],aF [],.int .i64 e])) .ret F H:=by
 refine aW (.inr rfl) .nil h PH.nil_le ⟨?_,rfl⟩
 refine .tup rfl fun j p q hp hq=>?_
 match j with
 | 0=>simp at hp hq; subst hp; subst hq; exact .nil 1
 | 1=>simp at hp hq; subst hp; subst hq; exact .nil 1
 | 2=>simp at hp hq; subst hp; subst hq; exact .refl _
 | j+3=>simp at hp
theorem a1U {C:Ctx} (L:oF C) (hdiv:∀ A B:Nat,B≠0→nl A≤900→nl B≤900→aJ C 136 [aF (aH A),aF (aH B)] .nil (aL (nN A B))) (a b:List Nat) (ha:Lim a) (hb:Lim b) (la:a.length≤16777216) (lb:b.length≤16777216) :
  JA.wp C (aY auB.res (bY (kL (val a) (val b)))) (PF.args [aF a,aF b]) .nil:=by
 simp -implicitDefEqProofs only[go_sem,reduceCtorEq,JA,aFN,aFO,auB]
 refine aB (L.large a ha la) rfl ?_
 by_cases c1:nl (val a)>512
 ·simp -implicitDefEqProofs only[go_sem,γ,c1,acH]
  rw[show kL (val a) (val b)=.tup [aF [],aF [],.int .i64 2] by simp[kL,eN,c1]]
  exact pB rfl
 simp -implicitDefEqProofs only[go_sem,γ,c1]
 refine aB (L.large b hb lb) rfl ?_
 by_cases c2:nl (val b)>512
 ·simp -implicitDefEqProofs only[go_sem,γ,reduceCtorEq,c2,acH]
  rw[show kL (val a) (val b)=.tup [aF [],aF [],.int .i64 2] by simp[kL,eN,c2]]
  exact pB rfl
 simp -implicitDefEqProofs only[go_sem,γ,reduceCtorEq,c2,aFP]
 refine aB (L.length b hb lb) rfl ?_
 by_cases c3:val b=0
 ·have:((nl (val b):Nat):Int)=0:=by rw[c3,uT]; rfl
  simp -implicitDefEqProofs only[go_sem,γ,bS this,aFQ]
  rw[show kL (val a) (val b)=.tup [aF [],aF [],.int .i64 3] by simp[kL,eN,c1,c3,uT]]
  exact pB rfl
 have h0:nl (val b)≠0:=fun h=>c3 (iV.1 h)
 rw[show kL (val a) (val b)=.tup [aF (aH (val a/val b)),aF (aH (val a%val b)),.int .i64 0] by simp[kL,eN,c1,c2,c3]]
 simp -implicitDefEqProofs only[go_sem,γ,bF (show ((nl (val b):Nat):Int)≠0 by omega)]
 refine cA .nil aLF PH.nil_le ?_
 simp -implicitDefEqProofs only[go_sem,reduceCtorEq,aFR]
 have h1:=eP ha
 have h2:=eP hb
 have h1':((nl (val a):Nat):Int)≤(a.length:Nat):=by omega
 have h2':((nl (val b):Nat):Int)≤(b.length:Nat):=by omega
 refine cO (IZ a) (L.length a ha la) rfl PH.nil_le ?_
 simp -implicitDefEqProofs only[go_sem,ν,γ,reduceCtorEq,h1',or_true,bhV,gI ha]
 refine cO (IZ b) (L.length b hb lb) rfl PH.nil_le ?_
 simp -implicitDefEqProofs only[go_sem,ν,γ,reduceCtorEq,h2',or_true,bhV,gI hb]
 refine cO (auC (val a) (val b)) (hdiv _ _ c3 (by omega) (by omega)) rfl PH.nil_le ?_
 simp -implicitDefEqProofs only[go_sem,γ,nN,aFS]
 exact aW (.inr rfl) .nil rfl PH.nil_le ⟨.refl _,rfl⟩
end Go.PM
namespace Go.PM
open Go
def VC:Rg:=[iA 6 (.alloc [(.bool false),.nils,.nils]),iI 7 0]
def VD:Rg:=[iM 11 1,iM 12 2,iA 13 (.call 131 [(Tm 11),(Tm 12)]),iM 10 13,iA 14 (.extract (Tm 10) 0),iA 15 (.extract (Tm 10) 1),iM 8 14,iM 9 15]
def VE:Rg:=[iM 16 8,iA 17 (.call 128 [(Tm 16)]),iC 18 .gtr 17 1]
def VG:Rg:=[iM 20 1,iM 21 8,iA 22 (.call 130 [(Tm 20),(Tm 21)]),iM 19 22,iA 23 (.extract (Tm 19) 0),iA 24 (.extract (Tm 19) 1),iA 25 (.extract (Tm 19) 2),iM 1 23]
def VH:Rg:=[iM 27 2,iM 28 8,iA 29 (.call 130 [(Tm 27),(Tm 28)]),iM 26 29,iA 30 (.extract (Tm 26) 0),iA 31 (.extract (Tm 26) 1),iA 32 (.extract (Tm 26) 2),iM 2 30]
def CF:Rg:=[iM 33 1,iA 34 (.call 128 [(Tm 33)]),iC 35 .gtr 34 4096,iM 36 35,iG 37 (.mv (Tm 2)) 36 false,iG 38 (.call 128 [(Tm 37)]) 36 false,iG 39 (.bin .gtr (Tm 38) (Ci 4096)) 36 false,iA 40 (.pick (Tm 36) (.const (.bool true)) (Tm 39))]
def tJ:Rg:=[iA 41 (.build [(.bool false),.nils,.nils] []),iS 3 6 41,iI 7 2]
def CG:Rg:=[iM 42 0,iM 43 42,iG 44 (.mv (Tm 1)) 43 true,iG 45 (.call 128 [(Tm 44)]) 43 true,iG 46 (.bin .gtr (Tm 45) (Ci 0)) 43 true,iA 47 (.pick (Tm 43) (Tm 46) (.const (.bool false))),iM 48 1,iA 49 (.call 135 [(Tm 48)]),iM 50 2,iA 51 (.call 135 [(Tm 50)]),iA 52 (.build [(.bool false),.nils,.nils] [(0,1,(Tm 47)),(1,1,(Tm 49)),(2,1,(Tm 51))]),iS 3 6 52,iI 7 0]
def vC:aD:=(.seq (.region VC) (.seq (.seq (.region VD) (.seq (.region VE) (.cond (Tm 18) (.seq (.region VG) (.region VH)) .skip))) (.seq (.seq (.region CF) (.cond (Tm 40) (.seq (.region tJ) .ret) .skip)) (.seq (.region CG) .ret))))
def aJD:List Nat:=[]
def mY:bG:=⟨3,53,vC,[.cell 6 (some 3),.tmp 7]⟩
def adP:Rg:=[iA 4 (.mv (.const .nils))]
def adQ:Rg:=[iM 8 0,iM 9 1,iA 10 (.call 133 [(Tm 8),(Tm 9)]),iM 7 10,iA 11 (.extract (Tm 7) 0),iA 12 (.extract (Tm 7) 1),iM 5 11,iM 6 12]
def adR:Rg:=[iM 13 5,iM 4 13]
def xR:aD:=(.seq (.region adP) (.seq (.region adQ) (.seq (.region adR) .ret)))
def aNV:List Nat:=[]
def HT:bG:=⟨2,14,xR,[.tmp 4]⟩
def anN:Rg:=[iA 1 (.box true (Tm 0)),iA 2 (.mv (.const (.bool false)))]
def anO:Rg:=[iF 3 1 1,iL 4 3,iA 5 (.call 128 [(Tm 4)]),iC 6 .eql 5 0,iM 2 6]
def CJ:aD:=(.seq (.region anN) (.seq (.region anO) .ret))
def aUF:List Nat:=[1]
def VO:bG:=⟨1,7,CJ,[.tmp 2]⟩
def anH:Rg:=[iA 4 (.alloc [(.bool false),.nils,.nils]),iI 5 0]
def anI:Rg:=[iM 6 1,iC 7 .eql 6 0]
def anJ:Rg:=[iA 8 (.build [(.bool false),.nils,.nils] []),iS 3 4 8,iI 5 3]
def anK:Rg:=[iM 9 0,iC 10 .lss 9 0,iM 11 1,iC 12 .lss 11 0,iA 13 (.eqb true (Tm 10) (Tm 12)),iM 14 0,iA 15 (.call 119 [(Tm 14)]),iM 16 1,iA 17 (.call 119 [(Tm 16)]),iA 18 (.call 120 [(Tm 13),(Tm 15),(Tm 17)]),iA 19 (.extract (Tm 18) 0),iA 20 (.extract (Tm 18) 1),iS 3 4 19,iM 5 20]
def CH:aD:=(.seq (.region anH) (.seq (.seq (.region anI) (.cond (Tm 7) (.seq (.region anJ) .ret) .skip)) (.seq (.region anK) .ret)))
def aUD:List Nat:=[]
def MP:bG:=⟨2,21,CH,[.cell 4 (some 3),.tmp 5]⟩
def aBN:Rg:=[iA 2 (.mv (.const .nils))]
def aBO:Rg:=[iM 3 0,iC 4 .lss 3 0]
def aBP:Rg:=[iM 5 0,iA 6 (.conv .u64 (Tm 5)),iA 7 (.un .neg (Tm 6)),iA 8 (.call 132 [(Tm 7)]),iM 2 8]
def aBQ:Rg:=[iM 9 0,iA 10 (.conv .u64 (Tm 9)),iA 11 (.call 132 [(Tm 10)]),iM 2 11]
def HJ:aD:=(.seq (.region aBN) (.seq (.seq (.region aBO) (.cond (Tm 4) (.seq (.region aBP) .ret) .skip)) (.seq (.region aBQ) .ret)))
def aZR:List Nat:=[]
def anA:bG:=⟨1,12,HJ,[.tmp 2]⟩
def adS:Rg:=[iA 1 (.box true (Tm 0)),iA 2 (.mv (.const (.bool false)))]
def adT:Rg:=[iF 4 2 1,iL 5 4,iA 6 (.call 128 [(Tm 5)]),iM 3 6]
def wM:Rg:=[iM 7 3,iC 8 .gtr 7 0,iM 9 8,iG 10 (.mv (Tm 3)) 9 true,iG 11 (.bin .leq (Tm 10) (Ci 4096)) 9 true,iA 12 (.pick (Tm 9) (Tm 11) (.const (.bool false))),iM 13 12,iG 14 (.fieldA 1 (Tm 1)) 13 true,iG 15 (.load none (Tm 14)) 13 true,iG 16 (.call 128 [(Tm 15)]) 13 true,iG 17 (.bin .leq (Tm 16) (Ci 4096)) 13 true,iA 18 (.pick (Tm 13) (Tm 17) (.const (.bool false))),iM 2 18]
def xS:aD:=(.seq (.region adS) (.seq (.region adT) (.seq (.region wM) .ret)))
def aNX:List Nat:=[1]
def HU:bG:=⟨1,19,xS,[.tmp 2]⟩
def VI:Rg:=[iA 1 (.box true (Tm 0)),iA 2 (.alloc [(.bool false),.nils,.nils]),iI 3 0]
def VJ:Rg:=[iA 4 (.load (some 3) (Tm 1)),iA 5 (.call 118 [(Tm 4)]),iA 6 (.un .not (Tm 5))]
def VK:Rg:=[iA 7 (.build [(.bool false),.nils,.nils] []),iS 3 2 7,iI 3 1]
def VL:Rg:=[iF 8 0 1,iL 9 8,iF 10 1 1,iL 11 10,iF 12 2 1,iL 13 12,iA 14 (.call 120 [(Tm 9),(Tm 11),(Tm 13)]),iA 15 (.extract (Tm 14) 0),iA 16 (.extract (Tm 14) 1),iS 3 2 15,iM 3 16]
def vD:aD:=(.seq (.region VI) (.seq (.seq (.region VJ) (.cond (Tm 6) (.seq (.region VK) .ret) .skip)) (.seq (.region VL) .ret)))
def aJH:List Nat:=[1]
def uN:bG:=⟨1,17,vD,[.cell 2 (some 3),.tmp 3]⟩
def aCA:Rg:=[iA 2 (.box true (Tm 0)),iA 3 (.box true (Tm 1)),iI 4 0,iI 5 0]
def aCB:Rg:=[iA 9 (.load (some 3) (Tm 2)),iA 10 (.call 118 [(Tm 9)]),iA 11 (.un .not (Tm 10)),iM 12 11,iG 13 (.load (some 3) (Tm 3)) 12 false,iG 14 (.call 118 [(Tm 13)]) 12 false,iG 15 (.un .not (Tm 14)) 12 false,iA 16 (.pick (Tm 12) (.const (.bool true)) (Tm 15))]
def abG:Rg:=[iI 4 0,iI 5 1]
def aCC:Rd:=[(iF 17 1 2,false),(iL 18 17,false),(iF 19 2 3,false),(iL 20 19,false),(iA 21 (.call 121 [(Tm 18),(Tm 20)]),true),(iF 22 1 3,true),(iL 23 22,true),(iF 24 2 2,true),(iL 25 24,true),(iA 26 (.call 121 [(Tm 23),(Tm 25)]),true),(iA 27 (.call 129 [(Tm 21),(Tm 26)]),true),(iM 6 27,false)]
def aCD:Rd:=[(iF 28 0 2,false),(iL 29 28,false),(iM 30 29,false),(iG 31 (.load (some 3) (Tm 2)) 30 true,false),(iG 32 (.call 122 [(Tm 31)]) 30 true,true),(iG 33 (.un .not (Tm 32)) 30 true,true),(iA 34 (.pick (Tm 30) (Tm 33) (.const (.bool false))),true),(iF 35 0 3,true),(iL 36 35,true),(iM 37 36,false),(iG 38 (.load (some 3) (Tm 3)) 37 true,false),(iG 39 (.call 122 [(Tm 38)]) 37 true,true),(iG 40 (.un .not (Tm 39)) 37 true,false),(iA 41 (.pick (Tm 37) (Tm 40) (.const (.bool false))),false),(iM 7 34,false),(iM 8 41,false)]
def uM:Rg:=[iM 43 7,iM 44 43,iG 45 (.mv (Tm 8)) 44 true,iA 46 (.pick (Tm 44) (Tm 45) (.const (.bool false))),iM 42 46]
def abH:Rg:=[iM 47 6,iA 48 (.un .neg (Tm 47)),iM 4 48,iI 5 0]
def AV:Rg:=[iM 50 7,iM 49 50]
def abI:Rg:=[iI 4 (-1),iI 5 0]
def MN:Rg:=[iM 52 8,iM 51 52]
def RD:Rg:=[iI 4 1,iI 5 0]
def RE:Rg:=[iM 53 6,iM 4 53,iI 5 0]
def HM:aD:=(.seq (.region aCA) (.seq (.seq (.region aCB) (.cond (Tm 16) (.seq (.region abG) .ret) .skip)) (.seq (.draw aCC) (.seq (.draw aCD) (.seq (.block 0 (.seq (.region uM) (.cond (Tm 42) (.seq (.region abH) .ret) (.seq (.region AV) (.cond (Tm 49) (.seq (.region abI) .ret) (.seq (.region MN) (.cond (Tm 51) (.seq (.region RD) .ret) .skip))))))) (.seq (.region RE) .ret))))))
def aZV:List Nat:=[2,3]
def anD:bG:=⟨2,54,HM,[.tmp 4,.tmp 5]⟩
def aBR:Rg:=[iA 2 (.box true (Tm 0)),iA 3 (.box true (Tm 1)),iA 4 (.alloc [(.bool false),.nils,.nils]),iI 5 0]
def aBS:Rg:=[iA 15 (.load (some 3) (Tm 2)),iA 16 (.call 118 [(Tm 15)]),iA 17 (.un .not (Tm 16)),iM 18 17,iG 19 (.load (some 3) (Tm 3)) 18 false,iG 20 (.call 118 [(Tm 19)]) 18 false,iG 21 (.un .not (Tm 20)) 18 false,iA 22 (.pick (Tm 18) (.const (.bool true)) (Tm 21))]
def abE:Rg:=[iA 23 (.build [(.bool false),.nils,.nils] []),iS 3 4 23,iI 5 1]
def aBT:Rd:=[(iF 24 1 2,false),(iL 25 24,false),(iF 26 2 3,false),(iL 27 26,false),(iA 28 (.call 121 [(Tm 25),(Tm 27)]),true),(iF 29 1 3,true),(iL 30 29,true),(iF 31 2 2,true),(iL 32 31,true),(iA 33 (.call 121 [(Tm 30),(Tm 32)]),true),(iF 34 2 2,true),(iL 35 34,true),(iF 36 2 3,true),(iL 37 36,true),(iA 38 (.call 121 [(Tm 35),(Tm 37)]),true),(iM 6 28,false),(iM 7 33,false),(iM 8 38,false)]
def aBU:Rg:=[iF 39 0 2,iL 40 39,iF 41 0 3,iL 42 41,iA 43 (.eqb false (Tm 40) (Tm 42))]
def aBV:Rg:=[iM 45 6,iM 46 7,iA 47 (.call 127 [(Tm 45),(Tm 46)]),iM 44 47,iA 48 (.extract (Tm 44) 0),iA 49 (.extract (Tm 44) 1),iM 9 48,iM 10 49]
def aBW:Rg:=[iF 50 0 2,iL 51 50,iM 52 9,iM 53 8,iA 54 (.call 120 [(Tm 51),(Tm 52),(Tm 53)]),iA 55 (.extract (Tm 54) 0),iA 56 (.extract (Tm 54) 1),iS 3 4 55,iM 5 56]
def aBX:Rg:=[iM 57 6,iM 58 7,iA 59 (.call 129 [(Tm 57),(Tm 58)]),iC 60 .geq 59 0]
def aBY:Rg:=[iM 62 6,iM 63 7,iA 64 (.call 134 [(Tm 62),(Tm 63)]),iM 61 64,iA 65 (.extract (Tm 61) 0),iA 66 (.extract (Tm 61) 1),iM 11 65,iM 12 66]
def aBZ:Rg:=[iF 67 0 2,iL 68 67,iM 69 11,iM 70 8,iA 71 (.call 120 [(Tm 68),(Tm 69),(Tm 70)]),iA 72 (.extract (Tm 71) 0),iA 73 (.extract (Tm 71) 1),iS 3 4 72,iM 5 73]
def anB:Rg:=[iM 75 7,iM 76 6,iA 77 (.call 134 [(Tm 75),(Tm 76)]),iM 74 77,iA 78 (.extract (Tm 74) 0),iA 79 (.extract (Tm 74) 1),iM 13 78,iM 14 79]
def anC:Rg:=[iF 80 0 3,iL 81 80,iM 82 13,iM 83 8,iA 84 (.call 120 [(Tm 81),(Tm 82),(Tm 83)]),iA 85 (.extract (Tm 84) 0),iA 86 (.extract (Tm 84) 1),iS 3 4 85,iM 5 86]
def HL:aD:=(.seq (.region aBR) (.seq (.seq (.region aBS) (.cond (Tm 22) (.seq (.region abE) .ret) .skip)) (.seq (.draw aBT) (.seq (.seq (.region aBU) (.cond (Tm 43) (.seq (.region aBV) (.seq (.region aBW) .ret)) .skip)) (.seq (.seq (.region aBX) (.cond (Tm 60) (.seq (.region aBY) (.seq (.region aBZ) .ret)) .skip)) (.seq (.region anB) (.seq (.region anC) .ret)))))))
def aZT:List Nat:=[2,3]
def HK:bG:=⟨2,87,HL,[.cell 4 (some 3),.tmp 5]⟩
def aCF:Rg:=[iA 2 (.alloc [(.bool false),.nils,.nils]),iI 3 0]
def aCG:Rg:=[iA 9 (.call 132 [(.const (.int .u64 1))]),iA 10 (.build [(.bool false),.nils,.nils] [(2,1,(Tm 9))]),iA 4 (.alloc [(.bool false),.nils,.nils]),iS 3 4 10]
def aCH:Rg:=[iM 11 0,iN 12 11,iI 13 0]
def aCI:Rg:=[iB 14 .lss 13 12]
def aCJ:Rg:=[iX 15 3 11 13,iA 16 (.load (some 3) (Tm 15)),iA 6 (.alloc [(.bool false),.nils,.nils]),iS 3 6 16]
def aCK:Rg:=[iA 18 (.load (some 3) (Tm 4)),iA 19 (.load (some 3) (Tm 6)),iA 20 (.call 113 [(Tm 18),(Tm 19)]),iM 17 20,iA 21 (.extract (Tm 17) 0),iA 22 (.extract (Tm 17) 1),iA 7 (.alloc [(.bool false),.nils,.nils]),iS 3 7 21,iM 8 22]
def abK:Rg:=[iM 23 8,iC 24 .neq 23 0]
def aCL:Rg:=[iA 25 (.build [(.bool false),.nils,.nils] []),iM 26 8,iS 3 2 25,iM 3 26]
def aCM:Rg:=[iA 27 (.load (some 3) (Tm 7)),iS 3 4 27]
def aCN:Rg:=[iC 28 .add 13 1,iM 13 28]
def anM:aD:=(.seq (.region aCI) (.seq (.cond (Tm 14) .skip (.exit 0)) (.seq (.block 1 (.seq (.region aCJ) (.seq (.region aCK) (.seq (.seq (.region abK) (.cond (Tm 24) (.seq (.region aCL) .ret) .skip)) (.region aCM))))) (.region aCN))))
def RK:Rg:=[iA 29 (.load (some 3) (Tm 4)),iS 3 2 29,iI 3 0]
def HS:aD:=(.seq (.region aCF) (.seq (.region aCG) (.seq (.seq (.region aCH) (.block 0 (.loop anM))) (.seq (.region RK) .ret))))
def a0B:List Nat:=[]
def RJ:bG:=⟨1,30,HS,[.cell 2 (some 3),.tmp 3]⟩
end Go.PM
namespace Go.PM
open Go Go.Na
theorem CoL.nil:CoL [] []:=.refl _
theorem CoL.cons {p q:PV} {ps qs:List PV} (h:Co p q) (hs:CoL ps qs):CoL (p::ps) (q::qs) :=
 ⟨by simp[hs.len],fun j a b ha hb=>by
  cases j with
  | zero=>simp at ha hb; subst ha; subst hb; exact h
  | succ j=>exact hs.at_ j a b (by simpa using ha) (by simpa using hb)⟩
theorem CoL.agg {ps qs:List PV} (h:CoL ps qs):Co (.agg ps) (.agg qs):=.agg h.len h.at_
theorem CoL.tup {ps qs:List PV} (h:CoL ps qs):Co (.tup ps) (.tup qs):=.tup h.len h.at_
structure pP (C:Ctx):Prop extends oF C where
 bits:∀ xs,Lim xs→xs.length≤16777216→aJ C 128 [aF xs] .nil (aL (.int .i64 (cB (val xs):Nat)))
 add:∀ xs ys,Lim xs→Lim ys→xs.length≤16777216→ys.length≤16777216→aJ C 127 [aF xs,aF ys] .nil (aL (opV (eN (val xs) (val ys)) (val xs+val ys)))
 sub:∀ xs ys,Lim xs→Lim ys→xs.length≤16777216→ys.length≤16777216→aJ C 134 [aF xs,aF ys] .nil (aL (vZ (val xs) (val ys)))
 mul:∀ xs ys,Lim xs→Lim ys→xs.length≤16777216→ys.length≤16777216→aJ C 133 [aF xs,aF ys] .nil (aL (opV (eN (val xs) (val ys)) (val xs*val ys)))
 gcd:∀ xs ys,Lim xs→Lim ys→xs.length≤16777216→ys.length≤16777216→aJ C 131 [aF xs,aF ys] .nil (aL (if eN (val xs) (val ys) then .tup [aF [],.int .i64 2] else .tup [aF (aH (bgU (val xs) (val ys))),.int .i64 0]))
 div:∀ xs ys,Lim xs→Lim ys→xs.length≤16777216→ys.length≤16777216→aJ C 130 [aF xs,aF ys] .nil (aL (kL (val xs) (val ys)))
theorem iU {a b:Nat} (ha:nl a≤512) (hb:nl b≤512):eN a b=false:=by
 simp[eN]; omega
theorem sT {a b m n:Nat} (ha:nl a≤m) (hb:nl b≤n):nl (a*b)≤m+n:=by
 rw[gQ] at ha hb ⊢
 rw[Nat.pow_add]
 by_cases h:b=0
 ·subst h; exact Nat.mul_pos (bjG (by decide)) (bjG (by decide))
 ·calc a*b<4294967296 ^ m*b:=Nat.mul_lt_mul_of_pos_right ha (bjF h)
   _≤4294967296 ^ m*4294967296 ^ n:=biX _ (Nat.le_of_lt hb)
theorem awM {n:Nat} (h:nl n≤512):szV n=.tup [aF (aH n),.int .i64 0]:=by
 have:¬ nl n>512:=by omega
 simp[szV,szL,szE,this]
theorem aNU {C:Ctx} (L:pP C) (a b:List Nat) (ha:Lim a) (hb:Lim b) (la:a.length≤16777216) (lb:b.length≤16777216) (na:nl (val a)≤256) (nb:nl (val b)≤256) :
  xR.wp C (aY HT.res (aL (aF (aH (val a*val b))))) (PF.args [aF a,aF b]) .nil:=by
 simp -implicitDefEqProofs only[go_sem,γ,reduceCtorEq,xR,adP,adQ,HT]
 refine aB (L.mul a b ha hb la lb) rfl ?_
 have:=sT na nb
 rw[iU (by omega) (by omega),opV,awM (by omega)]
 simp -implicitDefEqProofs only[go_sem,γ,reduceCtorEq,adR]
 refine cC (.inr rfl) rfl ?_
 rfl
abbrev eW (neg:Bool) (a b:List Nat):List PV:=[.bool neg,aF a,aF b]
theorem aUE {C:Ctx} (L:pP C) (neg:Bool) (a b:List Nat) (ha:Lim a) (la:a.length≤16777216) :
  CJ.wp C (aY VO.res (aL (.bool (decide (val a=0))))) (PF.args [.agg (eW neg a b)]) .nil:=by
 simp -implicitDefEqProofs only[go_sem,δ,γ,θ,CJ,anN,anO,VO]
 refine aB (L.bits a ha la) rfl ?_
 simp -implicitDefEqProofs only[go_sem,γ]
 refine cC (.inr rfl) rfl ?_
 have:=@gU (val a)
 by_cases c:val a=0
 ·rw[bS (by omega),decide_eq_true c]; rfl
 ·rw[bF (by omega),decide_eq_false c]; rfl
def dH (a b:Nat):Bool:=decide (0<cB b)&&decide (cB b≤4096)&&decide (cB a≤4096)
theorem aNW {C:Ctx} (L:pP C) (neg:Bool) (a b:List Nat) (ha:Lim a) (hb:Lim b) (la:a.length≤16777216) (lb:b.length≤16777216) :
  xS.wp C (aY HU.res (aL (.bool (dH (val a) (val b))))) (PF.args [.agg (eW neg a b)]) .nil:=by
 simp -implicitDefEqProofs only[go_sem,γ,xS,adS,adT,HU]
 refine aB (L.bits b hb lb) rfl ?_
 by_cases c1:0<cB (val b)
 ·have c1':((cB (val b):Nat):Int)>0:=by omega
  by_cases c2:cB (val b)≤4096
  ·have c2':((cB (val b):Nat):Int)≤4096:=by omega
   simp -implicitDefEqProofs only[go_sem,δ,γ,θ,wM,c1',c2']
   refine aB (L.bits a ha la) rfl ?_
   simp -implicitDefEqProofs only[go_sem,γ]
   refine cC (.inr rfl) rfl ?_
   show PV.bool (decide _)=_
   rw[dH,decide_eq_true c1,decide_eq_true c2,bhP,bhP]
   congr 1
   rw[decide_eq_decide]
   omega
  ·have c2':¬ ((cB (val b):Nat):Int)≤4096:=by omega
   simp -implicitDefEqProofs only[go_sem,γ,reduceCtorEq,wM,c1',c2']
   refine cC (.inr rfl) rfl ?_
   show PV.bool _=_
   simp[dH,c1,c2]
 ·have c1':¬ ((cB (val b):Nat):Int)>0:=by omega
  simp -implicitDefEqProofs only[go_sem,γ,reduceCtorEq,wM,c1']
  refine cC (.inr rfl) rfl ?_
  show PV.bool _=_
  simp[dH,c1]
theorem aZQ {C:Ctx} (L:pP C) (v:Int) (h1:-9223372036854775808≤v) (h2:v≤9223372036854775807) :
  HJ.wp C (aY anA.res (aL (aF (aH v.natAbs)))) (PF.args [.int .i64 v]) .nil:=by
 simp -implicitDefEqProofs only[go_sem,γ,reduceCtorEq,HJ,aBN,aBO,anA]
 by_cases c:v<0
 ·have e:IntKind.u64.wrap (0-IntKind.u64.wrap v)=((v.natAbs:Nat):Int):=by
   rw[eT,eT]; omega
  simp -implicitDefEqProofs only[go_sem,γ,reduceCtorEq,c,aBP,e]
  refine aB (L.make v.natAbs (by omega)) rfl ?_
  simp -implicitDefEqProofs only[go_sem,γ]
  refine cC (.inr rfl) rfl ?_
  rfl
 ·have e:IntKind.u64.wrap v=((v.natAbs:Nat):Int):=by
   rw[eT]; omega
  simp -implicitDefEqProofs only[go_sem,γ,reduceCtorEq,c,aBQ,e]
  refine aB (L.make v.natAbs (by omega)) rfl ?_
  simp -implicitDefEqProofs only[go_sem,γ]
  refine cC (.inr rfl) rfl ?_
  rfl
end Go.PM
namespace Go.PM
open Go Go.Na
abbrev wL (e:Int):PV:=.tup [.agg (eW false [] []),.int .i64 e]
abbrev aJI (neg:Bool) (a b:Nat):PV:=.tup [.agg (eW neg (aH a) (aH b)),.int .i64 0]
def DJ (neg:Bool) (a b:Nat):PV :=
 if cB (a/bgU a b)>4096∨cB (b/bgU a b)>4096 then wL 2 else aJI (neg&&decide (a/bgU a b≠0)) (a/bgU a b) (b/bgU a b)
theorem lD {res:List dD} {F:PF} {H:PH} {e:Int} (h:dD.evs F H res=some [.agg [.bool false,.nils,.nils],.int .i64 e]):aY res (bY (wL e)) .ret F H :=
 aW (.inr rfl) .nil h PH.nil_le ⟨CoL.tup (.cons (CoL.agg (.cons (.refl _) (.cons (.nil 1) (.cons (.nil 1) .nil)))) (.cons (.refl _) .nil)),rfl⟩
theorem amL {n:Nat}:cB n>1↔n>1:=by
 have:=jU n 1
 omega
theorem aPT {a n:Nat} (g:Nat) (h:nl a≤n):nl (a/g)≤n:=bjM (gN (bjS _ _)) h
theorem HR {C:Ctx} (L:pP C) (neg:Bool) (a b:List Nat) (ha:Lim a) (hb:Lim b) (la:a.length≤16777216) (lb:b.length≤16777216) (o:Nat) (F:PF) (H:PH)
  (f0:F 0=some (.bool neg)) (f1:F 1=some (aF a)) (f2:F 2=some (aF b)) (f6:F 6=some (.ptr o 3 0 0)) (f7:F 7=some (.int .i64 0)) (hH:H o=some (.rows 3 [[.bool false,.nils,.nils]])) :
  aD.wp C (.seq (.seq (.region CF) (.cond (.tmp 40) (.seq (.region tJ) .ret) .skip)) (.seq (.region CG) .ret)) (aY mY.res (bY (if cB (val a)>4096∨cB (val b)>4096 then wL 2 else aJI (neg&&decide (val a≠0)) (val a) (val b)))) F H:=by
 have fin:∀ (r:List (List PV)) F H,F 6=some (.ptr o 3 0 0)→F 7=some (.int .i64 2)→H o=some (.rows 3 [[.bool false,.nils,.nils]])→aY mY.res (bY (wL 2)) .ret F H:=by
  intro r F H h6 h7 h
  refine lD ?_
  simp -implicitDefEqProofs only[go_sem,δ,mY,h6,h7,h]
 simp -implicitDefEqProofs only[go_sem,CF,f1]
 refine aB (L.bits a ha la) rfl ?_
 by_cases c1:cB (val a)>4096
 ·have c1':((cB (val a):Nat):Int)>4096:=by omega
  rw[if_pos (.inl c1)]
  simp -implicitDefEqProofs only[go_sem,δ,γ,c1',tJ,f6,hH]
  exact fin [] _ _ (by simp -implicitDefEqProofs only[go_sem,γ,f6]) rfl (by simp -implicitDefEqProofs only[go_sem])
 ·have c1':¬ ((cB (val a):Nat):Int)>4096:=by omega
  simp -implicitDefEqProofs only[go_sem,γ,c1',f2]
  refine aB (L.bits b hb lb) rfl ?_
  by_cases c2:cB (val b)>4096
  ·have c2':((cB (val b):Nat):Int)>4096:=by omega
   rw[if_pos (.inr c2)]
   simp -implicitDefEqProofs only[go_sem,δ,γ,reduceCtorEq,c2',tJ,f6,hH]
   exact fin [] _ _ (by simp -implicitDefEqProofs only[go_sem,γ,f6]) rfl (by simp -implicitDefEqProofs only[go_sem])
  ·have c2':¬ ((cB (val b):Nat):Int)>4096:=by omega
   rw[if_neg (by omega)]
   have last:∀ F:PF,F 1=some (aF a)→F 2=some (aF b)→F 6=some (.ptr o 3 0 0)→∀ (q:Bool),q=(neg&&decide (val a≠0))→F 47=some (.bool q) →
     True:=fun _ _ _ _ _ _ _=>trivial
   simp -implicitDefEqProofs only[go_sem,γ,reduceCtorEq,c2',CG,f0,f1,f2,f6,hH]
   cases neg with
   | false =>
    simp -implicitDefEqProofs only[go_sem,γ,reduceCtorEq,f0,f1,f2,f6,hH]
    refine aB (L.trim a ha la) rfl ?_
    simp -implicitDefEqProofs only[go_sem,γ,f0,f1,f2,f6,hH]
    refine aB (L.trim b hb lb) rfl ?_
    simp -implicitDefEqProofs only[go_sem,δ,γ,θ,f0,f1,f2,f6,hH,bhG]
    refine aW (.inr rfl) .nil (vs:=[.agg (eW false (aH (val a)) (aH (val b))),.int .i64 0]) ?_ PH.nil_le ⟨.refl _,rfl⟩
    simp -implicitDefEqProofs only[go_sem,δ,γ,mY,f6,hH]
   | true =>
    simp -implicitDefEqProofs only[go_sem,γ,f0,f1,f2,f6,hH]
    refine aB (L.bits a ha la) rfl ?_
    have e:decide (((cB (val a):Nat):Int)>0)=decide (val a≠0):=by
     have:=@gU (val a)
     rw[decide_eq_decide]; omega
    simp -implicitDefEqProofs only[go_sem,γ,f0,f1,f2,f6,hH,e]
    refine aB (L.trim a ha la) rfl ?_
    simp -implicitDefEqProofs only[go_sem,γ,f0,f1,f2,f6,hH]
    refine aB (L.trim b hb lb) rfl ?_
    simp -implicitDefEqProofs only[go_sem,δ,γ,θ,f0,f1,f2,f6,hH,bhP]
    refine aW (.inr rfl) .nil (vs:=[.agg (eW (decide (val a≠0)) (aH (val a)) (aH (val b))),.int .i64 0]) ?_ PH.nil_le ⟨.refl _,rfl⟩
    simp -implicitDefEqProofs only[go_sem,δ,γ,mY,f6,hH]
theorem aJC {C:Ctx} (L:pP C) (neg:Bool) (a b:List Nat) (ha:Lim a) (hb:Lim b) (la:a.length≤16777216) (lb:b.length≤16777216) (na:nl (val a)≤512) (nb:nl (val b)≤512) (h0:val b≠0) :
  vC.wp C (aY mY.res (bY (DJ neg (val a) (val b)))) (PF.args [.bool neg,aF a,aF b]) .nil:=by
 simp -implicitDefEqProofs only[go_sem,δ,vC,VC,VD]
 refine aQ fun o ho=>?_
 simp -implicitDefEqProofs only[go_sem,γ]
 refine aB (L.gcd a b ha hb la lb) rfl ?_
 rw[iU na nb]
 simp -implicitDefEqProofs only[go_sem,γ,reduceCtorEq,VE]
 have hg0:bgU (val a) (val b)≠0:=by
  intro h; exact h0 (Nat.gcd_eq_zero_iff.1 h).2
 have hgl:nl (bgU (val a) (val b))≤512:=bjM (gN (Nat.gcd_le_right _ (bjF h0))) nb
 have hll:(aH (bgU (val a) (val b))).length≤16777216:=by rw[bH]; omega
 refine aB (L.bits _ (bD _) hll) rfl ?_
 rw[aX]
 by_cases c:bgU (val a) (val b)>1
 ·have c':((cB (bgU (val a) (val b)):Nat):Int)>1:=by have:=amL.2 c; omega
  simp -implicitDefEqProofs only[go_sem,γ,c',VG]
  refine aB (L.div a _ ha (bD _) la hll) rfl ?_
  rw[aX,kL,iU na hgl,if_neg (by decide),if_neg hg0]
  simp -implicitDefEqProofs only[go_sem,γ,VH]
  refine aB (L.div b _ hb (bD _) lb hll) rfl ?_
  rw[aX,kL,iU nb hgl,if_neg (by decide),if_neg hg0]
  simp -implicitDefEqProofs only[go_sem,γ]
  have:=HR L neg (aH (val a/bgU (val a) (val b))) (aH (val b/bgU (val a) (val b))) (bD _) (bD _) (by rw[bH]; have:=aPT (bgU (val a) (val b)) na; omega) (by rw[bH]; have:=aPT (bgU (val a) (val b)) nb; omega) o
  rw[aX,aX] at this
  have:=fun F H=>this F H
  simp only[aD.wp,go_sem] at this
  exact this _ _ rfl rfl rfl rfl rfl (by simp -implicitDefEqProofs only[go_sem])
 ·have c':¬ ((cB (bgU (val a) (val b)):Nat):Int)>1:=by have:=(@amL (bgU (val a) (val b))); omega
  have e1:bgU (val a) (val b)=1:=by omega
  simp -implicitDefEqProofs only[go_sem,γ,c']
  rw[DJ,e1,Nat.div_one,Nat.div_one]
  have:=HR L neg a b ha hb la lb o
  simp only[aD.wp,go_sem] at this
  exact this _ _ rfl rfl rfl rfl rfl (by simp -implicitDefEqProofs only[go_sem])
end Go.PM
