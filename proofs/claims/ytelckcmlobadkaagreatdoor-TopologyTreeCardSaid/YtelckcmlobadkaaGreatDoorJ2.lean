/-
  Texts of ours, joined: Pm20c Pm21 Pm22 Pm23 Pm24 Pm25 Pm26 L11Code R1Code NaCode Pm27 Pm29 Pm30 Pm31 NaPlain NaW1 NaW2 NaW3 NaW4 NaW5 NaW6 NaW7 NaW8 NaW9 NaKn NaW10 NaW11 Pm32 NaW12 NaW13 NaW14 NaW15 FrCode FrW1 FrW2 FrW3. No condition.
-/
import Derived.Test.YtelckcmlobadkaaGreatDoorJ1
import Derived.ProofKit
set_option linter.unusedSimpArgs false
set_option linter.unusedVariables false
open Nat renaming reduceEqDiff → γ, reduceAdd → δ, reduceSub → ε, reduceMul → ζ, reduceLT → η, reduceLeDiff → θ, reduceBEq → τ
open Int renaming reduceLT → ι, reduceLE → κ, reduceEq → μ, reduceToNat → ν, reduceAdd → ξ, reduceNeg → ο, reduceBEq → ρ, reduceBNe → σ
open List renaming reduceReplicate → υ
open List renaming length_map → baF, replicate → baH, length_append → baI, length_singleton → baL, getElem_mem → baN, mem_cons → baP, getElem?_eq_getElem → baQ, take_of_length_le → baS, length_take → baV, range → baW, not_mem_nil → baY, drop_zero → bbG, getD_eq_getElem?_getD → bbI, append_assoc → bbJ, map_cons → bbK, mem_map → bbL, getElem?_eq_none → bbO, take_length → bbP, all_eq_true → bbQ, getElem?_eq_some_iff → bbR, getElem?_map → bbU, getElem_map → bbW, getElem_of_mem → bbX, append_nil → bbY, length_drop → bbZ, map_append → bcA, drop_eq_getElem_cons → bcD, mem_append → bcE, mem_range → bcF, Sublist → bcK, length_nil → bcL, map_nil → bcM, length_cons → bcN, take_succ_eq_append_getElem → bcO, mem_of_getElem? → bcS, take_append_drop → bcT, nodup_append → bcU, ext_getElem → bcZ, getElem?_append_left → bdA, length_set → bdB, getElem?_append_right → bdE, getElem?_take → bdF, set_append_right → bdG, drop_of_length_le → bdL
open Nat renaming gcd → baG, le_refl → baJ, mul_add → baO, zero_le → baR, lt_or_ge → baU, mul_assoc → baX, mul_comm → bbA, add_mul → bbD, mul_le_mul_right → bbE, zero_add → bbF, mod_eq_of_lt → bbH, mod_lt → bbM, pow_succ → bbS, eq_zero_or_pos → bcB, min_eq_left → bcC, add_assoc → bcG, add_zero → bcH, mul_le_mul_left → bcI, le_trans → bcP, pos_of_ne_zero → bcQ, pow_pos → bcR, div_lt_iff_lt_mul → bcV, div_le_self → bdC, div_add_mod → bdH, div_eq_of_lt → bdI
open Option renaming map_eq_some_iff → baK, map_some → bbN, some → bcJ, getD_some → bcX, bind_eq_some_iff → bdJ, bind_some → bdM
open Bool renaming not_true → baM, false_and → baT, not_false → baZ, and_eq_true → bbB, true_and → bbC, and_false → bbV, and_true → bcY
open Array renaming replicate → bbT, length_toList → bcW, getElem?_eq_getElem → bdK, getElem?_eq_some_iff → bdN
open Int renaming toNat_natCast → bdD
namespace Go.PM
open Go
inductive Co:PV→PV→Prop
 | refl (v:PV):Co v v
 | junk (v:PV):Co v .junk
 | nil (s:Nat):Co .nils (.sl s [])
 | osl0 (o s off s':Nat):Co (.osl o s off 0) (.sl s' [])
 | agg {cs ds:List PV} (hl:ds.length=cs.length) (h:∀ (j:Nat) p q,cs[j]?=some p→ds[j]?=some q→Co p q):Co (.agg cs) (.agg ds)
 | tup {cs ds:List PV} (hl:ds.length=cs.length) (h:∀ (j:Nat) p q,cs[j]?=some p→ds[j]?=some q→Co p q):Co (.tup cs) (.tup ds)
 | rptr {cs ds:List PV} (hl:ds.length=cs.length) (h:∀ (j:Nat) p q,cs[j]?=some p→ds[j]?=some q→Co p q):Co (.rptr cs) (.rptr ds)
 | sl {s:Nat} {rs ts:List (List PV)} (hl:ts.length=rs.length) (hr:∀ (i:Nat) r t,rs[i]?=some r→ts[i]?=some t→t.length=r.length)
   (h:∀ (i j:Nat) p q,at2 rs i j=some p→at2 ts i j=some q→Co p q):Co (.sl s rs) (.sl s ts)
structure CoL (ps qs:List PV):Prop where
 len:qs.length=ps.length
 at_:∀ (j:Nat) p q,ps[j]?=some p→qs[j]?=some q→Co p q
theorem CoL.refl (ps:List PV):CoL ps ps:=⟨rfl,fun j p q h k=>by rw[h] at k; cases k; exact .refl p⟩
theorem Co.sound {E:Env} {p q:PV} (h:Co p q):∀ {v:Value},aR E p v→aR E q v:=by
 induction h with
 | refl=>intro v r; exact r
 | junk=>intro v _; exact .junk v
 | nil s =>
  intro v r
  cases r
  exact .sl (fun _ _=>.bool false) (by simp) (by decide) (by simp) (by simp) (fun _ _=>rfl) (by simp[at2])
 | osl0 o s off s' =>
  intro v r
  cases r with
  | osl hb hsp hoff hlen hmax hn hroom=>exact .sl (fun _ _=>.bool false) (by simp) hmax (by simp) (by simp) (fun _ _=>rfl) (by simp[at2])
 | agg hl h ih =>
  intro v r
  cases r with
  | agg vs hl' h1 hr =>
  refine .agg vs (hl'.trans hl.symm) h1 fun j q u hq hu=>?_
  have hj:=(bbR.1 hq).1
  have hp:=baQ (show j<_ by rw[hl] at hj; exact hj)
  exact ih j _ q hp hq (hr j _ u hp hu)
 | tup hl h ih =>
  intro v r
  cases r with
  | tup vs hl' hr =>
  refine .tup vs (hl'.trans hl.symm) fun j q u hq hu=>?_
  have hj:=(bbR.1 hq).1
  have hp:=baQ (show j<_ by rw[hl] at hj; exact hj)
  exact ih j _ q hp hq (hr j _ u hp hu)
 | rptr hl h ih =>
  intro v r
  cases r with
  | rptr u hsp hc h1 hr =>
  refine .rptr u hsp (fun j q hq=>?_) h1 fun j q hq=>?_
  ·have hj:=(bbR.1 hq).1
   exact hc j _ (baQ (show j<_ by rw[hl] at hj; exact hj))
  ·have hj:=(bbR.1 hq).1
   have hp:=baQ (show j<_ by rw[hl] at hj; exact hj)
   exact ih j _ q hp hq (hr j _ hp)
 | @sl s rs ts hl hrr h ih =>
  intro v r
  have key:∀ (i j:Nat) q,at2 ts i j=some q→∃ p,at2 rs i j=some p:=by
   intro i j q hq
   unfold at2 at hq ⊢
   rw[bdJ] at hq
   obtain⟨t,ht,hq⟩:=hq
   have hi:=(bbR.1 ht).1
   have hr:=baQ (show i<rs.length by omega)
   have:=hrr i _ t hr ht
   have hj:=(bbR.1 hq).1
   rw[hr]
   exact⟨(rs[i])[j]'(by omega),by simp⟩
  cases r with
  | sl u hcap hmax hs ha h1 hr =>
  rw[← hl]
  refine .sl u (by omega) hmax (fun t ht=>?_) (fun hne=>?_) h1 fun i j q hq=>?_
  ·obtain⟨i,hi,rfl⟩:=bbX ht
   have:=hrr i rs[i] ts[i] (by simp) (by simp)
   rw[this]
   exact hs _ (by simp)
  ·obtain⟨ad,e,sp,hc⟩:=ha (by rintro rfl; exact hne (List.eq_nil_of_length_eq_zero (by simpa using hl)))
   refine⟨ad,e,sp,fun i j q hq=>?_⟩
   obtain⟨p,hp⟩:=key i j q hq
   exact hc i j p hp
  ·obtain⟨p,hp⟩:=key i j q hq
   exact ih i j p q hp hq (hr i j p hp)
theorem CoL.sound {E:Env}:∀ {ps qs:List PV} {vs:List Value},CoL ps qs→eD E ps vs→eD E qs vs
 | [],qs,vs,h,r=>by
  cases r
  have:qs=[]:=List.eq_nil_of_length_eq_zero h.len
  subst this
  exact .nil
 | p::ps,qs,vs,h,r=>by
  cases r with
  | cons r1 r2 =>
  cases qs with
  | nil=>have:=h.len; simp at this
  | cons q qs =>
   refine .cons ((h.at_ 0 p q rfl rfl).sound r1) (CoL.sound ⟨by simpa using h.len,fun j x y a b=>h.at_ (j+1) x y (by simpa using a) (by simpa using b)⟩ r2)
theorem aJ.args {C:Ctx} {name:Nat} {args args':List PV} {H:PH} {R:PV→PH→Prop} (h:aJ C name args' H R) (hc:CoL args args'):aJ C name args H R :=
 ⟨h.1,fun E w vs hN hW hvs=>h.2 E w vs hN hW (hc.sound hvs)⟩
theorem aJ.post {C:Ctx} {name:Nat} {args:List PV} {H:PH} {R R':PV→PH→Prop} (h:aJ C name args H R) (hR:∀ r H',R r H'→∃ r',Co r r'∧R' r' H'):aJ C name args H R' :=
 ⟨h.1,fun E w vs hN hW hvs=>(h.2 E w vs hN hW hvs).mono fun e w' he=>by
  obtain⟨v,pv,E',H',rfl,hW',hr,hE,hp⟩:=he
  obtain⟨pv',hco,hp'⟩:=hR pv H' hp
  exact⟨v,pv',E',H',rfl,hW',hco.sound hr,hE,hp'⟩⟩
end Go.PM
namespace Go.PM
open Go
attribute [go_sem] List.getElem?_cons_succ List.getElem?_cons_zero and_self and_true true_and or_true true_or or_false false_or baM baZ bbN bdM if_true if_false bcN bcL List.drop_succ_cons bbG List.take_succ_cons List.take_zero bbK bcM bcJ.injEq PV.bool.injEq PV.int.injEq aO PV.bin
@[go_sem] theorem a0G (k:IntKind) (a b:Int):iO .add k a b=some (.int k (k.wrap (a+b))):=rfl
@[go_sem] theorem a0Q (k:IntKind) (a b:Int):iO .sub k a b=some (.int k (k.wrap (a-b))):=rfl
@[go_sem] theorem a0M (k:IntKind) (a b:Int):iO .mul k a b=some (.int k (k.wrap (a*b))):=rfl
@[go_sem] theorem a0O (k:IntKind) (a b:Int):iO .quo k a b=if b=0 then none else some (.int k (k.wrap (a.tdiv b))):=rfl
@[go_sem] theorem a0P (k:IntKind) (a b:Int):iO .rem k a b=if b=0 then none else some (.int k (a.tmod b)):=rfl
@[go_sem] theorem a0H (k:IntKind) (a b:Int):iO .eql k a b=some (.bool (a==b)):=rfl
@[go_sem] theorem a0N (k:IntKind) (a b:Int):iO .neq k a b=some (.bool (a != b)):=rfl
@[go_sem] theorem a0L (k:IntKind) (a b:Int):iO .lss k a b=some (.bool (decide (a<b))):=rfl
@[go_sem] theorem a0K (k:IntKind) (a b:Int):iO .leq k a b=some (.bool (decide (a≤b))):=rfl
@[go_sem] theorem a0J (k:IntKind) (a b:Int):iO .gtr k a b=some (.bool (decide (a>b))):=rfl
@[go_sem] theorem a0I (k:IntKind) (a b:Int):iO .geq k a b=some (.bool (decide (a≥b))):=rfl
section
variable {C:Ctx} {K:cD} {F:PF} {H:PH}
@[go_sem] theorem a9D:aC.wp C .skip K F H=K .normal F H:=rfl
@[go_sem] theorem a2A (ops:List bC):aC.wp C (.region ops) K F H=wpOps C ops (K .normal) F H:=rfl
@[go_sem] theorem ZA (a b:aC):aC.wp C (.seq a b) K F H=a.wp C (kE C (b.wp C) K) F H:=rfl
@[go_sem] theorem a3H (id:Nat) (c:aC):aC.wp C (.block id c) K F H=c.wp C (eO id K) F H:=rfl
@[go_sem] theorem a9C (id:Nat):aC.wp C (.exit id) K F H=K (.exit id) F H:=rfl
@[go_sem] theorem a9O:aC.wp C .ret K F H=K .ret F H:=rfl
def ahQ (C:Ctx) (v:Option PV) (a b:aC) (K:cD) (F:PF) (H:PH):Prop :=
 match v with
 | some (.bool t)=>if t then a.wp C K F H else b.wp C K F H
 | _=>False
@[go_sem] theorem a9B (c:aM) (a b:aC):aC.wp C (.cond c a b) K F H=ahQ C (c.ev F) a b K F H:=rfl
@[go_sem] theorem a0W (a b:aC):ahQ C (some (.bool true)) a b K F H=a.wp C K F H:=rfl
@[go_sem] theorem aZK (a b:aC):ahQ C (some (.bool false)) a b K F H=b.wp C K F H:=rfl
theorem aOE {t:Bool} {a b:aC} (h1:t=true→a.wp C K F H) (h2:t=false→b.wp C K F H):ahQ C (some (.bool t)) a b K F H:=by
 cases t
 ·exact h2 rfl
 ·exact h1 rfl
@[go_sem] theorem aZQ (w:cD→PF→PH→Prop):kE C w K .normal F H=w K F H:=rfl
@[go_sem] theorem aYZ (w:cD→PF→PH→Prop):kE C w K .normal=w K:=rfl
@[go_sem] theorem a2V (w:cD→PF→PH→Prop) (id:Nat):kE C w K (.exit id)=K (.exit id):=rfl
@[go_sem] theorem a8Q (w:cD→PF→PH→Prop):kE C w K .ret=K .ret:=rfl
@[go_sem] theorem aXP (id:Nat):eO id K .normal=K .normal:=rfl
@[go_sem] theorem a0T (id:Nat):eO id K .ret=K .ret:=rfl
@[go_sem] theorem avU (id id':Nat):eO id K (.exit id') F H=if id'=id then K .normal F H else K (.exit id') F H:=rfl
@[go_sem] theorem a1Y (K:PF→PH→Prop):wpOps C [] K F H=K F H:=rfl
@[go_sem] theorem a1Z (d:Option Nat) (op:POp) (rest:List bC) (K:PF→PH→Prop):wpOps C (⟨d,op,none⟩::rest) K F H=wpOp C op d (wpOps C rest K) F H:=rfl
def yJ (C:Ctx) (v:Option PV) (want:Bool) (op:POp) (d:Option Nat) (rest:List bC) (K:PF→PH→Prop) (F:PF) (H:PH):Prop :=
 match v with
 | some (.bool b)=>if b=want then wpOp C op d (wpOps C rest K) F H else wpOps C rest K (F.put d (.tup [])) H
 | some (.tup [])=>wpOps C rest K (F.put d (.tup [])) H
 | _=>False
@[go_sem] theorem a0E (d:Option Nat) (op:POp) (t:Nat) (want:Bool) (rest:List bC) (K:PF→PH→Prop) :
  wpOps C (⟨d,op,some (t,want)⟩::rest) K F H=yJ C (F t) want op d rest K F H:=rfl
@[go_sem] theorem a2R (op:POp) (d:Option Nat) (rest:List bC) (K:PF→PH→Prop):yJ C (some (.bool true)) true op d rest K F H=wpOp C op d (wpOps C rest K) F H:=rfl
@[go_sem] theorem a2O (op:POp) (d:Option Nat) (rest:List bC) (K:PF→PH→Prop):yJ C (some (.bool false)) false op d rest K F H=wpOp C op d (wpOps C rest K) F H:=rfl
@[go_sem] theorem a2Q (op:POp) (d:Option Nat) (rest:List bC) (K:PF→PH→Prop):yJ C (some (.bool true)) false op d rest K F H=wpOps C rest K (F.put d (.tup [])) H:=rfl
@[go_sem] theorem a2P (op:POp) (d:Option Nat) (rest:List bC) (K:PF→PH→Prop):yJ C (some (.bool false)) true op d rest K F H=wpOps C rest K (F.put d (.tup [])) H:=rfl
@[go_sem] theorem aZP (want:Bool) (op:POp) (d:Option Nat) (rest:List bC) (K:PF→PH→Prop):yJ C (some (.tup [])) want op d rest K F H=wpOps C rest K (F.put d (.tup [])) H:=rfl
@[go_sem] theorem a6J (d:Nat) (v:PV):F.put (some d) v=F.set d v:=rfl
@[go_sem] theorem a6I (v:PV):F.put none v=F:=rfl
@[go_sem] theorem kP (i j:Nat) (v:PV):(F.set i v) j=if j=i then some v else F j:=rfl
@[go_sem] theorem args_at (vs:List PV) (i:Nat):PF.args vs i=vs[i]?:=rfl
@[go_sem] theorem a9R (i:Nat):PF.nil i=none:=rfl
@[go_sem] theorem RJ (t:Nat):(aM.tmp t).ev F=F t:=rfl
@[go_sem] theorem a6A (v:PV):(aM.const v).ev F=some v:=rfl
@[go_sem] theorem aU (i j:Nat) (x:bX):(H.set i x) j=if j=i then some x else H j:=rfl
@[go_sem] theorem XK (i:Nat):PH.nil i=none:=rfl
@[go_sem] theorem JN:aM.evs F []=some []:=rfl
@[go_sem] theorem zL (x:aM) (xs:List aM):aM.evs F (x::xs)=(match x.ev F,aM.evs F xs with | some v,some vs=>some (v::vs) | _,_=>none):=rfl
theorem fN {i j:Nat} {x:bX}:(H.set i x) j=none↔j≠i∧H j=none:=by
 rw[aU]
 split<;>simp_all
@[go_sem] theorem aZR (v:PV) (d:Option Nat) (K:PF→PH→Prop):bO (some v) d K F H=K (F.put d v) H:=by
 simp[bO]
theorem aP {mk:Nat→PV} {x:bX} {d:Option Nat} {K:PF→PH→Prop} (h:∀ o,H o=none→K (F.put d (mk o)) (H.set o x)):lH (some (mk,x)) d K F H:=⟨mk,x,rfl,h⟩
@[go_sem] theorem a9M (x:aM) (d:Option Nat) (K:PF→PH→Prop):wpOp C (.mv x) d K F H=bO (aO (.mv x) F H) d K F H:=rfl
@[go_sem] theorem a3G (x:aM) (d:Option Nat) (K:PF→PH→Prop):wpOp C (.same x) d K F H=bO (aO (.same x) F H) d K F H:=rfl
@[go_sem] theorem a3F (c a b:aM) (d:Option Nat) (K:PF→PH→Prop):wpOp C (.pick c a b) d K F H=bO (aO (.pick c a b) F H) d K F H:=rfl
@[go_sem] theorem a8W (o:BinOp) (x y:aM) (d:Option Nat) (K:PF→PH→Prop):wpOp C (.bin o x y) d K F H=bO (aO (.bin o x y) F H) d K F H:=rfl
@[go_sem] theorem a8Y (n:Bool) (x y:aM) (d:Option Nat) (K:PF→PH→Prop):wpOp C (.eqb n x y) d K F H=bO (aO (.eqb n x y) F H) d K F H:=rfl
@[go_sem] theorem a8Z (n:Bool) (ks:List Sc) (x y:aM) (d:Option Nat) (K:PF→PH→Prop):wpOp C (.eqs n ks x y) d K F H=bO (aO (.eqs n ks x y) F H) d K F H:=rfl
@[go_sem] theorem a9N (o:UnOp) (x:aM) (d:Option Nat) (K:PF→PH→Prop):wpOp C (.un o x) d K F H=bO (aO (.un o x) F H) d K F H:=rfl
@[go_sem] theorem a2Z (k:IntKind) (x:aM) (d:Option Nat) (K:PF→PH→Prop):wpOp C (.conv k x) d K F H=bO (aO (.conv k x) F H) d K F H:=rfl
@[go_sem] theorem a1S (z:List PV) (ps:List (Nat × Nat × aM)) (d:Option Nat) (K:PF→PH→Prop):wpOp C (.build z ps) d K F H=bO (aO (.build z ps) F H) d K F H:=rfl
@[go_sem] theorem a3D (n:Option Nat) (p:aM) (d:Option Nat) (K:PF→PH→Prop):wpOp C (.load n p) d K F H=bO (aO (.load n p) F H) d K F H:=rfl
@[go_sem] theorem a0C (x:aM) (d:Option Nat) (K:PF→PH→Prop):wpOp C (.nilchk x) d K F H=bO (aO (.nilchk x) F H) d K F H:=rfl
@[go_sem] theorem aZV (off:Nat) (x:aM) (d:Option Nat) (K:PF→PH→Prop):wpOp C (.fieldA off x) d K F H=bO (aO (.fieldA off x) F H) d K F H:=rfl
@[go_sem] theorem a1U (off:Nat) (n:Option Nat) (x:aM) (d:Option Nat) (K:PF→PH→Prop):wpOp C (.field off n x) d K F H=bO (aO (.field off n x) F H) d K F H:=rfl
@[go_sem] theorem a3B (s:Nat) (x i:aM) (d:Option Nat) (K:PF→PH→Prop):wpOp C (.idxS s x i) d K F H=bO (aO (.idxS s x i) F H) d K F H:=rfl
@[go_sem] theorem a3A (n s:Nat) (x i:aM) (d:Option Nat) (K:PF→PH→Prop):wpOp C (.idxA n s x i) d K F H=bO (aO (.idxA n s x i) F H) d K F H:=rfl
@[go_sem] theorem a3C (n s:Nat) (g:Bool) (x i:aM) (d:Option Nat) (K:PF→PH→Prop):wpOp C (.idxV n s g x i) d K F H=bO (aO (.idxV n s g x i) F H) d K F H:=rfl
@[go_sem] theorem aZW (x i:aM) (d:Option Nat) (K:PF→PH→Prop):wpOp C (.idxStr x i) d K F H=bO (aO (.idxStr x i) F H) d K F H:=rfl
@[go_sem] theorem a1W (s:Nat) (x:aM) (lo hi mx:Option aM) (d:Option Nat) (K:PF→PH→Prop):wpOp C (.slice s x lo hi mx) d K F H=bO (aO (.slice s x lo hi mx) F H) d K F H:=rfl
@[go_sem] theorem a0D (n s:Nat) (x:aM) (lo hi mx:Option aM) (d:Option Nat) (K:PF→PH→Prop):wpOp C (.sliceA n s x lo hi mx) d K F H=bO (aO (.sliceA n s x lo hi mx) F H) d K F H:=rfl
@[go_sem] theorem aXS (x:aM) (lo hi:Option aM) (d:Option Nat) (K:PF→PH→Prop):wpOp C (.sliceStr x lo hi) d K F H=bO (aO (.sliceStr x lo hi) F H) d K F H:=rfl
@[go_sem] theorem a2S:PV.rT .nils=some (.int .i64 0):=rfl
@[go_sem] theorem a9L (s:Nat) (rows:List (List PV)):PV.rT (.sl s rows)=some (.int .i64 rows.length):=rfl
@[go_sem] theorem a6G (o s off n:Nat):PV.rT (.osl o s off n)=some (.int .i64 n):=rfl
@[go_sem] theorem a9A (x:aM) (d:Option Nat) (K:PF→PH→Prop):wpOp C (.len x) d K F H=bO (aO (.len x) F H) d K F H:=rfl
@[go_sem] theorem aZY (x:aM) (d:Option Nat) (K:PF→PH→Prop):wpOp C (.lenStr x) d K F H=bO (aO (.lenStr x) F H) d K F H:=rfl
@[go_sem] theorem aZU (x:aM) (d:Option Nat) (K:PF→PH→Prop):wpOp C (.capNil x) d K F H=bO (aO (.capNil x) F H) d K F H:=rfl
@[go_sem] theorem aZI (x:aM) (i:Nat) (d:Option Nat) (K:PF→PH→Prop):wpOp C (.extract x i) d K F H=bO (aO (.extract x i) F H) d K F H:=rfl
@[go_sem] theorem a0B (m:Bool) (x y:aM) (d:Option Nat) (K:PF→PH→Prop):wpOp C (.minmax m x y) d K F H=bO (aO (.minmax m x y) F H) d K F H:=rfl
@[go_sem] theorem a3E (n:Nat) (cs:List aM) (d:Option Nat) (K:PF→PH→Prop):wpOp C (.mkfn n cs) d K F H=bO (aO (.mkfn n cs) F H) d K F H:=rfl
@[go_sem] theorem aZZ (sh:MSh) (z:PV) (x k:aM) (ok:Bool) (d:Option Nat) (K:PF→PH→Prop):wpOp C (.lookup sh z x k ok) d K F H=bO (aO (.lookup sh z x k ok) F H) d K F H:=rfl
@[go_sem] theorem aXO (x:aM) (d:Option Nat) (K:PF→PH→Prop):wpOp C (.bytes2str x) d K F H=bO (aO (.bytes2str x) F H) d K F H:=rfl
@[go_sem] theorem a2X (x:aM) (d:Option Nat) (K:PF→PH→Prop):wpOp C (.box true x) d K F H=bO (aO (.box true x) F H) d K F H:=rfl
@[go_sem] theorem aZH (s l:Nat) (z:List PV) (ps:List (Nat × aM)) (d:Option Nat) (K:PF→PH→Prop):wpOp C (.bslice true s l z ps) d K F H=bO (aO (.bslice true s l z ps) F H) d K F H:=rfl
@[go_sem] theorem a1R (cs:List PV) (d:Option Nat) (K:PF→PH→Prop):wpOp C (.alloc cs) d K F H=lH (cT (.alloc cs) F) d K F H:=rfl
@[go_sem] theorem aZJ (s b:Nat) (z:List PV) (l c:aM) (d:Option Nat) (K:PF→PH→Prop):wpOp C (.mkslice s b z l c) d K F H=lH (cT (.mkslice s b z l c) F) d K F H:=rfl
@[go_sem] theorem a1V (sh:MSh) (d:Option Nat) (K:PF→PH→Prop):wpOp C (.mkmap sh) d K F H=lH (cT (.mkmap sh) F) d K F H:=rfl
@[go_sem] theorem a8X (x:aM) (d:Option Nat) (K:PF→PH→Prop):wpOp C (.box false x) d K F H=lH (cT (.box false x) F) d K F H:=rfl
@[go_sem] theorem aZT (s l:Nat) (z:List PV) (ps:List (Nat × aM)) (d:Option Nat) (K:PF→PH→Prop):wpOp C (.bslice false s l z ps) d K F H=lH (cT (.bslice false s l z ps) F) d K F H:=rfl
@[go_sem] theorem a1X (n:Nat) (p x:aM) (d:Option Nat) (K:PF→PH→Prop):wpOp C (.store n p x) d K F H=cA (.store n p x) F H (fun r H'=>K (F.put d r) H'):=rfl
@[go_sem] theorem aZS (s b:Nat) (x y:aM) (d:Option Nat) (K:PF→PH→Prop):wpOp C (.append s b x y) d K F H=cA (.append s b x y) F H (fun r H'=>K (F.put d r) H'):=rfl
@[go_sem] theorem a0A (sh:MSh) (x k v:aM) (d:Option Nat) (K:PF→PH→Prop):wpOp C (.mapset sh x k v) d K F H=cA (.mapset sh x k v) F H (fun r H'=>K (F.put d r) H'):=rfl
@[go_sem] theorem aZX (sh:MSh) (x k v:aM) (d:Option Nat) (K:PF→PH→Prop):wpOp C (.insert sh x k v) d K F H=cA (.insert sh x k v) F H (fun r H'=>K (F.put d r) H'):=rfl
@[go_sem] theorem a2Y (n:Nat) (az:List aM) (d:Option Nat) (K:PF→PH→Prop):wpOp C (.call n az) d K F H=gT C n az [] d K F H:=rfl
@[go_sem] theorem a1T (x:aM) (az:List aM) (d:Option Nat) (K:PF→PH→Prop):wpOp C (.callv x az) d K F H=(∃ n cs,x.ev F=some (.fn n cs)∧gT C n az cs d K F H):=rfl
theorem PF.nil_le:PF.nil.le F:=fun _ _ h=>(by cases h)
theorem PF.aA {i:Nat} {v:PV} {G:PF} (h1:F.le G) (h2:G i=some v):(F.set i v).le G:=by
 intro j u hj
 rw[kP] at hj
 split at hj
 ·rename_i e; subst e; cases hj; exact h2
 ·exact h1 _ _ hj
theorem PF.le_refl:F.le F:=fun _ _ h=>h
theorem PH.nil_le:PH.nil.le H:=fun _ _ h=>(by cases h)
theorem PH.aA {i:Nat} {x:bX} {G:PH} (h1:H.le G) (h2:G i=some x):(H.set i x).le G:=by
 intro j u hj
 rw[aU] at hj
 split at hj
 ·rename_i e; subst e; cases hj; exact h2
 ·exact h1 _ _ hj
theorem PH.le_refl:H.le H:=fun _ _ h=>h
theorem wp_loop {c:aC} {α:Type} (Fs:α→PF) (Hs:α→PH) (Pr:α→Prop) (m:α→Nat) (a0:α) (h0:Pr a0) (hF:(Fs a0).le F) (hH:(Hs a0).le H)
  (hb:∀ a,Pr a→c.wp C (fV Fs Hs Pr m (m a) K) (Fs a) (Hs a)):aC.wp C (.loop c) K F H :=
 ⟨α,Fs,Hs,Pr,m,a0,F,H,.refl F H,h0,hF,hH,hb⟩
theorem aH {α:Type} {Fs:α→PF} {Hs:α→PH} {Pr:α→Prop} {m:α→Nat} {n:Nat} (a:α) (h0:Pr a) (hm:m a<n) (hF:(Fs a).le F) (hH:(Hs a).le H):fV Fs Hs Pr m n K .normal F H :=
 ⟨a,F,H,.refl F H,h0,hm,hF,hH⟩
@[go_sem] theorem a1J {α:Type} {Fs:α→PF} {Hs:α→PH} {Pr:α→Prop} {m:α→Nat} {n:Nat} (id:Nat):fV Fs Hs Pr m n K (.exit id)=K (.exit id):=rfl
@[go_sem] theorem a2T {α:Type} {Fs:α→PF} {Hs:α→PH} {Pr:α→Prop} {m:α→Nat} {n:Nat}:fV Fs Hs Pr m n K .ret=K .ret:=rfl
def aK (v:PV) (r:PV) (H:PH):Prop:=r=v∧H=PH.nil
theorem PH.tX:H.over .nil .nil=H:=PH.ext fun o=>rfl
theorem awU {name:Nat} {vs cs:List PV} {v:PV} {args:List aM} {d:Option Nat} {K:PF→PH→Prop} (h:aJ C name (vs++cs) .nil (aK v)) (ha:aM.evs F args=some vs)
  (hk:K (F.put d v) H):gT C name args cs d K F H:=by
 refine .inl ⟨vs++cs,.nil,_,by rw[ha]; rfl,PH.nil_le,h,?_⟩
 rintro r H' ⟨rfl,rfl⟩ _
 rw[PH.tX]
 exact hk
theorem aB {name:Nat} {vs:List PV} {v:PV} {args:List aM} {d:Option Nat} {K:PF→PH→Prop} (h:aJ C name vs .nil (aK v)) (ha:aM.evs F args=some vs)
  (hk:K (F.put d v) H):gT C name args [] d K F H:=awU (cs:=[]) (by rw[bbY]; exact h) ha hk
theorem bZ {res:List eA} {vs:List PV} {v:PV} {e:kG} (he:e=.normal∨e=.ret) (h:eA.evs F H res=some vs) (hv:cU vs=v):aZ res (aK v) e F H:=by
 have key:∃ vs,eA.evs F H res=some vs∧∃ F1 H1 H2,gV (PF.nil.set 0 (cU vs)) H F1 H1∧H2.le H1∧∃ u,F1 0=some u∧aK v u H2 :=
  ⟨vs,h,_,H,.nil,.refl _ _,PH.nil_le,v,by rw[kP,if_pos rfl,hv],rfl,rfl⟩
 rcases he with rfl | rfl<;>exact key
@[go_sem] theorem mQ:eA.evs F H []=some []:=rfl
@[go_sem] theorem jR (x:eA) (xs:List eA):eA.evs F H (x::xs)=(match x.ev F H,eA.evs F H xs with | some v,some vs=>some (v::vs) | _,_=>none):=rfl
@[go_sem] theorem kW (t:Nat):eA.ev F H (.tmp t)=F t:=rfl
@[go_sem] theorem a8O (t:Nat):eA.ev F H (.cell t none)=(match F t with | some p=>(match loadCells H p 1 with | some [v]=>some v | _=>none) | none=>none):=rfl
@[go_sem] theorem a2U (t k:Nat):eA.ev F H (.cell t (some k))=(match F t with | some p=>(loadCells H p k).map .agg | none=>none):=rfl
end
end Go.PM
namespace Go.PM
open Go
section
variable {C:Ctx} {K:cD} {F:PF} {H Hs:PH} {S:Spec}
theorem cC {ops:List (bC × Bool)} (Hs:PH) (S:Spec) (hle:Hs.le H) (h:wpD C Hs S ops (K .normal) F H):aC.wp C (.draw ops) K F H:=⟨Hs,S,hle,h⟩
def eE:Spec:=fun _ _=>none
def dOp (C:Ctx) (Hs:PH) (S:Spec) (st:Bool) (op:POp) (d:Option Nat) (K:PF→PH→Prop) (F:PF) (H:PH):Prop:=(op.kind F).run C Hs S st (fun v H'=>K (F.put d v) H') H
@[go_sem] theorem a8U (K:PF→PH→Prop):wpD C Hs S [] K F H=K F H:=rfl
@[go_sem] theorem a8V (d:Option Nat) (op:POp) (st:Bool) (rest:List (bC × Bool)) (K:PF→PH→Prop):wpD C Hs S ((⟨d,op,none⟩,st)::rest) K F H=dOp C Hs S st op d (wpD C Hs S rest K) F H:=rfl
def tO (C:Ctx) (Hs:PH) (S:Spec) (v:Option PV) (want st:Bool) (op:POp) (d:Option Nat) (rest:List (bC × Bool)) (K:PF→PH→Prop) (F:PF) (H:PH):Prop :=
 match v with
 | some (.bool b)=>if b=want then dOp C Hs S st op d (wpD C Hs S rest K) F H else wpD C Hs S rest K (F.put d (.tup [])) H
 | some (.tup [])=>wpD C Hs S rest K (F.put d (.tup [])) H
 | _=>False
@[go_sem] theorem a2W (d:Option Nat) (op:POp) (t:Nat) (want st:Bool) (rest:List (bC × Bool)) (K:PF→PH→Prop) :
  wpD C Hs S ((⟨d,op,some (t,want)⟩,st)::rest) K F H=tO C Hs S (F t) want st op d rest K F H:=by
 have e1:wpD C Hs S ((⟨d,op,some (t,want)⟩,st)::rest) K F H=((⟨d,op,some (t,want)⟩:bC).kind F).run C Hs S st (fun v H'=>wpD C Hs S rest K (F.put d v) H') H:=rfl
 rw[e1]
 unfold bC.kind tO
 simp only
 cases F t with
 | none=>rfl
 | some v =>
  cases v
  case bool b =>
   simp only
   by_cases hb:b=want
   ·rw[if_pos hb,if_pos hb]; rfl
   ·rw[if_neg hb,if_neg hb]; simp[Kind.run]
  case tup vs=>cases vs<;>simp[Kind.run]
  all_goals rfl
@[go_sem] theorem a2N (op:POp) (st:Bool) (d:Option Nat) (rest:List (bC × Bool)) (K:PF→PH→Prop):tO C Hs S (some (.bool true)) true st op d rest K F H=dOp C Hs S st op d (wpD C Hs S rest K) F H:=rfl
@[go_sem] theorem a2K (op:POp) (st:Bool) (d:Option Nat) (rest:List (bC × Bool)) (K:PF→PH→Prop):tO C Hs S (some (.bool false)) false st op d rest K F H=dOp C Hs S st op d (wpD C Hs S rest K) F H:=rfl
@[go_sem] theorem a2M (op:POp) (st:Bool) (d:Option Nat) (rest:List (bC × Bool)) (K:PF→PH→Prop):tO C Hs S (some (.bool true)) false st op d rest K F H=wpD C Hs S rest K (F.put d (.tup [])) H:=rfl
@[go_sem] theorem a2L (op:POp) (st:Bool) (d:Option Nat) (rest:List (bC × Bool)) (K:PF→PH→Prop):tO C Hs S (some (.bool false)) true st op d rest K F H=wpD C Hs S rest K (F.put d (.tup [])) H:=rfl
@[go_sem] theorem aZO (want:Bool) (op:POp) (st:Bool) (d:Option Nat) (rest:List (bC × Bool)) (K:PF→PH→Prop):tO C Hs S (some (.tup [])) want st op d rest K F H=wpD C Hs S rest K (F.put d (.tup [])) H:=rfl
@[go_sem] theorem a9P (x:aM) (st:Bool) (d:Option Nat) (K:PF→PH→Prop):dOp C Hs S st (.mv x) d K F H=bO (aO (.mv x) F (if st then Hs else H)) d K F H:=rfl
@[go_sem] theorem a5Z (x:aM) (st:Bool) (d:Option Nat) (K:PF→PH→Prop):dOp C Hs S st (.same x) d K F H=bO (aO (.same x) F (if st then Hs else H)) d K F H:=rfl
@[go_sem] theorem a5Y (c a b:aM) (st:Bool) (d:Option Nat) (K:PF→PH→Prop):dOp C Hs S st (.pick c a b) d K F H=bO (aO (.pick c a b) F (if st then Hs else H)) d K F H:=rfl
@[go_sem] theorem a9E (o:BinOp) (x y:aM) (st:Bool) (d:Option Nat) (K:PF→PH→Prop):dOp C Hs S st (.bin o x y) d K F H=bO (aO (.bin o x y) F (if st then Hs else H)) d K F H:=rfl
@[go_sem] theorem a9G (n:Bool) (x y:aM) (st:Bool) (d:Option Nat) (K:PF→PH→Prop):dOp C Hs S st (.eqb n x y) d K F H=bO (aO (.eqb n x y) F (if st then Hs else H)) d K F H:=rfl
@[go_sem] theorem a9H (n:Bool) (ks:List Sc) (x y:aM) (st:Bool) (d:Option Nat) (K:PF→PH→Prop):dOp C Hs S st (.eqs n ks x y) d K F H=bO (aO (.eqs n ks x y) F (if st then Hs else H)) d K F H:=rfl
@[go_sem] theorem a9Q (o:UnOp) (x:aM) (st:Bool) (d:Option Nat) (K:PF→PH→Prop):dOp C Hs S st (.un o x) d K F H=bO (aO (.un o x) F (if st then Hs else H)) d K F H:=rfl
@[go_sem] theorem a5S (k:IntKind) (x:aM) (st:Bool) (d:Option Nat) (K:PF→PH→Prop):dOp C Hs S st (.conv k x) d K F H=bO (aO (.conv k x) F (if st then Hs else H)) d K F H:=rfl
@[go_sem] theorem a2C (z:List PV) (ps:List (Nat × Nat × aM)) (st:Bool) (d:Option Nat) (K:PF→PH→Prop):dOp C Hs S st (.build z ps) d K F H=bO (aO (.build z ps) F (if st then Hs else H)) d K F H:=rfl
@[go_sem] theorem a5W (n:Option Nat) (p:aM) (st:Bool) (d:Option Nat) (K:PF→PH→Prop):dOp C Hs S st (.load n p) d K F H=bO (aO (.load n p) F (if st then Hs else H)) d K F H:=rfl
@[go_sem] theorem a1G (x:aM) (st:Bool) (d:Option Nat) (K:PF→PH→Prop):dOp C Hs S st (.nilchk x) d K F H=bO (aO (.nilchk x) F (if st then Hs else H)) d K F H:=rfl
@[go_sem] theorem a1A (off:Nat) (x:aM) (st:Bool) (d:Option Nat) (K:PF→PH→Prop):dOp C Hs S st (.fieldA off x) d K F H=bO (aO (.fieldA off x) F (if st then Hs else H)) d K F H:=rfl
@[go_sem] theorem a2D (off:Nat) (n:Option Nat) (x:aM) (st:Bool) (d:Option Nat) (K:PF→PH→Prop):dOp C Hs S st (.field off n x) d K F H=bO (aO (.field off n x) F (if st then Hs else H)) d K F H:=rfl
@[go_sem] theorem a5U (s:Nat) (x i:aM) (st:Bool) (d:Option Nat) (K:PF→PH→Prop):dOp C Hs S st (.idxS s x i) d K F H=bO (aO (.idxS s x i) F (if st then Hs else H)) d K F H:=rfl
@[go_sem] theorem a5T (n s:Nat) (x i:aM) (st:Bool) (d:Option Nat) (K:PF→PH→Prop):dOp C Hs S st (.idxA n s x i) d K F H=bO (aO (.idxA n s x i) F (if st then Hs else H)) d K F H:=rfl
@[go_sem] theorem a5V (n s:Nat) (g:Bool) (x i:aM) (st:Bool) (d:Option Nat) (K:PF→PH→Prop):dOp C Hs S st (.idxV n s g x i) d K F H=bO (aO (.idxV n s g x i) F (if st then Hs else H)) d K F H:=rfl
@[go_sem] theorem a1B (x i:aM) (st:Bool) (d:Option Nat) (K:PF→PH→Prop):dOp C Hs S st (.idxStr x i) d K F H=bO (aO (.idxStr x i) F (if st then Hs else H)) d K F H:=rfl
@[go_sem] theorem a2F (s:Nat) (x:aM) (lo hi mx:Option aM) (st:Bool) (d:Option Nat) (K:PF→PH→Prop):dOp C Hs S st (.slice s x lo hi mx) d K F H=bO (aO (.slice s x lo hi mx) F (if st then Hs else H)) d K F H:=rfl
@[go_sem] theorem aYB (x:aM) (lo hi:Option aM) (st:Bool) (d:Option Nat) (K:PF→PH→Prop):dOp C Hs S st (.sliceStr x lo hi) d K F H=bO (aO (.sliceStr x lo hi) F (if st then Hs else H)) d K F H:=rfl
@[go_sem] theorem a9I (x:aM) (st:Bool) (d:Option Nat) (K:PF→PH→Prop):dOp C Hs S st (.len x) d K F H=bO (aO (.len x) F (if st then Hs else H)) d K F H:=rfl
@[go_sem] theorem a1C (x:aM) (st:Bool) (d:Option Nat) (K:PF→PH→Prop):dOp C Hs S st (.lenStr x) d K F H=bO (aO (.lenStr x) F (if st then Hs else H)) d K F H:=rfl
@[go_sem] theorem a0Z (x:aM) (st:Bool) (d:Option Nat) (K:PF→PH→Prop):dOp C Hs S st (.capNil x) d K F H=bO (aO (.capNil x) F (if st then Hs else H)) d K F H:=rfl
@[go_sem] theorem aZM (x:aM) (i:Nat) (st:Bool) (d:Option Nat) (K:PF→PH→Prop):dOp C Hs S st (.extract x i) d K F H=bO (aO (.extract x i) F (if st then Hs else H)) d K F H:=rfl
@[go_sem] theorem a1F (m:Bool) (x y:aM) (st:Bool) (d:Option Nat) (K:PF→PH→Prop):dOp C Hs S st (.minmax m x y) d K F H=bO (aO (.minmax m x y) F (if st then Hs else H)) d K F H:=rfl
@[go_sem] theorem a5X (n:Nat) (cs:List aM) (st:Bool) (d:Option Nat) (K:PF→PH→Prop):dOp C Hs S st (.mkfn n cs) d K F H=bO (aO (.mkfn n cs) F (if st then Hs else H)) d K F H:=rfl
@[go_sem] theorem a1D (sh:MSh) (z:PV) (x k:aM) (ok:Bool) (st:Bool) (d:Option Nat) (K:PF→PH→Prop):dOp C Hs S st (.lookup sh z x k ok) d K F H=bO (aO (.lookup sh z x k ok) F (if st then Hs else H)) d K F H:=rfl
@[go_sem] theorem aXR (x:aM) (st:Bool) (d:Option Nat) (K:PF→PH→Prop):dOp C Hs S st (.bytes2str x) d K F H=bO (aO (.bytes2str x) F (if st then Hs else H)) d K F H:=rfl
@[go_sem] theorem a5R (x:aM) (st:Bool) (d:Option Nat) (K:PF→PH→Prop):dOp C Hs S st (.box true x) d K F H=bO (aO (.box true x) F (if st then Hs else H)) d K F H:=rfl
@[go_sem] theorem aZL (s l:Nat) (z:List PV) (ps:List (Nat × aM)) (st:Bool) (d:Option Nat) (K:PF→PH→Prop):dOp C Hs S st (.bslice true s l z ps) d K F H=bO (aO (.bslice true s l z ps) F (if st then Hs else H)) d K F H:=rfl
@[go_sem] theorem a2B (cs:List PV) (st:Bool) (d:Option Nat) (K:PF→PH→Prop):dOp C Hs S st (.alloc cs) d K F H=lH (cT (.alloc cs) F) d K F H:=rfl
@[go_sem] theorem aZN (s b:Nat) (z:List PV) (l c:aM) (st:Bool) (d:Option Nat) (K:PF→PH→Prop):dOp C Hs S st (.mkslice s b z l c) d K F H=lH (cT (.mkslice s b z l c) F) d K F H:=rfl
@[go_sem] theorem a2E (sh:MSh) (st:Bool) (d:Option Nat) (K:PF→PH→Prop):dOp C Hs S st (.mkmap sh) d K F H=lH (cT (.mkmap sh) F) d K F H:=rfl
@[go_sem] theorem a9F (x:aM) (st:Bool) (d:Option Nat) (K:PF→PH→Prop):dOp C Hs S st (.box false x) d K F H=lH (cT (.box false x) F) d K F H:=rfl
@[go_sem] theorem a0Y (s l:Nat) (z:List PV) (ps:List (Nat × aM)) (st:Bool) (d:Option Nat) (K:PF→PH→Prop):dOp C Hs S st (.bslice false s l z ps) d K F H=lH (cT (.bslice false s l z ps) F) d K F H:=rfl
@[go_sem] theorem a2G (n:Nat) (p x:aM) (st:Bool) (d:Option Nat) (K:PF→PH→Prop):dOp C Hs S st (.store n p x) d K F H=cA (.store n p x) F H (fun r H'=>Hs.le H'∧K (F.put d r) H'):=rfl
@[go_sem] theorem a0X (s b:Nat) (x y:aM) (st:Bool) (d:Option Nat) (K:PF→PH→Prop):dOp C Hs S st (.append s b x y) d K F H=cA (.append s b x y) F H (fun r H'=>Hs.le H'∧K (F.put d r) H'):=rfl
@[go_sem] theorem a1E (sh:MSh) (x k v:aM) (st:Bool) (d:Option Nat) (K:PF→PH→Prop):dOp C Hs S st (.mapset sh x k v) d K F H=cA (.mapset sh x k v) F H (fun r H'=>Hs.le H'∧K (F.put d r) H'):=rfl
theorem BR:H.only []=PH.nil:=PH.ext fun o=>by simp[PH.only,PH.nil]
theorem cN {name:Nat} {vs:List PV} {v:PV} {args:List aM} {st:Bool} {d:Option Nat} {K:PF→PH→Prop} (hS:S name vs=some ([],fun _=>aK v)) (h:aJ C name vs .nil (aK v)) (ha:aM.evs F args=some vs)
  (hle:Hs.le H) (hk:K (F.put d v) H):dOp C Hs S st (.call name args) d K F H:=by
 refine⟨vs,[],fun _=>aK v,ha,hS,fun o ho=>by simp at ho,by rw[BR]; exact h,fun G=>⟨v,.nil,⟨rfl,rfl⟩,fun o x hx=>by simp[PH.nil] at hx⟩,?_⟩
 rintro r H' ⟨rfl,rfl⟩ -
 rw[BR,PH.tX]
 exact⟨hle,hk⟩
end
end Go.PM
namespace Go.PM
open Go
theorem wrap_i64 {n:Int} (h1:-9223372036854775808≤n) (h2:n≤9223372036854775807):IntKind.i64.wrap n=n:=by
 have e:IntKind.i64.wrap n=if decide (n%18446744073709551616≥9223372036854775808)=true then n%18446744073709551616-18446744073709551616 else n%18446744073709551616:=by
  simp[IntKind.wrap,IntKind.bits,IntKind.signed]
 rw[e]
 split
 ·rename_i h; simp only[decide_eq_true_eq] at h; omega
 ·rename_i h; simp only[decide_eq_true_eq] at h; omega
theorem QT {k:Nat} (h:k≤9223372036854775807):IntKind.i64.wrap (k:Int)=k:=wrap_i64 (by omega) (by omega)
theorem aL {k:Nat} (h:k<9223372036854775807):IntKind.i64.wrap ((k:Int)+1)=((k+1:Nat):Int):=by
 rw[wrap_i64 (by omega) (by omega)]; omega
theorem wrap_u64 {n:Int} (h1:0≤n) (h2:n<18446744073709551616):IntKind.u64.wrap n=n:=by
 have e:IntKind.u64.wrap n=n%18446744073709551616:=by
  simp[IntKind.wrap,IntKind.bits,IntKind.signed]
 rw[e]; omega
abbrev ints (xs:List Int):PV:=.sl 1 (xs.map fun n=>[.int .i64 n])
end Go.PM
namespace Go.PM
open Go Go.RowKit
inductive CT where
 | int (k:IntKind)
 | bool
 | str
 | sl (es:List CT)
 deriving Inhabited
def nA (P:Program) (rec:TypeId→Option (List CT)):Nat→List Field→Option (List CT)
 | _,[]=>some []
 | k,f::fs=>match rec f.type with
  | some cts=>if f.offset=k∧P.cellsOf f.type=cts.length then (nA P rec (k+cts.length) fs).map (cts++·) else none
  | none=>none
def fM (P:Program):Nat→TypeId→Option (List CT)
 | 0,_=>none
 | n+1,t=>match P.underlying t with
  | some .bool=>some [.bool]
  | some (.int k)=>some [.int k]
  | some .string=>some [.str]
  | some (.slice e)=>match fM P n e with
   | some cts=>if P.cellsOf e=cts.length∧0<cts.length then some [.sl cts] else none
   | none=>none
  | some (.struct fs)=>match nA P (fM P n) 0 fs.toList with
   | some cts=>if P.cellsOf t=cts.length then some cts else none
   | none=>none
  | _=>none
inductive PV.Ty:CT→PV→Prop
 | int {k:IntKind} {n:Int} (h:(Lit.int k n).wf=true):PV.Ty (.int k) (.int k n)
 | bool (b:Bool):PV.Ty .bool (.bool b)
 | str {s:List UInt8} (h:s.length≤maxLen):PV.Ty .str (.str s)
 | sl {es:List CT} {rows:List (List PV)} (hr:∀ r∈rows,r.length=es.length) (hl:rows.length≤maxLen) (h:∀ (i j:Nat) pv ct,at2 rows i j=some pv→es[j]?=some ct→PV.Ty ct pv):PV.Ty (.sl es) (.sl es.length rows)
def Env.of (W:World) (num:Nat→FuncId):Env:=⟨fun b=>match W.heap[b]? with | some (.cells cs _ _)=>some cs | _=>none,fun _=>none,num⟩
theorem bL.start (W:World) (num:Nat→FuncId):bL (Env.of W num) PH.nil W:=by
 refine⟨fun b cs hb=>⟨fun x hx=>(by cases hx),?_⟩,fun o x hx=>(by cases hx),fun o n h=>(by cases h)⟩
 simp only[Env.of] at hb
 split at hb
 ·rename_i c ty fr h
  cases hb
  exact⟨ty,fr,h⟩
 ·cases hb
structure Reads (E:Env) (cts:List CT) (pvs:List PV) (cs:List Value):Prop where
 lp:pvs.length=cts.length
 lc:cs.length=cts.length
 rep:∀ (j:Nat) pv c,pvs[j]?=some pv→cs[j]?=some c→aR E pv c∧c.oneCell'=true
 ty:∀ (j:Nat) pv ct,pvs[j]?=some pv→cts[j]?=some ct→PV.Ty ct pv
theorem Reads.one {E:Env} {ct:CT} {pv:PV} {c:Value} (h:aR E pv c) (h1:c.oneCell'=true) (ht:PV.Ty ct pv):Reads E [ct] [pv] [c]:=by
 refine⟨rfl,rfl,fun j p u a b=>?_,fun j p u a b=>?_⟩
 ·cases j with
  | zero=>simp at a b; subst a; subst b; exact⟨h,h1⟩
  | succ j=>simp at a
 ·cases j with
  | zero=>simp at a b; subst a; subst b; exact ht
  | succ j=>simp at a
theorem Reads.append {E:Env} {ct1 ct2:List CT} {p1 p2:List PV} {c1 c2:List Value} (h:Reads E ct1 p1 c1) (k:Reads E ct2 p2 c2):Reads E (ct1++ct2) (p1++p2) (c1++c2):=by
 refine⟨by simp[h.lp,k.lp],by simp[h.lc,k.lc],fun j p u a b=>?_,fun j p u a b=>?_⟩
 ·rcases baU j p1.length with hj | hj
  ·rw[bdA hj] at a
   rw[bdA (by rw[h.lc,← h.lp]; exact hj)] at b
   exact h.rep j p u a b
  ·rw[bdE hj] at a
   rw[bdE (by rw[h.lc,← h.lp]; exact hj)] at b
   rw[show j-c1.length=j-p1.length by rw[h.lc,h.lp]] at b
   exact k.rep _ p u a b
 ·rcases baU j p1.length with hj | hj
  ·rw[bdA hj] at a
   rw[bdA (by rw[← h.lp]; exact hj)] at b
   exact h.ty j p u a b
  ·rw[bdE hj] at a
   rw[bdE (by rw[← h.lp]; exact hj)] at b
   rw[show j-ct1.length=j-p1.length by rw[h.lp]] at b
   exact k.ty _ p u a b
theorem RD {W:World} {num:Nat→FuncId} {a:Addr} {v:Value} (h:W.cell? a=some v):a.spot=none∧(Env.of W num).cell a.block a.off=some v:=by
 unfold World.cell? at h
 split at h
 ·rename_i c ty fr hb
  split at h
  ·cases h
  ·rename_i hs
   refine⟨by simpa using hs,?_⟩
   simp only[Env.cell,Env.of,hb]
   exact h
 ·cases h
theorem EL {P:Program} {E:Env} {rec:TypeId→Option (List CT)} {H:Type} {f:TypeId→List Value→Option (DataW H × List MemPlace)}
  (ih:∀ t cs x cts,f t cs=some x→rec t=some cts→∃ pvs,Reads E cts pvs cs) (cs:List Value) :
  ∀ (fs:List Field) (k:Nat) (cts:List CT),(∀ g∈fs,∃ x,f g.type ((cs.drop g.offset).take (P.cellsOf g.type))=some x)→nA P rec k fs=some cts →
   ∃ pvs,Reads E cts pvs ((cs.drop k).take cts.length)
 | [],k,cts,_,h=>by
  simp[nA] at h; subst h
  exact⟨[],rfl,by simp,fun j p c a=>by simp at a,fun j p c a=>by simp at a⟩
 | g::fs,k,cts,hm,h=>by
  simp only[nA] at h
  split at h
  ·rename_i c1 h1
   split at h
   ·rename_i hc
    simp only[baK] at h
    obtain⟨c2,h2,rfl⟩:=h
    obtain⟨x,hx⟩:=hm g (by simp)
    obtain⟨p1,r1⟩:=ih _ _ _ _ hx h1
    rw[hc.1,hc.2] at r1
    obtain⟨p2,r2⟩:=EL ih cs fs (k+c1.length) c2 (fun g' hg'=>hm g' (by simp[hg'])) h2
    refine⟨p1++p2,?_⟩
    have:=r1.append r2
    rw[baI,List.take_add,List.drop_drop]
    exact this
   ·cases h
  ·cases h
theorem VM {H:Type} {enc:TypeId × Value→H} {P:Program} {W:World} {base:Nat} {sp:Nat→Bool} {held:Bool} (num:Nat→FuncId) :
  ∀ (fuel m:Nat) (t:TypeId) (cs:List Value) (x:DataW H × List MemPlace) (cts:List CT),DataW.trod enc P W base sp held fuel t cs=some x→fM P m t=some cts→∃ pvs,Reads (Env.of W num) cts pvs cs:=by
 intro fuel
 induction fuel with
 | zero=>intro m t cs x cts h; simp[DataW.trod] at h
 | succ fuel ih =>
  intro m t cs x cts h hc
  cases m with
  | zero=>simp[fM] at hc
  | succ m =>
   simp only[fM] at hc
   split at hc
   ·rename_i hu
    cases hc
    obtain⟨b,rfl,-⟩:=DataW.trod_bool hu h
    exact⟨[.bool b],.one (.bool b) rfl (.bool b)⟩
   ·rename_i k hu
    cases hc
    obtain⟨n,rfl,-,hw⟩:=DataW.trod_int hu h
    exact⟨[.int k n],.one (.int k n) rfl (.int hw)⟩
   ·rename_i hu
    cases hc
    obtain⟨s,rfl,-,hs⟩:=DataW.trod_string hu h
    exact⟨[.str s.data.toList],.one (.str s) rfl (.str (by rw[bcW]; exact hs))⟩
   ·rename_i e hu
    split at hc
    ·rename_i ces he
     split at hc
     ·rename_i hcond
      cases hc
      rcases DataW.trod_slice hu h with ⟨rfl,-⟩ | ⟨a,len,cap,elems,rest,n,hn,rfl,-,-,hlen,hcap,hel,helem,-⟩
      ·refine⟨[.sl ces.length []],.one ?_ rfl (.sl (by simp) (by simp) (by simp[at2]))⟩
       exact .sl (fun _ _=>.bool false) (by simp) (by decide) (by simp) (by simp) (fun _ _=>rfl) (by simp[at2])
      ·cases hn
       have each:∀ i,i<len→∃ pvs us,Reads (Env.of W num) ces pvs us∧W.cells? base (a.add (i*ces.length)) ces.length=some us:=by
        intro i hi
        have h1:=helem i hi
        rw[baQ (by omega),bdJ] at h1
        obtain⟨us,h2,h3⟩:=h1
        obtain⟨pvs,r⟩:=ih m e us _ ces h3 he
        rw[hcond.1] at h2
        exact⟨pvs,us,r,h2⟩
       have each':∀ i,∃ pvs,∃ us,i<len→Reads (Env.of W num) ces pvs us∧W.cells? base (a.add (i*ces.length)) ces.length=some us:=by
        intro i
        by_cases hi:i<len
        ·obtain⟨pvs,us,h1⟩:=each i hi
         exact⟨pvs,us,fun _=>h1⟩
        ·exact⟨[],[],fun h=>(hi h).elim⟩
       obtain⟨pf,hpf⟩:=Classical.axiomOfChoice each'
       obtain⟨uf,huf⟩:=Classical.axiomOfChoice hpf
       have hat:∀ i j pv,at2 ((baW len).map pf) i j=some pv→i<len∧(pf i)[j]?=some pv:=by
        intro i j pv hp
        unfold at2 at hp
        rw[bbU,bdJ] at hp
        obtain⟨r,hr,hp⟩:=hp
        rw[baK] at hr
        obtain⟨i',hi',rfl⟩:=hr
        have hi:i<len:=by simpa using (bbR.1 hi').1
        have:i'=i:=by simp[hi] at hi'; exact hi'.symm
        subst this
        exact⟨hi,hp⟩
       have hu:∀ i j pv,at2 ((baW len).map pf) i j=some pv→∃ v,(uf i)[j]?=some v∧j<ces.length∧aR (Env.of W num) pv v∧v.oneCell'=true:=by
        intro i j pv hp
        obtain⟨hi,hp'⟩:=hat i j pv hp
        obtain⟨r,-⟩:=huf i hi
        have hj:j<ces.length:=by rw[← r.lp]; exact (bbR.1 hp').1
        have hv:(uf i)[j]?=some ((uf i)[j]'(by rw[r.lc]; exact hj)):=baQ _
        exact⟨_,hv,hj,(r.rep j pv _ hp' hv).1,(r.rep j pv _ hp' hv).2⟩
       have hul:((baW len).map pf).length=len:=by simp
       refine⟨[.sl ces.length ((baW len).map pf)],.one ?_ rfl (.sl (fun r hr=>?_) (by rw[hul]; omega) fun i j pv ct hp hct=>?_)⟩
       ·have key:=aR.sl (E:=Env.of W num) (size:=ces.length) (rows:=(baW len).map pf) (a:=some a) (cap:=cap)
         (fun i j=>match at2 ((baW len).map pf) i j with | some _=>((uf i)[j]?).getD (.bool false) | none=>.bool false) (by rw[hul]; exact hlen) hcap
         (fun r hr=>by
          simp only[bbL,bcF] at hr
          obtain⟨i,hi,rfl⟩:=hr
          exact (huf i hi).1.lp)
         (fun hne=>by
          have hl0:0<len:=by
           rcases bcB len with h | h
           ·subst h; exact (hne rfl).elim
           ·exact h
          have hsp:a.spot=none:=by
           obtain⟨r,hc⟩:=huf 0 hl0
           have h3:=(World.cells?_some hc).2.2 0 hcond.2
           rw[Nat.zero_mul,Addr.add_zero',Addr.add_zero',baQ (by rw[r.lc]; exact hcond.2)] at h3
           exact (RD (num:=num) h3).1
          refine⟨a,rfl,hsp,fun i j pv hp=>?_⟩
          obtain⟨hi,-⟩:=hat i j pv hp
          obtain⟨v,hv,hj,-⟩:=hu i j pv hp
          have h3:=(World.cells?_some (huf i hi).2).2.2 j hj
          rw[kJ hsp,add_plain,add_plain,hv] at h3
          have h4:=(RD (num:=num) h3).2
          simp only[hp,hv,bcX]
          exact h4)
         (fun i j=>by
          split
          ·rename_i pv hp
           obtain⟨v,hv,-,-,h1⟩:=hu i j pv hp
           simp[hv,h1]
          ·rfl)
         (fun i j pv hp=>by
          obtain⟨v,hv,-,h1,-⟩:=hu i j pv hp
          simp only[hp,hv,bcX]
          exact h1)
        rw[hul] at key
        exact key
       ·simp only[bbL,bcF] at hr
        obtain⟨i,hi,rfl⟩:=hr
        exact (huf i hi).1.lp
       ·obtain⟨hi,hp'⟩:=hat i j pv hp
        exact (huf i hi).1.ty j pv ct hp' hct
     ·cases hc
    ·cases hc
   ·rename_i fs hu
    split at hc
    ·rename_i cts' hcf
     split at hc
     ·rename_i hlen
      cases hc
      obtain⟨xs,n,hn,-,hcl,hxl,hx⟩:=DataW.trod_struct hu h
      cases hn
      have:=EL (f:=DataW.trod enc P W base sp held fuel) (fun t cs x cts a b=>ih m t cs x cts a b) cs fs.toList 0 cts (fun g hg=>by
       obtain⟨i,hi,rfl⟩:=bbX hg
       have:=hx i fs.toList[i] (by simp at hi; simp[hi])
       rw[this]
       exact⟨_,baQ (by simp at hi; omega)⟩) hcf
      rw[bbG,baS (by omega)] at this
      exact this
     ·cases hc
    ·cases hc
   ·cases hc
end Go.PM
namespace Go.PM
open Go Go.RowKit Go.ChangeShapes Go.WideShapes
theorem Ext.below {E E':Env} {H':PH} {w w':World} (h:Ext E PH.nil w E' H' w'):Below w.heap.size w w' :=
 ⟨h.os,h.tape,h.output,h.size,fun k hk=>h.block k hk rfl⟩
theorem Below.trodAll {H:Type} {enc:TypeId × Value→H} {P:Program} (hl:laidOutB P=true) {W W':World} (hb:Below W.heap.size W W') :
  ∀ {ts:List TypeId} {vs:List Value} {ds:List (DataW H)} {ps:List MemPlace},(∀ t∈ts,P.readableRec t=true∧t<P.types.size)→DataW.TrodAll enc P W 0 (fun _=>true) true ts vs ds ps →
   DataW.TrodAll enc P W' 0 (fun b=>decide (b<W.heap.size)) true ts vs ds ps
 | [],[],[],ps,_,h=>h
 | [],_::_,_,_,_,h=>h.elim
 | [],[],_::_,_,_,h=>h.elim
 | _::_,[],_,_,_,h=>h.elim
 | _::_,_::_,[],_,_,h=>h.elim
 | t::ts,v::vs,d::ds,ps,ht,h=>by
  obtain⟨p,q,h1,h2,rfl⟩:=h
  have hlt:∀ x∈p,x.block<W.heap.size:=fun x hx=>DataW.TrodAll.lt (ts:=[t]) (vs:=[v]) (ds:=[d]) ⟨p,[],h1,rfl,(bbY p).symm⟩ x hx
  exact⟨p,q,Below.trod hl (ht t (by simp)).1 (ht t (by simp)).2 h1 hb hlt,Below.trodAll hl hb (fun u hu=>ht u (by simp[hu])) h2,rfl⟩
theorem aLH {H:Type} {enc:TypeId × Value→H} {P:Program} {f:Func} {s:ChangeSpec} {handsOn apart fresh:Bool} {W W':World} {args:Array Value} {ds gs:List (DataW H)} {before:List MemPlace} {bt:TypeId}
  (hl:laidOutB P=true) (hW:DataW.Whole enc P f.params.toList s.vars apart W args.toList ds gs before) (hb:Below W.heap.size W W') (hts:∀ t∈f.params.toList,P.readableRec t=true∧t<P.types.size)
  (hrt:f.resultTypes=#[bt]) (hbt:P.underlying bt=some .bool) (hv:s.vars=[]) (hr:(s.fn H (ds++gs)).results=[.lit (.bool true)]) (ha:(s.fn H (ds++gs)).args=ds) (hvs:(s.fn H (ds++gs)).vars=[]) :
  s.post enc P f apart fresh handsOn false W args (.bool true) W':=by
 obtain⟨p,q,hA,hV,rfl,hz,hn⟩:=hW
 rw[hv] at hV
 obtain⟨rfl,rfl⟩:=trodVars_none hV
 refine⟨ds,[],p++[],[],p,[],⟨p,[],hA,by rw[hv]; exact hV,rfl,hz,hn⟩,?_,?_,?_,hb.frame _,fun h=>by cases h⟩
 ·rw[hr,hrt]
  refine⟨[],[],⟨1,?_⟩,rfl,rfl⟩
  simp[DataW.trod,hbt,Value.cells,Value.resultList]
 ·rw[ha]
  exact Below.trodAll hl hb hts hA
 ·rw[hv,hvs]
  exact rfl
theorem aJF {C:Ctx} {name:Nat} {W:World} {args:Array Value} {pvs:List PV} (h:aJ C name pvs PH.nil (aK (.bool true))) (hr:eD (Env.of W C.num) pvs args.toList) :
  Calls C.P (C.num name) args W fun e W'=>e=.returned (.bool true)∧Below W.heap.size W W' :=
 (h.2 (Env.of W C.num) W args rfl (bL.start W C.num) hr).mono fun e W' he=>by
  obtain⟨v,pv,E',H',rfl,-,hrep,hE,rfl,-⟩:=he
  cases hrep
  exact⟨rfl,hE.below⟩
theorem aEE {H:Type} {enc:TypeId × Value→H} {P:Program} {W:World} {r:Reach} {base:Nat} {sp:Nat→Bool} {held:Bool} (num:Nat→FuncId) {t:TypeId} {v:Value} {d:DataW H} {ps:List MemPlace} {fs:Array Field} {n:Nat} {cts:List CT}
  (hu:P.underlying t=some (.struct fs)) (hval:Value.okWide P W r base t v) (hd:DataW.Trod enc P W 0 sp held t v d ps) (hc:fM P n t=some cts) :
  ∃ pvs,aR (Env.of W num) (.agg pvs) v∧pvs.length=cts.length∧∀ (j:Nat) pv ct,pvs[j]?=some pv→cts[j]?=some ct→PV.Ty ct pv:=by
 obtain⟨cs,rfl,-⟩:=okWide_struct hu hval
 obtain⟨fuel,h⟩:=hd
 obtain⟨pvs,hr⟩:=VM num fuel n t _ _ cts h hc
 have hl:cs.size=pvs.length:=by have:=hr.lc; rw[hr.lp,← this]; simp[Value.cells]
 refine⟨pvs,.agg cs hl (fun u hu=>?_) (fun j pv u a b=>(hr.rep j pv u a (by simpa [Value.cells] using b)).1),hr.lp,hr.ty⟩
 obtain⟨j,hj,rfl⟩:=bbX hu
 simp only[bcW] at hj
 exact (hr.rep j _ _ (baQ (by omega)) (by simp[Value.cells,hj])).2
theorem pS {H:Type} {enc:TypeId × Value→H} {P:Program} {W:World} {sp:Nat→Bool} {held:Bool} (num:Nat→FuncId) {t:TypeId} {v:Value} {d:DataW H} {ps:List MemPlace} {n:Nat} {ct:CT}
  (hv:v.cells=#[v]) (hd:DataW.Trod enc P W 0 sp held t v d ps) (hc:fM P n t=some [ct]):∃ pv,aR (Env.of W num) pv v∧PV.Ty ct pv:=by
 obtain⟨fuel,h⟩:=hd
 obtain⟨pvs,hr⟩:=VM num fuel n t _ _ [ct] h hc
 rw[hv] at hr
 have hl:=hr.lp
 cases pvs with
 | nil=>simp at hl
 | cons pv rest=>exact⟨pv,(hr.rep 0 pv v rfl rfl).1,hr.ty 0 pv ct rfl rfl⟩
end Go.PM
namespace Go.PM
open Go
def InK (k:IntKind) (n:Int):Prop:=k.min≤n∧n≤k.max
def aFR (k:IntKind) (xs:List Int):PV:=.sl 1 (xs.map fun n=>[.int k n])
theorem Ty.azW {k:IntKind} {pv:PV} (h:PV.Ty (.int k) pv):∃ n,pv=.int k n∧InK k n:=by
 cases h with
 | int h=>simp only[Lit.wf,bbB,decide_eq_true_eq] at h; exact⟨_,rfl,h⟩
theorem Ty.aWC {ct:CT} {pv:PV} (h:PV.Ty (.sl [ct]) pv):∃ vs:List PV,pv=.sl 1 (vs.map fun v=>[v])∧vs.length≤maxLen∧∀ v∈vs,PV.Ty ct v:=by
 cases h with
 | @sl es rows hr hl h =>
 have key:∀ r∈rows,r=[r.headD .junk]:=fun r hm=>by
  have:=hr r hm
  match r,this with
  | [x],_=>rfl
 have e:rows=(rows.map fun r=>r.headD .junk).map fun v=>[v]:=by
  rw[List.map_map]
  apply bcZ (by simp)
  intro n h1 h2
  simp only[bbW,Function.comp]
  exact key _ (baN h1)
 refine⟨rows.map fun r=>r.headD .junk,by rw[← e]; rfl,by simpa using hl,fun v hv=>?_⟩
 rw[bbL] at hv
 obtain⟨r,hm,rfl⟩:=hv
 obtain⟨i,hi,rfl⟩:=bbX hm
 refine h i 0 _ ct ?_ rfl
 have:=key rows[i] hm
 unfold at2
 rw[baQ hi,bdM,this]
 rfl
theorem Ty.aPM {k:IntKind} {pv:PV} (h:PV.Ty (.sl [.int k]) pv):∃ xs:List Int,pv=aFR k xs∧xs.length≤maxLen∧∀ x∈xs,InK k x:=by
 obtain⟨vs,rfl,hl,hv⟩:=Ty.aWC h
 have e:vs=(vs.map fun v=>match v with | .int _ n=>n | _=>0).map fun n=>PV.int k n:=by
  rw[List.map_map]
  apply bcZ (by simp)
  intro n h1 h2
  simp only[bbW,Function.comp]
  obtain⟨m,hm,-⟩:=Ty.azW (hv _ (baN h1))
  rw[hm]
 refine⟨vs.map fun v=>match v with | .int _ n=>n | _=>0,?_,by simpa using hl,fun x hx=>?_⟩
 ·unfold aFR
  conv=>lhs; rw[e]
  rw[List.map_map]
  rfl
 ·rw[bbL] at hx
  obtain⟨v,hm,rfl⟩:=hx
  obtain⟨m,rfl,hk⟩:=Ty.azW (hv v hm)
  exact hk
end Go.PM
namespace Go.PM
abbrev Rg:=List bC
abbrev Rd:=List (bC×Bool)
def iM (d s:Nat):bC:=⟨some d,.mv (.tmp s),none⟩
def iI (d:Nat) (n:Int):bC:=⟨some d,.mv (.const (.int .i64 n)),none⟩
def iB (d:Nat) (o:BinOp) (x y:Nat):bC:=⟨some d,.bin o (.tmp x) (.tmp y),none⟩
def iC (d:Nat) (o:BinOp) (x:Nat) (n:Int):bC:=⟨some d,.bin o (.tmp x) (.const (.int .i64 n)),none⟩
def iL (d s:Nat):bC:=⟨some d,.load none (.tmp s),none⟩
def iX (d n x y:Nat):bC:=⟨some d,.idxS n (.tmp x) (.tmp y),none⟩
def iN (d x:Nat):bC:=⟨some d,.len (.tmp x),none⟩
def iF (d n x:Nat):bC:=⟨some d,.fieldA n (.tmp x),none⟩
def iS (n p x:Nat):bC:=⟨none,.store n (.tmp p) (.tmp x),none⟩
def iA (d:Nat) (o:POp):bC:=⟨some d,o,none⟩
def iG (d:Nat) (o:POp) (g:Nat) (b:Bool):bC:=⟨some d,o,some (g,b)⟩
def Tm (n:Nat):aM:=.tmp n
def Ci (n:Int):aM:=.const (.int .i64 n)
@[go_sem] theorem baB (d s:Nat):iM d s=⟨some d,.mv (.tmp s),none⟩:=rfl
@[go_sem] theorem a9Z (d:Nat) (n:Int):iI d n=⟨some d,.mv (.const (.int .i64 n)),none⟩:=rfl
@[go_sem] theorem a9V (d:Nat) (o:BinOp) (x y:Nat):iB d o x y=⟨some d,.bin o (.tmp x) (.tmp y),none⟩:=rfl
@[go_sem] theorem a9W (d:Nat) (o:BinOp) (x:Nat) (n:Int):iC d o x n=⟨some d,.bin o (.tmp x) (.const (.int .i64 n)),none⟩:=rfl
@[go_sem] theorem baA (d s:Nat):iL d s=⟨some d,.load none (.tmp s),none⟩:=rfl
@[go_sem] theorem baE (d n x y:Nat):iX d n x y=⟨some d,.idxS n (.tmp x) (.tmp y),none⟩:=rfl
@[go_sem] theorem baC (d x:Nat):iN d x=⟨some d,.len (.tmp x),none⟩:=rfl
@[go_sem] theorem a9X (d n x:Nat):iF d n x=⟨some d,.fieldA n (.tmp x),none⟩:=rfl
@[go_sem] theorem baD (n p x:Nat):iS n p x=⟨none,.store n (.tmp p) (.tmp x),none⟩:=rfl
@[go_sem] theorem a9U (d:Nat) (o:POp):iA d o=⟨some d,o,none⟩:=rfl
@[go_sem] theorem a9Y (d:Nat) (o:POp) (g:Nat) (b:Bool):iG d o g b=⟨some d,o,some (g,b)⟩:=rfl
@[go_sem] theorem a9T (n:Nat):Tm n=.tmp n:=rfl
@[go_sem] theorem a9S (n:Int):Ci n=.const (.int .i64 n):=rfl
end Go.PM
namespace Go.PM
open Go
def aaL:Rg:=[iA 0 (.alloc [(.int .i64 0),.nils,.nils,.nils,.nils,.nils,.nils])]
def aaM:Rg:=[iA 2 (.call 27 [(.const .nils),(Ci 1),(Ci 0)]),iA 1 (.alloc [(.int .i64 0),.nils,.nils,.nils,.nils,.nils,.nils]),iS 7 1 2]
def aaN:Rg:=[iA 3 (.build [(.str []),(.int .i64 0)] [(0,1,(.const (.str [118,48])))]),iA 4 (.bslice true 2 1 [(.str []),(.int .i64 0)] [(0,(Tm 3))]),iF 5 6 1,iS 1 5 4]
def aaO:Rg:=[iA 6 (.load (some 7) (Tm 1)),iS 7 0 6]
def wI:aC:=(.seq (.region aaL) (.seq (.region aaM) (.seq (.region aaN) (.seq (.region aaO) .ret))))
def aJP:List Nat:=[4]
def FI:bD:=⟨0,7,wI,[.cell 0 (some 7)]⟩
def aaB:Rg:=[iA 0 (.mv (.const (.bool false)))]
def aaC:Rg:=[iA 3 (.call 23 []),iA 1 (.alloc [(.int .i64 0),.nils,.nils,.nils,.nils,.nils,.nils]),iS 7 1 3]
def aaD:Rg:=[iA 4 (.load (some 7) (Tm 1)),iA 5 (.bslice true 1 1 [(.int .i64 0)] [(0,(Ci (-1)))]),iA 6 (.bslice true 1 1 [.nils] [(0,(Tm 5))]),iA 7 (.call 154 [(Tm 4),(Tm 6),(.const .nils)]),iM 2 7]
def aaE:Rg:=[iA 8 (.load (some 7) (Tm 1)),iA 9 (.call 147 [(Tm 8),(Ci 0),(Ci 4)]),iC 10 .eql 9 4,iM 11 10,iG 12 (.load (some 7) (Tm 1)) 11 true,iG 13 (.call 149 [(Tm 12),(Ci 0)]) 11 true,iG 14 (.len (Tm 13)) 11 true,iG 15 (.bin .eql (Tm 14) (Ci 1)) 11 true,iA 16 (.pick (Tm 11) (Tm 15) (.const (.bool false))),iM 17 16,iG 18 (.mv (Tm 2)) 17 true,iG 19 (.len (Tm 18)) 17 true,iG 20 (.bin .eql (Tm 19) (Ci 1)) 17 true,iA 21 (.pick (Tm 17) (Tm 20) (.const (.bool false))),iM 22 21,iG 23 (.mv (Tm 2)) 22 true,iG 24 (.idxS 3 (Tm 23) (Ci 0)) 22 true,iG 25 (.load (some 3) (Tm 24)) 22 true,iG 26 (.build [(.int .i64 0),(.int .i64 0),(.int .i64 0)] [(0,1,(Ci 2))]) 22 true,iG 27 (.eqs false [.int,.int,.int] (Tm 25) (Tm 26)) 22 true,iA 28 (.pick (Tm 22) (Tm 27) (.const (.bool false))),iM 29 28,iG 30 (.load (some 7) (Tm 1)) 29 true,iG 31 (.bslice true 1 1 [(.int .i64 0)] [(0,(Ci 0))]) 29 true,iG 32 (.bslice true 1 1 [.nils] [(0,(Tm 31))]) 29 true,iG 33 (.call 150 [(Tm 30),(Tm 32),(.const .nils)]) 29 true,iA 34 (.pick (Tm 29) (Tm 33) (.const (.bool false))),iM 35 34,iG 36 (.build [(.int .i64 0),.nils,.nils,.nils,.nils,.nils,.nils] []) 35 true,iG 37 (.call 150 [(Tm 36),(.const .nils),(.const .nils)]) 35 true,iG 38 (.un .not (Tm 37)) 35 true,iA 39 (.pick (Tm 35) (Tm 38) (.const (.bool false))),iM 0 39]
def wE:aC:=(.seq (.region aaB) (.seq (.region aaC) (.seq (.region aaD) (.seq (.region aaE) .ret))))
def aJH:List Nat:=[5,6,31,32]
def FG:bD:=⟨0,40,wE,[.tmp 0]⟩
def anM:Rg:=[iA 2 (.mv (.const (.bool false)))]
def anN:Rg:=[iM 15 0,iA 16 (.call 27 [(Tm 15),(Ci 14),(Ci 1)]),iA 3 (.alloc [(.int .i64 0),.nils,.nils,.nils,.nils,.nils,.nils]),iS 7 3 16]
def anO:Rg:=[iI 4 0]
def anP:Rg:=[iM 17 4,iF 18 4 3,iL 19 18,iN 20 19,iB 21 .lss 17 20]
def anQ:Rg:=[iI 5 0]
def anR:Rg:=[iM 24 5,iC 25 .lss 24 5]
def anS:Rg:=[iI 6 0]
def anT:Rg:=[iI 7 0]
def anU:Rg:=[iM 28 7,iF 29 3 3,iL 30 29,iN 31 30,iB 32 .lss 28 31]
def anV:Rg:=[iF 35 3 3,iL 36 35,iM 37 7,iX 38 7 36 37,iF 39 1 38,iL 40 39,iM 41 5,iB 42 .neq 40 41]
def aaP:Rg:=[iA 8 (.mv (.const (.bool false)))]
def aaQ:Rg:=[iA 43 (.load (some 7) (Tm 3)),iM 44 7,iA 45 (.call 149 [(Tm 43),(Tm 44)]),iM 9 45]
def aaR:Rg:=[iI 10 0]
def aaS:Rg:=[iM 46 10,iM 47 9,iN 48 47,iB 49 .lss 46 48]
def FP:Rg:=[iM 52 8,iM 53 52,iG 54 (.mv (Tm 9)) 53 false,iG 55 (.mv (Tm 10)) 53 false,iG 56 (.idxS 1 (Tm 54) (Tm 55)) 53 false,iG 57 (.load none (Tm 56)) 53 false,iG 58 (.mv (Tm 4)) 53 false,iG 59 (.bin .eql (Tm 57) (Tm 58)) 53 false,iA 60 (.pick (Tm 53) (.const (.bool true)) (Tm 59)),iM 8 60]
def FQ:Rg:=[iM 50 10,iC 51 .add 50 1,iM 10 51]
def FJ:aC:=(.seq (.seq (.region aaS) (.cond (Tm 49) .skip (.exit 6))) (.seq (.block 7 (.region FP)) (.region FQ)))
def FS:Rg:=[iM 61 8]
def aaT:Rg:=[iM 62 6,iC 63 .add 62 1,iM 6 63]
def FT:Rg:=[iM 64 8,iA 65 (.load (some 7) (Tm 3)),iM 66 4,iM 67 5,iA 68 (.call 147 [(Tm 65),(Tm 66),(Tm 67)]),iM 69 7,iB 70 .eql 68 69,iA 71 (.eqb true (Tm 64) (Tm 70))]
def aJQ:Rg:=[iA 2 (.mv (.const (.bool false)))]
def uV:Rg:=[iM 33 7,iC 34 .add 33 1,iM 7 34]
def FK:aC:=(.seq (.seq (.region anU) (.cond (Tm 32) .skip (.exit 4))) (.seq (.block 5 (.seq (.seq (.region anV) (.cond (Tm 42) (.exit 5) .skip)) (.seq (.region aaP) (.seq (.region aaQ) (.seq (.seq (.region aaR) (.block 6 (.loop FJ))) (.seq (.seq (.region FS) (.cond (Tm 61) (.region aaT) .skip)) (.seq (.region FT) (.cond (Tm 71) (.seq (.region aJQ) .ret) .skip)))))))) (.region uV)))
def aaU:Rg:=[iM 72 6,iC 73 .neq 72 1]
def aJR:Rg:=[iA 2 (.mv (.const (.bool false)))]
def aaV:Rg:=[iM 26 5,iC 27 .add 26 1,iM 5 27]
def FL:aC:=(.seq (.seq (.region anR) (.cond (Tm 25) .skip (.exit 2))) (.seq (.block 3 (.seq (.region anS) (.seq (.seq (.region anT) (.block 4 (.loop FK))) (.seq (.region aaU) (.cond (Tm 73) (.seq (.region aJR) .ret) .skip))))) (.region aaV)))
def aaW:Rg:=[iM 22 4,iC 23 .add 22 1,iM 4 23]
def FM:aC:=(.seq (.seq (.region anP) (.cond (Tm 21) .skip (.exit 0))) (.seq (.block 1 (.seq (.region anQ) (.block 2 (.loop FL)))) (.region aaW)))
def aaX:Rg:=[iI 11 0]
def aaY:Rg:=[iM 74 11,iF 75 3 3,iL 76 75,iN 77 76,iB 78 .lss 74 77]
def aaZ:Rg:=[iF 81 3 3,iL 82 81,iM 83 11,iX 84 7 82 83,iF 85 1 84,iL 86 85,iC 87 .eql 86 4]
def abA:Rg:=[iI 12 0]
def abB:Rg:=[iA 88 (.load (some 7) (Tm 3)),iM 89 11,iA 90 (.call 148 [(Tm 88),(Tm 89)]),iM 13 90]
def abC:Rg:=[iI 14 0]
def abD:Rg:=[iM 91 14,iM 92 13,iN 93 92,iB 94 .lss 91 93]
def abE:Rd:=[(iM 97 12,true),(iA 98 (.load (some 7) (Tm 3)),false),(iM 99 13,false),(iM 100 14,false),(iX 101 1 99 100,false),(iL 102 101,false),(iA 103 (.call 149 [(Tm 98),(Tm 102)]),true),(iN 104 103,false),(iB 105 .add 97 104,false),(iM 12 105,false)]
def abG:Rd:=[(iF 106 3 3,false),(iL 107 106,false),(iM 108 13,false),(iM 109 14,false),(iX 110 1 108 109,false),(iL 111 110,false),(iX 112 7 107 111,false),(iF 113 2 112,false),(iL 114 113,false),(iM 115 11,false),(iB 116 .neq 114 115,false)]
def aJS:Rg:=[iA 2 (.mv (.const (.bool false)))]
def abH:Rg:=[iM 95 14,iC 96 .add 95 1,iM 14 96]
def FN:aC:=(.seq (.seq (.region abD) (.cond (Tm 94) .skip (.exit 10))) (.seq (.block 11 (.seq (.draw abE) (.seq (.draw abG) (.cond (Tm 116) (.seq (.region aJS) .ret) .skip)))) (.region abH)))
def abI:Rg:=[iM 117 12,iA 118 (.load (some 7) (Tm 3)),iM 119 11,iA 120 (.call 149 [(Tm 118),(Tm 119)]),iN 121 120,iB 122 .neq 117 121]
def aJT:Rg:=[iA 2 (.mv (.const (.bool false)))]
def FU:Rg:=[iM 79 11,iC 80 .add 79 1,iM 11 80]
def FO:aC:=(.seq (.seq (.region aaY) (.cond (Tm 78) .skip (.exit 8))) (.seq (.block 9 (.seq (.seq (.region aaZ) (.cond (Tm 87) (.exit 9) .skip)) (.seq (.region abA) (.seq (.region abB) (.seq (.seq (.region abC) (.block 10 (.loop FN))) (.seq (.region abI) (.cond (Tm 122) (.seq (.region aJT) .ret) .skip))))))) (.region FU)))
def abJ:Rg:=[iA 123 (.call 20 []),iM 2 123]
def AQ:aC:=(.seq (.region anM) (.seq (.region anN) (.seq (.seq (.region anO) (.block 0 (.loop FM))) (.seq (.seq (.region aaX) (.block 8 (.loop FO))) (.seq (.region abJ) .ret)))))
def aPV:List Nat:=[]
def SN:bD:=⟨1,124,AQ,[.tmp 2]⟩
end Go.PM
namespace Go.PM
open Go
def avB:Rg:=[iA 2 (.mv (.const .nils))]
def avC:Rg:=[iM 4 0,iN 5 4,iM 3 5]
def avD:Rg:=[iM 6 3,iC 7 .gtr 6 0,iM 8 7,iG 9 (.mv (Tm 0)) 8 true,iG 10 (.mv (Tm 3)) 8 true,iG 11 (.bin .sub (Tm 10) (Ci 1)) 8 true,iG 12 (.idxS 1 (Tm 9) (Tm 11)) 8 true,iG 13 (.load none (Tm 12)) 8 true,iG 14 (.bin .eql (Tm 13) (.const (.int .u32 0))) 8 true,iA 15 (.pick (Tm 8) (Tm 14) (.const (.bool false)))]
def avE:Rg:=[iM 16 3,iC 17 .sub 16 1,iM 3 17]
def avA:aC:=(.seq (.seq (.region avD) (.cond (Tm 15) .skip (.exit 0))) (.block 1 (.region avE)))
def QQ:Rg:=[iM 18 0,iM 19 3,iA 20 (.slice 1 (Tm 18) none (some (Tm 19)) none),iA 21 (.append 1 4 (.const .nils) (Tm 20)),iM 2 21]
def DC:aC:=(.seq (.region avB) (.seq (.region avC) (.seq (.block 0 (.loop avA)) (.seq (.region QQ) .ret))))
def aSK:List Nat:=[]
def WI:bD:=⟨1,22,DC,[.tmp 2]⟩
def auS:Rg:=[iA 2 (.mv (.const .nils))]
def auT:Rg:=[iM 3 0,iA 4 (.conv .u32 (Tm 3)),iM 5 0,iA 6 (.bin .shr (Tm 5) (.const (.int .u64 32))),iA 7 (.conv .u32 (Tm 6)),iA 8 (.bslice true 1 2 [(.int .u32 0)] [(0,(Tm 4)),(1,(Tm 7))]),iA 9 (.call 38 [(Tm 8)]),iM 2 9]
def CS:aC:=(.seq (.region auS) (.seq (.region auT) .ret))
def aRZ:List Nat:=[8]
def VZ:bD:=⟨1,10,CS,[.tmp 2]⟩
def agE:Rg:=[iA 2 (.mv (.const (.bool false)))]
def agF:Rg:=[iM 3 0,iA 4 (.call 38 [(Tm 3)]),iN 5 4,iC 6 .gtr 5 512,iM 2 6]
def xX:aC:=(.seq (.region agE) (.seq (.region agF) .ret))
def aNC:List Nat:=[]
def IW:bD:=⟨1,7,xX,[.tmp 2]⟩
def aCS:Rg:=[iI 4 0]
def aCT:Rg:=[iM 6 0,iA 7 (.call 38 [(Tm 6)]),iM 8 1,iA 9 (.call 38 [(Tm 8)]),iM 0 7,iM 1 9]
def aCU:Rg:=[iM 10 0,iN 11 10,iM 12 1,iN 13 12,iB 14 .neq 11 13]
def aCV:Rg:=[iM 15 0,iN 16 15,iM 17 1,iN 18 17,iB 19 .lss 16 18]
def aCW:Rg:=[iI 4 (-1)]
def aCX:Rg:=[iI 4 1]
def aCY:Rg:=[iM 20 0,iN 21 20,iC 22 .sub 21 1,iM 5 22]
def aCZ:Rg:=[iM 23 5,iC 24 .geq 23 0]
def aDA:Rd:=[(iM 27 0,false),(iM 28 5,false),(iX 29 1 27 28,false),(iL 30 29,false),(iM 31 1,false),(iM 32 5,false),(iX 33 1 31 32,false),(iL 34 33,false),(iB 35 .lss 30 34,false)]
def aDB:Rg:=[iI 4 (-1)]
def auE:Rd:=[(iM 36 0,false),(iM 37 5,false),(iX 38 1 36 37,false),(iL 39 38,false),(iM 40 1,false),(iM 41 5,false),(iX 42 1 40 41,false),(iL 43 42,false),(iB 44 .gtr 39 43,false)]
def auF:Rg:=[iI 4 1]
def auG:Rg:=[iM 25 5,iC 26 .sub 25 1,iM 5 26]
def auD:aC:=(.seq (.seq (.region aCZ) (.cond (Tm 24) .skip (.exit 0))) (.seq (.block 1 (.seq (.seq (.draw aDA) (.cond (Tm 35) (.seq (.region aDB) .ret) .skip)) (.seq (.draw auE) (.cond (Tm 44) (.seq (.region auF) .ret) .skip)))) (.region auG)))
def auH:Rg:=[iI 4 0]
def IR:aC:=(.seq (.region aCS) (.seq (.region aCT) (.seq (.seq (.region aCU) (.cond (Tm 14) (.seq (.seq (.region aCV) (.cond (Tm 19) (.seq (.region aCW) .ret) .skip)) (.seq (.region aCX) .ret)) .skip)) (.seq (.seq (.region aCY) (.block 0 (.loop auD))) (.seq (.region auH) .ret)))))
def aWP:List Nat:=[]
def auC:bD:=⟨2,45,IR,[.tmp 4]⟩
def VR:Rg:=[iA 4 (.mv (.const .nils)),iA 5 (.mv (.const .nils))]
def VS:Rg:=[iM 20 0,iM 21 1,iA 22 (.call 32 [(Tm 20),(Tm 21)]),iC 23 .lss 22 0]
def VT:Rg:=[iM 24 0,iA 25 (.call 38 [(Tm 24)]),iA 4 (.mv (.const .nils)),iM 5 25]
def VU:Rg:=[iM 26 1,iN 27 26,iC 28 .eql 27 1]
def CO:Rg:=[iM 29 0,iN 30 29,iA 31 (.mkslice 1 4 [(.int .u32 0)] (Tm 30) (Tm 30)),iM 6 31]
def CP:Rg:=[iA 7 (.mv (.const (.int .u64 0)))]
def CQ:Rg:=[iM 32 0,iN 33 32,iC 34 .sub 33 1,iM 8 34]
def VV:Rg:=[iM 35 8,iC 36 .geq 35 0]
def VW:Rg:=[iM 39 7,iA 40 (.bin .shl (Tm 39) (.const (.int .u64 32))),iM 41 0,iM 42 8,iX 43 1 41 42,iL 44 43,iA 45 (.conv .u64 (Tm 44)),iB 46 .or 40 45,iM 9 46]
def VX:Rg:=[iM 47 6,iM 48 8,iM 49 9,iM 50 1,iA 51 (.idxS 1 (Tm 50) (Ci 0)),iL 52 51,iA 53 (.conv .u64 (Tm 52)),iB 54 .quo 49 53,iA 55 (.conv .u32 (Tm 54)),iX 56 1 47 48,iS 1 56 55]
def MP:Rg:=[iM 57 9,iM 58 1,iA 59 (.idxS 1 (Tm 58) (Ci 0)),iL 60 59,iA 61 (.conv .u64 (Tm 60)),iB 62 .rem 57 61,iM 7 62]
def MQ:Rg:=[iM 37 8,iC 38 .sub 37 1,iM 8 38]
def xL:aC:=(.seq (.seq (.region VV) (.cond (Tm 36) .skip (.exit 0))) (.seq (.block 1 (.seq (.region VW) (.seq (.region VX) (.region MP)))) (.region MQ)))
def xM:Rg:=[iM 63 6,iA 64 (.call 38 [(Tm 63)]),iM 65 7,iA 66 (.call 35 [(Tm 65)]),iM 4 64,iM 5 66]
def MR:Rg:=[iM 67 1,iN 68 67,iA 69 (.bin .mul (Ci 32) (Tm 68)),iM 70 1,iA 71 (.call 31 [(Tm 70)]),iB 72 .sub 69 71,iM 10 72]
def MS:Rg:=[iM 73 0,iM 74 10,iA 75 (.call 45 [(Tm 73),(Tm 74)]),iA 76 (.bslice true 1 2 [(.int .u32 0)] [(0,(.const (.int .u32 0))),(1,(.const (.int .u32 0)))]),iA 77 (.append 1 4 (Tm 75) (Tm 76)),iM 78 1,iM 79 10,iA 80 (.call 45 [(Tm 78),(Tm 79)]),iM 11 77,iM 12 80]
def xN:Rg:=[iM 81 11,iM 82 0,iM 83 10,iA 84 (.call 45 [(Tm 82),(Tm 83)]),iN 85 84,iC 86 .add 85 1,iA 87 (.slice 1 (Tm 81) none (some (Tm 86)) none),iM 11 87]
def xO:Rg:=[iM 88 12,iM 89 12,iN 90 89,iC 91 .sub 90 1,iX 92 1 88 91,iL 93 92,iA 94 (.conv .u64 (Tm 93)),iM 13 94]
def xP:Rg:=[iM 95 11,iN 96 95,iM 97 12,iN 98 97,iB 99 .sub 96 98,iA 100 (.mkslice 1 4 [(.int .u32 0)] (Tm 99) (Tm 99)),iM 14 100]
def xQ:Rg:=[iM 101 14,iN 102 101,iC 103 .sub 102 1,iM 15 103]
def MT:Rg:=[iM 104 15,iC 105 .geq 104 0]
def MU:Rd:=[(iM 108 11,false),(iM 109 15,false),(iM 110 12,false),(iN 111 110,false),(iB 112 .add 109 111,false),(iX 113 1 108 112,false),(iL 114 113,false),(iA 115 (.conv .u64 (Tm 114)),false),(iA 116 (.bin .shl (Tm 115) (.const (.int .u64 32))),false),(iM 117 11,false),(iM 118 15,false),(iM 119 12,false),(iN 120 119,false),(iB 121 .add 118 120,false),(iC 122 .sub 121 1,false),(iX 123 1 117 122,false),(iL 124 123,false),(iA 125 (.conv .u64 (Tm 124)),false),(iB 126 .or 116 125,false),(iM 16 126,false)]
def MV:Rg:=[iM 127 16,iM 128 13,iB 129 .quo 127 128,iM 17 129]
def MW:Rg:=[iM 130 17,iA 131 (.bin .gtr (Tm 130) (.const (.int .u64 4294967295)))]
def MX:Rg:=[iA 17 (.mv (.const (.int .u64 4294967295)))]
def MY:Rd:=[(iM 132 12,true),(iM 133 17,false),(iA 134 (.call 35 [(Tm 133)]),true),(iA 135 (.call 44 [(Tm 132),(Tm 134)]),true),(iM 136 11,true),(iM 137 15,true),(iM 138 15,true),(iM 139 12,true),(iN 140 139,true),(iB 141 .add 138 140,true),(iC 142 .add 141 1,true),(iA 143 (.slice 1 (Tm 136) (some (Tm 137)) (some (Tm 142)) none),true),(iA 144 (.append 1 4 (.const .nils) (Tm 143)),true),(iA 145 (.call 32 [(Tm 135),(Tm 144)]),true),(iC 146 .gtr 145 0,false)]
def MZ:Rg:=[iM 147 17,iA 148 (.bin .sub (Tm 147) (.const (.int .u64 1))),iM 17 148]
def qT:aC:=(.seq (.seq (.draw MY) (.cond (Tm 146) .skip (.exit 4))) (.block 5 (.region MZ)))
def xR:Rg:=[iM 149 11,iM 150 15,iM 151 15,iM 152 12,iN 153 152,iB 154 .add 151 153,iC 155 .add 154 1,iA 156 (.slice 1 (Tm 149) (some (Tm 150)) (some (Tm 155)) none),iA 157 (.append 1 4 (.const .nils) (Tm 156)),iM 158 12,iM 159 17,iA 160 (.call 35 [(Tm 159)]),iA 161 (.call 44 [(Tm 158),(Tm 160)]),iA 162 (.call 42 [(Tm 157),(Tm 161)]),iM 18 162]
def xS:Rg:=[iI 19 0]
def NA:Rg:=[iM 163 19,iM 164 12,iN 165 164,iB 166 .leq 163 165]
def NB:Rg:=[iM 169 11,iM 170 15,iM 171 19,iB 172 .add 170 171,iX 173 1 169 172,⟨none,.store 1 (Tm 173) (.const (.int .u32 0)),none⟩]
def NC:Rg:=[iM 174 19,iM 175 18,iN 176 175,iB 177 .lss 174 176]
def ND:Rg:=[iM 178 11,iM 179 15,iM 180 19,iB 181 .add 179 180,iM 182 18,iM 183 19,iX 184 1 182 183,iL 185 184,iX 186 1 178 181,iS 1 186 185]
def xT:Rg:=[iM 167 19,iC 168 .add 167 1,iM 19 168]
def qU:aC:=(.seq (.seq (.region NA) (.cond (Tm 166) .skip (.exit 6))) (.seq (.block 7 (.seq (.region NB) (.seq (.region NC) (.cond (Tm 177) (.region ND) .skip)))) (.region xT)))
def xU:Rg:=[iM 187 14,iM 188 15,iM 189 17,iA 190 (.conv .u32 (Tm 189)),iX 191 1 187 188,iS 1 191 190]
def xV:Rg:=[iM 106 15,iC 107 .sub 106 1,iM 15 107]
def qV:aC:=(.seq (.seq (.region MT) (.cond (Tm 105) .skip (.exit 2))) (.seq (.block 3 (.seq (.draw MU) (.seq (.region MV) (.seq (.seq (.region MW) (.cond (Tm 131) (.region MX) .skip)) (.seq (.block 4 (.loop qT)) (.seq (.region xR) (.seq (.seq (.region xS) (.block 6 (.loop qU))) (.region xU)))))))) (.region xV)))
def xW:Rg:=[iM 192 14,iA 193 (.call 38 [(Tm 192)]),iM 194 11,iA 195 (.call 38 [(Tm 194)]),iM 196 10,iA 197 (.call 40 [(Tm 195),(Tm 196)]),iM 4 193,iM 5 197]
def uG:aC:=(.seq (.region VR) (.seq (.seq (.region VS) (.cond (Tm 23) (.seq (.region VT) .ret) .skip)) (.seq (.seq (.region VU) (.cond (Tm 28) (.seq (.region CO) (.seq (.region CP) (.seq (.seq (.region CQ) (.block 0 (.loop xL))) (.seq (.region xM) .ret)))) .skip)) (.seq (.region MR) (.seq (.region MS) (.seq (.region xN) (.seq (.region xO) (.seq (.region xP) (.seq (.seq (.region xQ) (.block 2 (.loop qV))) (.seq (.region xW) .ret))))))))))
def aHO:List Nat:=[76]
def yY:bD:=⟨2,198,uG,[.tmp 4,.tmp 5]⟩
def aDC:Rg:=[iA 4 (.mv (.const .nils)),iA 5 (.mv (.const .nils)),iI 6 0]
def aDD:Rg:=[iM 9 0,iA 10 (.call 41 [(Tm 9)]),iM 11 10,iG 12 (.mv (Tm 1)) 11 false,iG 13 (.call 41 [(Tm 12)]) 11 false,iA 14 (.pick (Tm 11) (.const (.bool true)) (Tm 13))]
def YX:Rg:=[iA 4 (.mv (.const .nils)),iA 5 (.mv (.const .nils)),iI 6 2]
def aDE:Rg:=[iM 15 1,iA 16 (.call 38 [(Tm 15)]),iN 17 16,iC 18 .eql 17 0]
def aDF:Rg:=[iA 4 (.mv (.const .nils)),iA 5 (.mv (.const .nils)),iI 6 3]
def aDG:Rg:=[iM 20 0,iA 21 (.call 38 [(Tm 20)]),iM 22 1,iA 23 (.call 38 [(Tm 22)]),iA 24 (.call 39 [(Tm 21),(Tm 23)]),iM 19 24,iA 25 (.extract (Tm 19) 0),iA 26 (.extract (Tm 19) 1),iM 7 25,iM 8 26]
def aDH:Rg:=[iM 27 7,iM 28 8,iM 4 27,iM 5 28,iI 6 0]
def IS:aC:=(.seq (.region aDC) (.seq (.seq (.region aDD) (.cond (Tm 14) (.seq (.region YX) .ret) .skip)) (.seq (.seq (.region aDE) (.cond (Tm 18) (.seq (.region aDF) .ret) .skip)) (.seq (.region aDG) (.seq (.region aDH) .ret)))))
def aWR:List Nat:=[]
def udiv:bD:=⟨2,29,IS,[.tmp 4,.tmp 5,.tmp 6]⟩
def aDJ:Rg:=[iA 4 (.mv (.const .nils)),iI 5 0]
def aDK:Rg:=[iM 10 0,iA 11 (.call 41 [(Tm 10)]),iM 12 11,iG 13 (.mv (Tm 1)) 12 false,iG 14 (.call 41 [(Tm 13)]) 12 false,iA 15 (.pick (Tm 12) (.const (.bool true)) (Tm 14))]
def YY:Rg:=[iA 4 (.mv (.const .nils)),iI 5 2]
def aDL:Rg:=[iM 16 0,iA 17 (.call 38 [(Tm 16)]),iM 18 1,iA 19 (.call 38 [(Tm 18)]),iM 6 17,iM 7 19]
def aDM:Rg:=[iM 20 7,iN 21 20,iC 22 .gtr 21 0]
def aDN:Rg:=[iM 24 6,iM 25 7,iA 26 (.call 39 [(Tm 24),(Tm 25)]),iM 23 26,iA 27 (.extract (Tm 23) 0),iA 28 (.extract (Tm 23) 1),iM 8 27,iM 9 28]
def aDO:Rg:=[iM 29 7,iM 30 9,iM 6 29,iM 7 30]
def aDI:aC:=(.seq (.seq (.region aDM) (.cond (Tm 22) .skip (.exit 0))) (.block 1 (.seq (.region aDN) (.region aDO))))
def aDP:Rg:=[iM 31 6,iM 4 31,iI 5 0]
def IV:aC:=(.seq (.region aDJ) (.seq (.seq (.region aDK) (.cond (Tm 15) (.seq (.region YY) .ret) .skip)) (.seq (.region aDL) (.seq (.block 0 (.loop aDI)) (.seq (.region aDP) .ret)))))
def aWT:List Nat:=[]
def auR:bD:=⟨2,32,IV,[.tmp 4,.tmp 5]⟩
def WK:Rg:=[iA 6 (.alloc [(.bool false),.nils,.nils])]
def WL:Rg:=[iM 9 1,iA 10 (.call 38 [(Tm 9)]),iM 11 2,iA 12 (.call 38 [(Tm 11)]),iM 1 10,iM 2 12]
def WM:Rg:=[iM 13 1,iN 14 13,iC 15 .eql 14 0]
def WN:Rg:=[iA 16 (.bslice true 1 1 [(.int .u32 0)] [(0,(.const (.int .u32 1)))]),iA 17 (.build [(.bool false),.nils,.nils] [(2,1,(Tm 16))]),iS 3 6 17]
def WO:Rg:=[iM 19 1,iM 20 2,iA 21 (.call 34 [(Tm 19),(Tm 20)]),iM 18 21,iA 22 (.extract (Tm 18) 0),iA 23 (.extract (Tm 18) 1),iM 7 22,iM 8 23]
def WP:Rg:=[iM 24 7,iN 25 24,iC 26 .gtr 25 1,iM 27 26,iG 28 (.mv (Tm 7)) 27 false,iG 29 (.idxS 1 (Tm 28) (Ci 0)) 27 false,iG 30 (.load none (Tm 29)) 27 false,iG 31 (.bin .gtr (Tm 30) (.const (.int .u32 1))) 27 false,iA 32 (.pick (Tm 27) (.const (.bool true)) (Tm 31))]
def DE:Rg:=[iM 34 1,iM 35 7,iA 36 (.call 33 [(Tm 34),(Tm 35)]),iM 33 36,iA 37 (.extract (Tm 33) 0),iA 38 (.extract (Tm 33) 1),iA 39 (.extract (Tm 33) 2),iM 1 37]
def DF:Rg:=[iM 41 2,iM 42 7,iA 43 (.call 33 [(Tm 41),(Tm 42)]),iM 40 43,iA 44 (.extract (Tm 40) 0),iA 45 (.extract (Tm 40) 1),iA 46 (.extract (Tm 40) 2),iM 2 44]
def sR:Rg:=[iM 47 0,iM 48 1,iM 49 2,iA 50 (.build [(.bool false),.nils,.nils] [(0,1,(Tm 47)),(1,1,(Tm 48)),(2,1,(Tm 49))]),iS 3 6 50]
def uI:aC:=(.seq (.region WK) (.seq (.region WL) (.seq (.seq (.region WM) (.cond (Tm 15) (.seq (.region WN) .ret) .skip)) (.seq (.seq (.region WO) (.seq (.region WP) (.cond (Tm 32) (.seq (.region DE) (.region DF)) .skip))) (.seq (.region sR) .ret)))))
def aHX:List Nat:=[16]
def zA:bD:=⟨3,51,uI,[.cell 6 (some 3)]⟩
def avL:Rg:=[iA 2 (.mv (.const (.int .u64 0)))]
def avM:Rg:=[iM 3 0,iC 4 .lss 3 0]
def avN:Rg:=[iM 5 0,iC 6 .add 5 1,iA 7 (.un .neg (Tm 6)),iA 8 (.conv .u64 (Tm 7)),iA 9 (.bin .add (Tm 8) (.const (.int .u64 1))),iM 2 9]
def avO:Rg:=[iM 10 0,iA 11 (.conv .u64 (Tm 10)),iM 2 11]
def DH:aC:=(.seq (.region avL) (.seq (.seq (.region avM) (.cond (Tm 4) (.seq (.region avN) .ret) .skip)) (.seq (.region avO) .ret)))
def aSQ:List Nat:=[]
def WR:bD:=⟨1,12,DH,[.tmp 2]⟩
def avH:Rg:=[iA 4 (.alloc [(.bool false),.nils,.nils]),iI 5 0]
def avI:Rg:=[iM 6 1,iC 7 .eql 6 0]
def avJ:Rg:=[iA 8 (.build [(.bool false),.nils,.nils] []),iS 3 4 8,iI 5 3]
def avK:Rg:=[iM 9 0,iC 10 .lss 9 0,iM 11 1,iC 12 .lss 11 0,iA 13 (.eqb true (Tm 10) (Tm 12)),iM 14 0,iA 15 (.call 59 [(Tm 14)]),iA 16 (.call 35 [(Tm 15)]),iM 17 1,iA 18 (.call 59 [(Tm 17)]),iA 19 (.call 35 [(Tm 18)]),iA 20 (.call 58 [(Tm 13),(Tm 16),(Tm 19)]),iS 3 4 20,iI 5 0]
def DG:aC:=(.seq (.region avH) (.seq (.seq (.region avI) (.cond (Tm 7) (.seq (.region avJ) .ret) .skip)) (.seq (.region avK) .ret)))
def aSO:List Nat:=[]
def KO:bD:=⟨2,21,DG,[.cell 4 (some 3),.tmp 5]⟩
def aDT:Rg:=[iA 2 (.alloc [(.bool false),.nils,.nils])]
def aDU:Rg:=[iM 6 0,iA 7 (.call 50 [(Tm 6),(Ci 1)]),iM 5 7,iA 8 (.extract (Tm 5) 0),iA 9 (.extract (Tm 5) 1),iA 3 (.alloc [(.bool false),.nils,.nils]),iS 3 3 8,iM 4 9]
def aDV:Rg:=[iA 10 (.load (some 3) (Tm 3)),iS 3 2 10]
def JI:aC:=(.seq (.region aDT) (.seq (.region aDU) (.seq (.region aDV) .ret)))
def aXM:List Nat:=[]
def avG:bD:=⟨1,11,JI,[.cell 2 (some 3)]⟩
end Go.PM
namespace Go.PM
open Go
def BL:Rg:=[iI 2 0]
def BM:Rg:=[iM 4 0,iN 5 4,iM 3 5]
def BN:Rg:=[iM 6 3,iC 7 .gtr 6 0,iM 8 7,iG 9 (.mv (Tm 0)) 8 true,iG 10 (.mv (Tm 3)) 8 true,iG 11 (.bin .sub (Tm 10) (Ci 1)) 8 true,iG 12 (.idxS 1 (Tm 9) (Tm 11)) 8 true,iG 13 (.load none (Tm 12)) 8 true,iG 14 (.bin .eql (Tm 13) (.const (.int .u32 0))) 8 true,iA 15 (.pick (Tm 8) (Tm 14) (.const (.bool false)))]
def BO:Rg:=[iM 16 3,iC 17 .sub 16 1,iM 3 17]
def BK:aC:=(.seq (.seq (.region BN) (.cond (Tm 15) .skip (.exit 0))) (.block 1 (.region BO)))
def pH:Rg:=[iM 18 3,iM 2 18]
def lS:aC:=(.seq (.region BL) (.seq (.region BM) (.seq (.block 0 (.loop BK)) (.seq (.region pH) .ret))))
def aGM:List Nat:=[]
def qB:bD:=⟨1,19,lS,[.tmp 2]⟩
def acF:Rg:=[iA 2 (.mv (.const (.bool false)))]
def acG:Rg:=[iM 3 0,iA 4 (.call 138 [(Tm 3)]),iC 5 .gtr 4 512,iM 2 5]
def wY:aC:=(.seq (.region acF) (.seq (.region acG) .ret))
def aKK:List Nat:=[]
def GL:bD:=⟨1,6,wY,[.tmp 2]⟩
def acS:Rg:=[iA 2 (.mv (.const .nils)),iI 3 0]
def acT:Rg:=[iM 5 0,iA 6 (.call 138 [(Tm 5)]),iM 4 6]
def acU:Rg:=[iM 7 4,iC 8 .gtr 7 512]
def acV:Rg:=[iA 2 (.mv (.const .nils)),iI 3 2]
def acW:Rg:=[iM 9 0,iM 10 4,iM 11 4,iA 12 (.slice 1 (Tm 9) none (some (Tm 10)) (some (Tm 11))),iM 2 12,iI 3 0]
def xA:aC:=(.seq (.region acS) (.seq (.region acT) (.seq (.seq (.region acU) (.cond (Tm 8) (.seq (.region acV) .ret) .skip)) (.seq (.region acW) .ret))))
def aKP:List Nat:=[]
def GQ:bD:=⟨1,13,xA,[.tmp 2,.tmp 3]⟩
def aqE:Rg:=[iA 2 (.mv (.const .nils))]
def aqF:Rg:=[iM 4 0,iA 5 (.conv .u32 (Tm 4)),iM 6 0,iA 7 (.bin .shr (Tm 6) (.const (.int .u64 32))),iA 8 (.conv .u32 (Tm 7)),iA 9 (.bslice true 1 2 [(.int .u32 0)] [(0,(Tm 5)),(1,(Tm 8))]),iM 3 9]
def aqG:Rg:=[iM 10 3,iM 11 3,iA 12 (.call 138 [(Tm 11)]),iA 13 (.slice 1 (Tm 10) none (some (Tm 12)) none),iM 2 13]
def BP:aC:=(.seq (.region aqE) (.seq (.region aqF) (.seq (.region aqG) .ret)))
def aQM:List Nat:=[9]
def UA:bD:=⟨1,14,BP,[.tmp 2]⟩
def aqY:Rg:=[iA 2 (.mv (.const .nils))]
def aqZ:Rg:=[iM 3 0,iM 4 0,iA 5 (.call 138 [(Tm 4)]),iA 6 (.slice 1 (Tm 3) none (some (Tm 5)) none),iA 7 (.append 1 4 (.const .nils) (Tm 6)),iM 2 7]
def BQ:aC:=(.seq (.region aqY) (.seq (.region aqZ) .ret))
def aQP:List Nat:=[]
def UD:bD:=⟨1,8,BQ,[.tmp 2]⟩
def aBA:Rg:=[iI 4 0]
def aBB:Rg:=[iM 8 0,iA 9 (.call 138 [(Tm 8)]),iM 10 1,iA 11 (.call 138 [(Tm 10)]),iM 5 9,iM 6 11]
def aBC:Rg:=[iM 13 5,iM 14 6,iB 15 .lss 13 14,iM 12 15]
def aBD:Rg:=[iI 4 (-1)]
def aBE:Rg:=[iM 17 5,iM 18 6,iB 19 .gtr 17 18,iM 16 19]
def aBF:Rg:=[iI 4 1]
def aBG:Rg:=[iM 20 5,iC 21 .sub 20 1,iM 7 21]
def aBH:Rg:=[iM 22 7,iC 23 .geq 22 0]
def aBI:Rd:=[(iM 27 0,false),(iM 28 7,false),(iX 29 1 27 28,false),(iL 30 29,false),(iM 31 1,false),(iM 32 7,false),(iX 33 1 31 32,false),(iL 34 33,false),(iB 35 .lss 30 34,false),(iM 26 35,false)]
def aBJ:Rg:=[iI 4 (-1)]
def apV:Rd:=[(iM 37 0,false),(iM 38 7,false),(iX 39 1 37 38,false),(iL 40 39,false),(iM 41 1,false),(iM 42 7,false),(iX 43 1 41 42,false),(iL 44 43,false),(iB 45 .gtr 40 44,false),(iM 36 45,false)]
def apW:Rg:=[iI 4 1]
def apX:Rg:=[iM 24 7,iC 25 .sub 24 1,iM 7 25]
def apU:aC:=(.seq (.seq (.region aBH) (.cond (Tm 23) .skip (.exit 1))) (.seq (.block 2 (.block 3 (.seq (.draw aBI) (.cond (Tm 26) (.seq (.region aBJ) .ret) (.seq (.draw apV) (.cond (Tm 36) (.seq (.region apW) .ret) .skip)))))) (.region apX)))
def apY:Rg:=[iI 4 0]
def GH:aC:=(.seq (.region aBA) (.seq (.region aBB) (.seq (.block 0 (.seq (.region aBC) (.cond (Tm 12) (.seq (.region aBD) .ret) (.seq (.region aBE) (.cond (Tm 16) (.seq (.region aBF) .ret) .skip))))) (.seq (.seq (.region aBG) (.block 1 (.loop apU))) (.seq (.region apY) .ret)))))
def aVM:List Nat:=[]
def apT:bD:=⟨2,46,GH,[.tmp 4]⟩
def aAU:Rg:=[iA 4 (.mv (.const .nils)),iI 5 0]
def aAV:Rg:=[iM 9 0,iA 10 (.call 137 [(Tm 9)]),iM 11 10,iG 12 (.mv (Tm 1)) 11 false,iG 13 (.call 137 [(Tm 12)]) 11 false,iA 14 (.pick (Tm 11) (.const (.bool true)) (Tm 13))]
def XU:Rg:=[iA 4 (.mv (.const .nils)),iI 5 2]
def aAW:Rd:=[(iM 15 0,true),(iM 16 0,false),(iA 17 (.call 138 [(Tm 16)]),true),(iA 18 (.slice 1 (Tm 15) none (some (Tm 17)) none),true),(iM 19 1,true),(iM 20 1,true),(iA 21 (.call 138 [(Tm 20)]),true),(iA 22 (.slice 1 (Tm 19) none (some (Tm 21)) none),false),(iM 0 18,false),(iM 1 22,false)]
def aAX:Rg:=[iM 23 0,iN 24 23,iM 25 1,iN 26 25,iB 27 .lss 24 26]
def aAY:Rg:=[iM 28 1,iM 29 0,iM 0 28,iM 1 29]
def XV:Rg:=[iM 30 0,iN 31 30,iC 32 .add 31 1,iA 33 (.mkslice 1 4 [(.int .u32 0)] (Tm 32) (Tm 32)),iM 6 33]
def XW:Rg:=[iA 7 (.mv (.const (.int .u64 0)))]
def XY:Rg:=[iM 34 0,iN 35 34,iI 36 0]
def aAZ:Rg:=[iB 37 .lss 36 35]
def apE:Rg:=[iM 38 36,iM 8 38]
def apF:Rg:=[iM 39 7,iM 40 0,iM 41 8,iX 42 1 40 41,iL 43 42,iA 44 (.conv .u64 (Tm 43)),iB 45 .add 39 44,iM 7 45]
def apG:Rg:=[iM 46 8,iM 47 1,iN 48 47,iB 49 .lss 46 48]
def apH:Rg:=[iM 50 7,iM 51 1,iM 52 8,iX 53 1 51 52,iL 54 53,iA 55 (.conv .u64 (Tm 54)),iB 56 .add 50 55,iM 7 56]
def PK:Rg:=[iM 57 6,iM 58 8,iM 59 7,iA 60 (.conv .u32 (Tm 59)),iX 61 1 57 58,iS 1 61 60]
def PL:Rg:=[iM 62 7,iA 63 (.bin .shr (Tm 62) (.const (.int .u64 32))),iM 7 63]
def PN:Rg:=[iC 64 .add 36 1,iM 36 64]
def PJ:aC:=(.seq (.region aAZ) (.seq (.cond (Tm 37) .skip (.exit 0)) (.seq (.block 1 (.seq (.region apE) (.seq (.region apF) (.seq (.seq (.region apG) (.cond (Tm 49) (.region apH) .skip)) (.seq (.region PK) (.region PL)))))) (.region PN))))
def PO:Rg:=[iM 65 6,iM 66 0,iN 67 66,iM 68 7,iA 69 (.conv .u32 (Tm 68)),iX 70 1 65 67,iS 1 70 69]
def PP:Rg:=[iM 71 6,iA 72 (.call 141 [(Tm 71)]),iA 73 (.extract (Tm 72) 0),iA 74 (.extract (Tm 72) 1),iM 4 73,iM 5 74]
def GG:aC:=(.seq (.region aAU) (.seq (.seq (.region aAV) (.cond (Tm 14) (.seq (.region XU) .ret) .skip)) (.seq (.draw aAW) (.seq (.seq (.region aAX) (.cond (Tm 27) (.region aAY) .skip)) (.seq (.region XV) (.seq (.region XW) (.seq (.seq (.region XY) (.block 0 (.loop PJ))) (.seq (.region PO) (.seq (.region PP) .ret)))))))))
def aVJ:List Nat:=[]
def apD:bD:=⟨2,75,GG,[.tmp 4,.tmp 5]⟩
def aCC:Rg:=[iA 4 (.mv (.const .nils)),iI 5 0]
def aCD:Rg:=[iM 11 0,iA 12 (.call 137 [(Tm 11)]),iM 13 12,iG 14 (.mv (Tm 1)) 13 false,iG 15 (.call 137 [(Tm 14)]) 13 false,iA 16 (.pick (Tm 13) (.const (.bool true)) (Tm 15)),iM 10 16]
def YJ:Rg:=[iA 4 (.mv (.const .nils)),iI 5 2]
def aCE:Rg:=[iM 18 0,iM 19 1,iA 20 (.call 129 [(Tm 18),(Tm 19)]),iC 21 .lss 20 0,iM 17 21]
def aCF:Rg:=[iA 4 (.mv (.const .nils)),iI 5 4]
def aCG:Rd:=[(iM 22 0,true),(iM 23 0,false),(iA 24 (.call 138 [(Tm 23)]),true),(iA 25 (.slice 1 (Tm 22) none (some (Tm 24)) none),true),(iM 26 1,true),(iM 27 1,true),(iA 28 (.call 138 [(Tm 27)]),true),(iA 29 (.slice 1 (Tm 26) none (some (Tm 28)) none),false),(iM 0 25,false),(iM 1 29,false)]
def YK:Rg:=[iM 30 0,iN 31 30,iA 32 (.mkslice 1 4 [(.int .u32 0)] (Tm 31) (Tm 31)),iM 6 32]
def YL:Rg:=[iA 7 (.mv (.const (.int .u64 0)))]
def YM:Rg:=[iM 33 0,iN 34 33,iI 35 0]
def aCH:Rg:=[iB 36 .lss 35 34]
def aqR:Rg:=[iM 37 35,iM 8 37]
def aqS:Rg:=[iM 38 0,iM 39 8,iX 40 1 38 39,iL 41 40,iA 42 (.conv .u64 (Tm 41)),iM 43 7,iB 44 .sub 42 43,iM 9 44]
def aqT:Rg:=[iM 45 8,iM 46 1,iN 47 46,iB 48 .lss 45 47]
def aqU:Rg:=[iM 49 9,iM 50 1,iM 51 8,iX 52 1 50 51,iL 53 52,iA 54 (.conv .u64 (Tm 53)),iB 55 .sub 49 54,iM 9 55]
def PW:Rg:=[iM 56 6,iM 57 8,iM 58 9,iA 59 (.conv .u32 (Tm 58)),iX 60 1 56 57,iS 1 60 59]
def PX:Rg:=[iM 61 9,iA 62 (.bin .shr (Tm 61) (.const (.int .u64 63))),iM 7 62]
def PY:Rg:=[iC 63 .add 35 1,iM 35 63]
def PU:aC:=(.seq (.region aCH) (.seq (.cond (Tm 36) .skip (.exit 1)) (.seq (.block 2 (.seq (.region aqR) (.seq (.region aqS) (.seq (.seq (.region aqT) (.cond (Tm 48) (.region aqU) .skip)) (.seq (.region PW) (.region PX)))))) (.region PY))))
def PZ:Rg:=[iM 64 6,iA 65 (.call 141 [(Tm 64)]),iA 66 (.extract (Tm 65) 0),iA 67 (.extract (Tm 65) 1),iM 4 66,iM 5 67]
def GR:aC:=(.seq (.region aCC) (.seq (.block 0 (.seq (.region aCD) (.cond (Tm 10) (.seq (.region YJ) .ret) (.seq (.region aCE) (.cond (Tm 17) (.seq (.region aCF) .ret) .skip))))) (.seq (.draw aCG) (.seq (.region YK) (.seq (.region YL) (.seq (.seq (.region YM) (.block 1 (.loop PU))) (.seq (.region PZ) .ret)))))))
def aVU:List Nat:=[]
def aqQ:bD:=⟨2,68,GR,[.tmp 4,.tmp 5]⟩
def aBY:Rg:=[iA 4 (.mv (.const .nils)),iI 5 0]
def aBZ:Rg:=[iM 12 0,iA 13 (.call 137 [(Tm 12)]),iM 14 13,iG 15 (.mv (Tm 1)) 14 false,iG 16 (.call 137 [(Tm 15)]) 14 false,iA 17 (.pick (Tm 14) (.const (.bool true)) (Tm 16))]
def YC:Rg:=[iA 4 (.mv (.const .nils)),iI 5 2]
def aCA:Rd:=[(iM 18 0,true),(iM 19 0,false),(iA 20 (.call 138 [(Tm 19)]),true),(iA 21 (.slice 1 (Tm 18) none (some (Tm 20)) none),true),(iM 22 1,true),(iM 23 1,true),(iA 24 (.call 138 [(Tm 23)]),true),(iA 25 (.slice 1 (Tm 22) none (some (Tm 24)) none),false),(iM 0 21,false),(iM 1 25,false)]
def YD:Rg:=[iM 26 0,iN 27 26,iM 28 1,iN 29 28,iB 30 .add 27 29,iA 31 (.mkslice 1 4 [(.int .u32 0)] (Tm 30) (Tm 30)),iM 6 31]
def YE:Rg:=[iM 32 0,iN 33 32,iI 34 0]
def aCB:Rg:=[iB 35 .lss 34 33]
def YF:Rg:=[iM 36 34,iX 37 1 32 34,iL 38 37,iM 7 36,iM 8 38]
def YG:Rg:=[iA 9 (.mv (.const (.int .u64 0)))]
def YH:Rg:=[iM 39 1,iN 40 39,iI 41 0]
def aqI:Rg:=[iB 42 .lss 41 40]
def aqJ:Rg:=[iM 43 41,iX 44 1 39 41,iL 45 44,iM 10 43,iM 11 45]
def aqK:Rg:=[iM 46 9,iM 47 8,iA 48 (.conv .u64 (Tm 47)),iM 49 11,iA 50 (.conv .u64 (Tm 49)),iB 51 .mul 48 50,iM 52 6,iM 53 7,iM 54 10,iB 55 .add 53 54,iX 56 1 52 55,iL 57 56,iA 58 (.conv .u64 (Tm 57)),iB 59 .add 51 58,iB 60 .add 46 59,iM 9 60]
def aqL:Rg:=[iM 61 6,iM 62 7,iM 63 10,iB 64 .add 62 63,iM 65 9,iA 66 (.conv .u32 (Tm 65)),iX 67 1 61 64,iS 1 67 66]
def aqM:Rg:=[iM 68 9,iA 69 (.bin .shr (Tm 68) (.const (.int .u64 32))),iM 9 69]
def aqN:Rg:=[iC 70 .add 41 1,iM 41 70]
def PQ:aC:=(.seq (.region aqI) (.seq (.cond (Tm 42) .skip (.exit 2)) (.seq (.block 3 (.seq (.region aqJ) (.seq (.region aqK) (.seq (.region aqL) (.region aqM))))) (.region aqN))))
def PS:Rg:=[iM 71 6,iM 72 7,iM 73 1,iN 74 73,iB 75 .add 72 74,iM 76 9,iA 77 (.conv .u32 (Tm 76)),iX 78 1 71 75,iS 1 78 77]
def aqO:Rg:=[iC 79 .add 34 1,iM 34 79]
def PR:aC:=(.seq (.region aCB) (.seq (.cond (Tm 35) .skip (.exit 0)) (.seq (.block 1 (.seq (.region YF) (.seq (.region YG) (.seq (.seq (.region YH) (.block 2 (.loop PQ))) (.region PS))))) (.region aqO))))
def PT:Rg:=[iM 80 6,iA 81 (.call 141 [(Tm 80)]),iA 82 (.extract (Tm 81) 0),iA 83 (.extract (Tm 81) 1),iM 4 82,iM 5 83]
def GM:aC:=(.seq (.region aBY) (.seq (.seq (.region aBZ) (.cond (Tm 17) (.seq (.region YC) .ret) .skip)) (.seq (.draw aCA) (.seq (.region YD) (.seq (.seq (.region YE) (.block 0 (.loop PR))) (.seq (.region PT) .ret))))))
def aVS:List Nat:=[]
def aqH:bD:=⟨2,84,GM,[.tmp 4,.tmp 5]⟩
def apK:Rg:=[iI 2 0]
def apL:Rg:=[iM 6 0,iA 7 (.call 138 [(Tm 6)]),iM 3 7]
def apM:Rg:=[iM 8 3,iC 9 .eql 8 0]
def apN:Rg:=[iI 2 0]
def apO:Rg:=[iM 10 3,iC 11 .sub 10 1,iC 12 .mul 11 32,iM 4 12]
def apP:Rg:=[iM 13 0,iM 14 3,iC 15 .sub 14 1,iX 16 1 13 15,iL 17 16,iM 5 17]
def apQ:Rg:=[iM 18 5,iA 19 (.bin .gtr (Tm 18) (.const (.int .u32 0)))]
def apR:Rg:=[iM 22 4,iC 23 .add 22 1,iM 4 23]
def apS:Rg:=[iM 20 5,iA 21 (.bin .shr (Tm 20) (.const (.int .u64 1))),iM 5 21]
def apJ:aC:=(.seq (.seq (.region apQ) (.cond (Tm 19) .skip (.exit 0))) (.seq (.block 1 (.region apR)) (.region apS)))
def acE:Rg:=[iM 24 4,iM 2 24]
def BJ:aC:=(.seq (.region apK) (.seq (.region apL) (.seq (.seq (.region apM) (.cond (Tm 9) (.seq (.region apN) .ret) .skip)) (.seq (.region apO) (.seq (.seq (.region apP) (.block 0 (.loop apJ))) (.seq (.region acE) .ret))))))
def aQK:List Nat:=[]
def TP:bD:=⟨1,25,BJ,[.tmp 2]⟩
def aBR:Rg:=[iA 4 (.mv (.const .nils)),iI 5 0]
def aBS:Rg:=[iM 8 0,iA 9 (.call 137 [(Tm 8)]),iM 10 9,iG 11 (.mv (Tm 1)) 10 false,iG 12 (.call 137 [(Tm 11)]) 10 false,iA 13 (.pick (Tm 10) (.const (.bool true)) (Tm 12))]
def YB:Rg:=[iA 4 (.mv (.const .nils)),iI 5 2]
def aBT:Rg:=[iM 14 0,iA 15 (.call 135 [(Tm 14)]),iM 16 1,iA 17 (.call 135 [(Tm 16)]),iM 0 15,iM 1 17]
def aBU:Rg:=[iM 18 1,iN 19 18,iC 20 .gtr 19 0]
def aBV:Rg:=[iM 22 0,iM 23 1,iA 24 (.call 136 [(Tm 22),(Tm 23)]),iM 21 24,iA 25 (.extract (Tm 21) 0),iA 26 (.extract (Tm 21) 1),iM 6 25,iM 7 26]
def aBW:Rg:=[iM 27 1,iM 28 7,iM 0 27,iM 1 28]
def aBQ:aC:=(.seq (.seq (.region aBU) (.cond (Tm 20) .skip (.exit 0))) (.block 1 (.seq (.region aBV) (.region aBW))))
def aBX:Rg:=[iM 29 0,iM 4 29,iI 5 0]
def GK:aC:=(.seq (.region aBR) (.seq (.seq (.region aBS) (.cond (Tm 13) (.seq (.region YB) .ret) .skip)) (.seq (.region aBT) (.seq (.block 0 (.loop aBQ)) (.seq (.region aBX) .ret)))))
def aVQ:List Nat:=[]
def aqD:bD:=⟨2,30,GK,[.tmp 4,.tmp 5]⟩
def aBK:Rg:=[iA 4 (.mv (.const .nils)),iA 5 (.mv (.const .nils)),iI 6 0]
def aBL:Rg:=[iM 10 0,iA 11 (.call 137 [(Tm 10)]),iM 12 11,iG 13 (.mv (Tm 1)) 12 false,iG 14 (.call 137 [(Tm 13)]) 12 false,iA 15 (.pick (Tm 12) (.const (.bool true)) (Tm 14)),iM 9 15]
def YA:Rg:=[iA 4 (.mv (.const .nils)),iA 5 (.mv (.const .nils)),iI 6 2]
def aBM:Rg:=[iM 17 1,iA 18 (.call 138 [(Tm 17)]),iC 19 .eql 18 0,iM 16 19]
def aBN:Rg:=[iA 4 (.mv (.const .nils)),iA 5 (.mv (.const .nils)),iI 6 3]
def aBO:Rd:=[(iM 21 0,true),(iM 22 0,false),(iA 23 (.call 138 [(Tm 22)]),true),(iA 24 (.slice 1 (Tm 21) none (some (Tm 23)) none),true),(iM 25 1,true),(iM 26 1,true),(iA 27 (.call 138 [(Tm 26)]),true),(iA 28 (.slice 1 (Tm 25) none (some (Tm 27)) none),false),(iA 29 (.call 136 [(Tm 24),(Tm 28)]),true),(iM 20 29,false),(iA 30 (.extract (Tm 20) 0),false),(iA 31 (.extract (Tm 20) 1),false),(iM 7 30,false),(iM 8 31,false)]
def aBP:Rg:=[iM 32 7,iM 33 8,iM 4 32,iM 5 33,iI 6 0]
def GJ:aC:=(.seq (.region aBK) (.seq (.block 0 (.seq (.region aBL) (.cond (Tm 9) (.seq (.region YA) .ret) (.seq (.region aBM) (.cond (Tm 16) (.seq (.region aBN) .ret) .skip))))) (.seq (.draw aBO) (.seq (.region aBP) .ret))))
def aVO:List Nat:=[]
def apZ:bD:=⟨2,34,GJ,[.tmp 4,.tmp 5,.tmp 6]⟩
def acJ:Rg:=[iA 4 (.mv (.const .nils)),iA 5 (.mv (.const (.int .u32 0)))]
def acK:Rg:=[iM 9 0,iN 10 9,iA 11 (.mkslice 1 4 [(.int .u32 0)] (Tm 10) (Tm 10)),iM 6 11]
def acL:Rg:=[iA 7 (.mv (.const (.int .u64 0)))]
def acM:Rg:=[iM 12 0,iN 13 12,iC 14 .sub 13 1,iM 8 14]
def acN:Rg:=[iM 15 8,iC 16 .geq 15 0]
def acO:Rg:=[iM 19 7,iA 20 (.bin .shl (Tm 19) (.const (.int .u64 32))),iM 21 0,iM 22 8,iX 23 1 21 22,iL 24 23,iA 25 (.conv .u64 (Tm 24)),iB 26 .or 20 25,iM 7 26]
def acP:Rg:=[iM 27 6,iM 28 8,iM 29 7,iM 30 1,iA 31 (.conv .u64 (Tm 30)),iB 32 .quo 29 31,iA 33 (.conv .u32 (Tm 32)),iX 34 1 27 28,iS 1 34 33]
def acQ:Rg:=[iM 35 7,iM 36 1,iA 37 (.conv .u64 (Tm 36)),iB 38 .rem 35 37,iM 7 38]
def acR:Rg:=[iM 17 8,iC 18 .sub 17 1,iM 8 18]
def acI:aC:=(.seq (.seq (.region acN) (.cond (Tm 16) .skip (.exit 0))) (.seq (.block 1 (.seq (.region acO) (.seq (.region acP) (.region acQ)))) (.region acR)))
def UB:Rg:=[iM 39 6,iM 40 6,iA 41 (.call 138 [(Tm 40)]),iA 42 (.slice 1 (Tm 39) none (some (Tm 41)) none),iM 43 7,iA 44 (.conv .u32 (Tm 43)),iM 4 42,iM 5 44]
def wZ:aC:=(.seq (.region acJ) (.seq (.region acK) (.seq (.region acL) (.seq (.seq (.region acM) (.block 0 (.loop acI))) (.seq (.region UB) .ret)))))
def aKN:List Nat:=[]
def GP:bD:=⟨2,45,wZ,[.tmp 4,.tmp 5]⟩
def aKR:Rg:=[iA 4 (.mv (.const .nils))]
def aKS:Rg:=[iM 9 0,iN 10 9,iC 11 .add 10 1,iA 12 (.mkslice 1 4 [(.int .u32 0)] (Tm 11) (Tm 11)),iM 5 12]
def aKT:Rg:=[iA 6 (.mv (.const (.int .u64 0)))]
def aKU:Rg:=[iM 13 0,iN 14 13,iI 15 0]
def aKV:Rg:=[iB 16 .lss 15 14]
def aKW:Rg:=[iM 17 15,iX 18 1 13 15,iL 19 18,iM 7 17,iM 8 19]
def aKX:Rg:=[iM 20 6,iM 21 8,iA 22 (.conv .u64 (Tm 21)),iM 23 1,iB 24 .shl 22 23,iB 25 .or 20 24,iM 6 25]
def aKY:Rg:=[iM 26 5,iM 27 7,iM 28 6,iA 29 (.conv .u32 (Tm 28)),iX 30 1 26 27,iS 1 30 29]
def aKZ:Rg:=[iM 31 6,iA 32 (.bin .shr (Tm 31) (.const (.int .u64 32))),iM 6 32]
def aLA:Rg:=[iC 33 .add 15 1,iM 15 33]
def aCI:aC:=(.seq (.region aKV) (.seq (.cond (Tm 16) .skip (.exit 0)) (.seq (.block 1 (.seq (.region aKW) (.seq (.region aKX) (.seq (.region aKY) (.region aKZ))))) (.region aLA))))
def aCJ:Rg:=[iM 34 5,iM 35 0,iN 36 35,iM 37 6,iA 38 (.conv .u32 (Tm 37)),iX 39 1 34 36,iS 1 39 38]
def aCK:Rg:=[iM 40 5,iM 4 40]
def QB:aC:=(.seq (.region aKR) (.seq (.region aKS) (.seq (.region aKT) (.seq (.seq (.region aKU) (.block 0 (.loop aCI))) (.seq (.region aCJ) (.seq (.region aCK) .ret))))))
def aYR:List Nat:=[]
def nup:bD:=⟨2,41,QB,[.tmp 4]⟩
def TR:Rg:=[iA 4 (.mv (.const .nils)),iA 5 (.mv (.const .nils))]
def TS:Rg:=[iM 21 0,iM 22 1,iA 23 (.call 129 [(Tm 21),(Tm 22)]),iC 24 .lss 23 0]
def TT:Rg:=[iM 25 0,iA 26 (.call 135 [(Tm 25)]),iA 4 (.mv (.const .nils)),iM 5 26]
def TU:Rg:=[iM 27 1,iN 28 27,iC 29 .eql 28 1]
def TV:Rg:=[iM 31 0,iM 32 1,iA 33 (.idxS 1 (Tm 32) (Ci 0)),iL 34 33,iA 35 (.call 140 [(Tm 31),(Tm 34)]),iM 30 35,iA 36 (.extract (Tm 30) 0),iA 37 (.extract (Tm 30) 1),iM 6 36,iM 7 37]
def TW:Rg:=[iM 38 6,iM 39 7,iA 40 (.conv .u64 (Tm 39)),iA 41 (.call 132 [(Tm 40)]),iM 4 38,iM 5 41]
def TX:Rg:=[iA 8 (.mv (.const (.int .u64 0)))]
def TY:Rg:=[iM 42 1,iM 43 1,iN 44 43,iC 45 .sub 44 1,iX 46 1 42 45,iL 47 46,iM 48 8,iB 49 .shl 47 48,iA 50 (.bin .lss (Tm 49) (.const (.int .u32 2147483648)))]
def TZ:Rg:=[iM 51 8,iA 52 (.bin .add (Tm 51) (.const (.int .u64 1))),iM 8 52]
def TQ:aC:=(.seq (.seq (.region TY) (.cond (Tm 50) .skip (.exit 0))) (.block 1 (.region TZ)))
def LF:Rd:=[(iM 53 0,false),(iM 54 8,false),(iA 55 (.call 143 [(Tm 53),(Tm 54)]),true),(iM 56 1,true),(iM 57 8,true),(iA 58 (.call 143 [(Tm 56),(Tm 57)]),true),(iM 59 1,true),(iN 60 59,true),(iA 61 (.slice 1 (Tm 58) none (some (Tm 60)) none),false),(iM 9 55,false),(iM 10 61,false)]
def LG:Rg:=[iM 62 10,iN 63 62,iM 11 63]
def LH:Rg:=[iM 64 9,iN 65 64,iM 66 11,iB 67 .sub 65 66,iA 68 (.mkslice 1 4 [(.int .u32 0)] (Tm 67) (Tm 67)),iM 12 68]
def LJ:Rd:=[(iM 69 10,false),(iM 70 11,false),(iC 71 .sub 70 1,false),(iX 72 1 69 71,false),(iL 73 72,false),(iA 74 (.conv .u64 (Tm 73)),false),(iM 75 10,false),(iM 76 11,false),(iC 77 .sub 76 2,false),(iX 78 1 75 77,false),(iL 79 78,false),(iA 80 (.conv .u64 (Tm 79)),false),(iM 13 74,false),(iM 14 80,false)]
def LK:Rg:=[iM 81 12,iN 82 81,iC 83 .sub 82 1,iM 15 83]
def LL:Rg:=[iM 84 15,iC 85 .geq 84 0]
def wN:Rd:=[(iM 88 9,false),(iM 89 15,false),(iM 90 11,false),(iB 91 .add 89 90,false),(iX 92 1 88 91,false),(iL 93 92,false),(iA 94 (.conv .u64 (Tm 93)),false),(iA 95 (.bin .shl (Tm 94) (.const (.int .u64 32))),false),(iM 96 9,false),(iM 97 15,false),(iM 98 11,false),(iB 99 .add 97 98,false),(iC 100 .sub 99 1,false),(iX 101 1 96 100,false),(iL 102 101,false),(iA 103 (.conv .u64 (Tm 102)),false),(iB 104 .or 95 103,false),(iM 16 104,false)]
def wO:Rd:=[(iM 105 16,false),(iM 106 13,false),(iB 107 .quo 105 106,false),(iM 108 16,false),(iM 109 13,false),(iB 110 .rem 108 109,false),(iM 17 107,false),(iM 18 110,false)]
def LM:Rg:=[iM 111 17,iA 112 (.bin .geq (Tm 111) (.const (.int .u64 4294967296))),iM 113 112,iG 114 (.mv (Tm 17)) 113 false,iG 115 (.mv (Tm 14)) 113 false,iG 116 (.bin .mul (Tm 114) (Tm 115)) 113 false,iG 117 (.mv (Tm 18)) 113 false,iG 118 (.bin .shl (Tm 117) (.const (.int .u64 32))) 113 false,iG 119 (.mv (Tm 9)) 113 false,iG 120 (.mv (Tm 15)) 113 false,iG 121 (.mv (Tm 11)) 113 false,iG 122 (.bin .add (Tm 120) (Tm 121)) 113 false,iG 123 (.bin .sub (Tm 122) (Ci 2)) 113 false,iG 124 (.idxS 1 (Tm 119) (Tm 123)) 113 false,iG 125 (.load none (Tm 124)) 113 false,iG 126 (.conv .u64 (Tm 125)) 113 false,iG 127 (.bin .or (Tm 118) (Tm 126)) 113 false,iG 128 (.bin .gtr (Tm 116) (Tm 127)) 113 false,iA 129 (.pick (Tm 113) (.const (.bool true)) (Tm 128))]
def wP:Rg:=[iM 130 17,iA 131 (.bin .sub (Tm 130) (.const (.int .u64 1))),iM 17 131]
def wQ:Rg:=[iM 132 18,iM 133 13,iB 134 .add 132 133,iM 18 134]
def wR:Rg:=[iM 135 18,iA 136 (.bin .geq (Tm 135) (.const (.int .u64 4294967296)))]
def qP:aC:=(.seq (.seq (.region LM) (.cond (Tm 129) .skip (.exit 4))) (.block 5 (.seq (.region wP) (.seq (.region wQ) (.seq (.region wR) (.cond (Tm 136) (.exit 4) .skip))))))
def wS:Rg:=[iM 137 9,iM 138 15,iM 139 15,iM 140 11,iB 141 .add 139 140,iC 142 .add 141 1,iA 143 (.slice 1 (Tm 137) (some (Tm 138)) (some (Tm 142)) none),iM 144 10,iM 145 17,iA 146 (.call 142 [(Tm 143),(Tm 144),(Tm 145)])]
def wT:Rg:=[iM 147 17,iA 148 (.bin .sub (Tm 147) (.const (.int .u64 1))),iM 17 148]
def wU:Rg:=[iM 149 9,iM 150 15,iM 151 15,iM 152 11,iB 153 .add 151 152,iC 154 .add 153 1,iA 155 (.slice 1 (Tm 149) (some (Tm 150)) (some (Tm 154)) none),iM 156 10,iA 157 (.call 139 [(Tm 155),(Tm 156)])]
def qQ:Rg:=[iM 158 12,iM 159 15,iM 160 17,iA 161 (.conv .u32 (Tm 160)),iX 162 1 158 159,iS 1 162 161]
def LN:Rg:=[iM 86 15,iC 87 .sub 86 1,iM 15 87]
def wL:aC:=(.seq (.seq (.region LL) (.cond (Tm 85) .skip (.exit 2))) (.seq (.block 3 (.seq (.draw wN) (.seq (.draw wO) (.seq (.block 4 (.loop qP)) (.seq (.seq (.region wS) (.cond (Tm 146) (.seq (.region wT) (.region wU)) .skip)) (.region qQ)))))) (.region LN)))
def wV:Rg:=[iM 163 11,iA 164 (.mkslice 1 4 [(.int .u32 0)] (Tm 163) (Tm 163)),iM 19 164]
def wW:Rg:=[iM 165 19,iN 166 165,iI 167 0]
def LO:Rg:=[iB 168 .lss 167 166]
def LP:Rg:=[iM 169 167,iM 20 169]
def LQ:Rd:=[(iM 170 19,false),(iM 171 20,false),(iM 172 9,false),(iM 173 20,false),(iC 174 .add 173 1,false),(iX 175 1 172 174,false),(iL 176 175,false),(iA 177 (.conv .u64 (Tm 176)),false),(iA 178 (.bin .shl (Tm 177) (.const (.int .u64 32))),false),(iM 179 9,false),(iM 180 20,false),(iX 181 1 179 180,false),(iL 182 181,false),(iA 183 (.conv .u64 (Tm 182)),false),(iB 184 .or 178 183,false),(iM 185 8,false),(iB 186 .shr 184 185,false),(iA 187 (.conv .u32 (Tm 186)),false),(iX 188 1 170 171,false),(iS 1 188 187,true)]
def LS:Rg:=[iC 189 .add 167 1,iM 167 189]
def wM:aC:=(.seq (.region LO) (.seq (.cond (Tm 168) .skip (.exit 6)) (.seq (.block 7 (.seq (.region LP) (.draw LQ))) (.region LS))))
def LT:Rd:=[(iM 190 12,true),(iM 191 12,false),(iA 192 (.call 138 [(Tm 191)]),true),(iA 193 (.slice 1 (Tm 190) none (some (Tm 192)) none),true),(iM 194 19,true),(iM 195 19,true),(iA 196 (.call 138 [(Tm 195)]),true),(iA 197 (.slice 1 (Tm 194) none (some (Tm 196)) none),false),(iM 4 193,false),(iM 5 197,false)]
def tU:aC:=(.seq (.region TR) (.seq (.seq (.region TS) (.cond (Tm 24) (.seq (.region TT) .ret) .skip)) (.seq (.seq (.region TU) (.cond (Tm 29) (.seq (.region TV) (.seq (.region TW) .ret)) .skip)) (.seq (.region TX) (.seq (.block 0 (.loop TQ)) (.seq (.draw LF) (.seq (.region LG) (.seq (.region LH) (.seq (.draw LJ) (.seq (.seq (.region LK) (.block 2 (.loop wL))) (.seq (.region wV) (.seq (.seq (.region wW) (.block 6 (.loop wM))) (.seq (.draw LT) .ret)))))))))))))
def aGH:List Nat:=[]
def yO:bD:=⟨2,198,tU,[.tmp 4,.tmp 5]⟩
def GT:Rg:=[iA 6 (.mv (.const (.bool false)))]
def GU:Rg:=[iA 7 (.mv (.const (.int .u64 0))),iA 8 (.mv (.const (.int .u64 0)))]
def GW:Rg:=[iM 13 1,iN 14 13,iI 15 0]
def GX:Rg:=[iB 16 .lss 15 14]
def GY:Rg:=[iM 17 15,iX 18 1 13 15,iL 19 18,iM 9 17,iM 10 19]
def GZ:Rg:=[iM 20 7,iM 21 2,iM 22 10,iA 23 (.conv .u64 (Tm 22)),iB 24 .mul 21 23,iB 25 .add 20 24,iM 7 25]
def HA:Rg:=[iM 26 0,iM 27 9,iX 28 1 26 27,iL 29 28,iA 30 (.conv .u64 (Tm 29)),iM 31 7,iA 32 (.bin .and (Tm 31) (.const (.int .u64 4294967295))),iB 33 .sub 30 32,iM 34 8,iB 35 .sub 33 34,iM 11 35]
def HB:Rg:=[iM 36 0,iM 37 9,iM 38 11,iA 39 (.conv .u32 (Tm 38)),iX 40 1 36 37,iS 1 40 39]
def HC:Rg:=[iM 41 11,iA 42 (.bin .shr (Tm 41) (.const (.int .u64 63))),iM 8 42]
def HD:Rg:=[iM 43 7,iA 44 (.bin .shr (Tm 43) (.const (.int .u64 32))),iM 7 44]
def DQ:Rg:=[iC 45 .add 15 1,iM 15 45]
def DP:aC:=(.seq (.region GX) (.seq (.cond (Tm 16) .skip (.exit 0)) (.seq (.block 1 (.seq (.region GY) (.seq (.region GZ) (.seq (.region HA) (.seq (.region HB) (.seq (.region HC) (.region HD))))))) (.region DQ))))
def DR:Rg:=[iM 46 0,iM 47 1,iN 48 47,iX 49 1 46 48,iL 50 49,iA 51 (.conv .u64 (Tm 50)),iM 52 7,iB 53 .sub 51 52,iM 54 8,iB 55 .sub 53 54,iM 12 55]
def DS:Rg:=[iM 56 0,iM 57 1,iN 58 57,iM 59 12,iA 60 (.conv .u32 (Tm 59)),iX 61 1 56 58,iS 1 61 60]
def DT:Rg:=[iM 62 12,iA 63 (.bin .shr (Tm 62) (.const (.int .u64 63))),iA 64 (.bin .eql (Tm 63) (.const (.int .u64 1))),iM 6 64]
def qC:aC:=(.seq (.region GT) (.seq (.region GU) (.seq (.seq (.region GW) (.block 0 (.loop DP))) (.seq (.region DR) (.seq (.region DS) (.seq (.region DT) .ret))))))
def aqX:List Nat:=[]
def rK:bD:=⟨3,65,qC,[.tmp 6]⟩
def LZ:Rg:=[iA 4 (.mv (.const (.int .u64 0)))]
def MA:Rg:=[iM 7 1,iN 8 7,iI 9 0]
def MB:Rg:=[iB 10 .lss 9 8]
def MC:Rg:=[iM 11 9,iX 12 1 7 9,iL 13 12,iM 5 11,iM 6 13]
def MD:Rg:=[iM 14 4,iM 15 0,iM 16 5,iX 17 1 15 16,iL 18 17,iA 19 (.conv .u64 (Tm 18)),iM 20 6,iA 21 (.conv .u64 (Tm 20)),iB 22 .add 19 21,iB 23 .add 14 22,iM 4 23]
def ME:Rg:=[iM 24 0,iM 25 5,iM 26 4,iA 27 (.conv .u32 (Tm 26)),iX 28 1 24 25,iS 1 28 27]
def MF:Rg:=[iM 29 4,iA 30 (.bin .shr (Tm 29) (.const (.int .u64 32))),iM 4 30]
def MG:Rg:=[iC 31 .add 9 1,iM 9 31]
def LW:aC:=(.seq (.region MB) (.seq (.cond (Tm 10) .skip (.exit 0)) (.seq (.block 1 (.seq (.region MC) (.seq (.region MD) (.seq (.region ME) (.region MF))))) (.region MG))))
def MH:Rg:=[iM 32 0,iM 33 1,iN 34 33,iX 35 1 32 34,iL 36 35,iM 37 4,iA 38 (.conv .u32 (Tm 37)),iB 39 .add 36 38,iX 40 1 32 34,iS 1 40 39]
def rU:aC:=(.seq (.region LZ) (.seq (.seq (.region MA) (.block 0 (.loop LW))) (.region MH)))
def awJ:List Nat:=[]
def tV:bD:=⟨2,41,rU,[]⟩
end Go.PM
namespace Go.PM
open Go Go.RowKit Go.ChangeShapes Go.WideShapes
inductive AT where
 | one (ct:CT)
 | struct (cts:List CT)
 deriving Inhabited
def aED (P:Program) (n:Nat) (t:TypeId):Option AT :=
 match P.underlying t with
 | some .bool=>some (.one .bool)
 | some (.int k)=>some (.one (.int k))
 | some .string=>some (.one .str)
 | some (.slice _)=>match fM P n t with
  | some [ct]=>some (.one ct)
  | _=>none
 | some (.struct _)=>(fM P n t).map .struct
 | _=>none
def yD (P:Program) (n:Nat):List TypeId→Option (List AT)
 | []=>some []
 | t::ts=>match aED P n t,yD P n ts with
  | some a,some az=>some (a::az)
  | _,_=>none
inductive AT.Ty:AT→PV→Prop
 | one {ct:CT} {pv:PV} (h:PV.Ty ct pv):AT.Ty (.one ct) pv
 | struct {cts:List CT} {pvs:List PV} (hl:pvs.length=cts.length) (h:∀ (j:Nat) pv ct,pvs[j]?=some pv→cts[j]?=some ct→PV.Ty ct pv):AT.Ty (.struct cts) (.agg pvs)
def AT.TyL:List AT→List PV→Prop
 | [],[]=>True
 | a::az,p::ps=>AT.Ty a p∧AT.TyL az ps
 | _,_=>False
section
variable {H:Type} {enc:TypeId × Value→H} {P:Program} {W:World} {sp:Nat→Bool} {held:Bool}
theorem aXY {r:Reach} {base:Nat} (num:Nat→FuncId) {t:TypeId} {v:Value} {d:DataW H} {ps:List MemPlace} {n:Nat} {a:AT}
  (hval:Value.okWide P W r base t v) (hd:DataW.Trod enc P W 0 sp held t v d ps) (ha:aED P n t=some a):∃ pv,aR (Env.of W num) pv v∧AT.Ty a pv:=by
 unfold aED at ha
 cases n with
 | zero =>
  split at ha
  ·rename_i hu
   cases ha
   obtain⟨b,rfl⟩:=okWide_bool hu hval
   obtain⟨pv,h1,h2⟩:=pS (n:=1) (ct:=.bool) num (by simp[Value.cells]) hd (by simp[fM,hu])
   exact⟨pv,h1,.one h2⟩
  ·rename_i k hu
   cases ha
   obtain⟨b,rfl⟩:=okWide_int hu hval
   obtain⟨pv,h1,h2⟩:=pS (n:=1) (ct:=.int k) num (by simp[Value.cells]) hd (by simp[fM,hu])
   exact⟨pv,h1,.one h2⟩
  ·rename_i hu
   cases ha
   obtain⟨b,rfl⟩:=okWide_string hu hval
   obtain⟨pv,h1,h2⟩:=pS (n:=1) (ct:=.str) num (by simp[Value.cells]) hd (by simp[fM,hu])
   exact⟨pv,h1,.one h2⟩
  ·simp[fM] at ha
  ·simp[fM] at ha
  ·cases ha
 | succ n =>
  split at ha
  ·rename_i hu
   cases ha
   obtain⟨b,rfl⟩:=okWide_bool hu hval
   obtain⟨pv,h1,h2⟩:=pS (n:=n+1) (ct:=.bool) num (by simp[Value.cells]) hd (by simp[fM,hu])
   exact⟨pv,h1,.one h2⟩
  ·rename_i k hu
   cases ha
   obtain⟨b,rfl⟩:=okWide_int hu hval
   obtain⟨pv,h1,h2⟩:=pS (n:=n+1) (ct:=.int k) num (by simp[Value.cells]) hd (by simp[fM,hu])
   exact⟨pv,h1,.one h2⟩
  ·rename_i hu
   cases ha
   obtain⟨b,rfl⟩:=okWide_string hu hval
   obtain⟨pv,h1,h2⟩:=pS (n:=n+1) (ct:=.str) num (by simp[Value.cells]) hd (by simp[fM,hu])
   exact⟨pv,h1,.one h2⟩
  ·rename_i e hu
   split at ha
   ·rename_i ct hc
    cases ha
    obtain⟨x,len,cap,rfl⟩:=okWide_slice hu hval
    obtain⟨pv,h1,h2⟩:=pS num (by simp[Value.cells]) hd hc
    exact⟨pv,h1,.one h2⟩
   ·cases ha
  ·rename_i fs hu
   rw[baK] at ha
   obtain⟨cts,hc,rfl⟩:=ha
   obtain⟨pvs,h1,h2,h3⟩:=aEE num hu hval hd hc
   exact⟨_,h1,.struct h2 h3⟩
  ·cases ha
theorem awY {r:Reach} {base:Nat} (num:Nat→FuncId) {n:Nat}:∀ {ts:List TypeId} {vs:List Value} {ds:List (DataW H)} {ps:List MemPlace} {az:List AT},DataW.TrodAll enc P W 0 sp held ts vs ds ps →
  (∀ (j:Nat) t v,ts[j]?=some t→vs[j]?=some v→Value.okWide P W r base t v)→yD P n ts=some az→∃ pvs,eD (Env.of W num) pvs vs∧AT.TyL az pvs
 | [],[],_,_,az,_,_,h=>by
  simp[yD] at h
  subst h
  exact⟨[],.nil,trivial⟩
 | [],_::_,_,_,_,h,_,_=>h.elim
 | _::_,[],[],_,_,h,_,_=>h.elim
 | _::_,[],_::_,_,_,h,_,_=>h.elim
 | _::_,_::_,[],_,_,h,_,_=>h.elim
 | t::ts,v::vs,d::ds,ps,az,h,hv,ha=>by
  obtain⟨p,q,h1,h2,rfl⟩:=h
  simp only[yD] at ha
  split at ha
  ·rename_i a as' e1 e2
   cases ha
   obtain⟨pv,r1,t1⟩:=aXY num (hv 0 t v rfl rfl) h1 e1
   obtain⟨pvs,r2,t2⟩:=awY num h2 (fun j t v a b=>hv (j+1) t v (by simpa using a) (by simpa using b)) e2
   exact⟨pv::pvs,.cons r1 r2,t1,t2⟩
  ·cases ha
theorem TrodAll.length:∀ {ts:List TypeId} {vs:List Value} {ds:List (DataW H)} {ps:List MemPlace},DataW.TrodAll enc P W 0 sp held ts vs ds ps→ds.length=ts.length
 | [],[],[],_,_=>rfl
 | [],[],_::_,_,h=>h.elim
 | [],_::_,_,_,h=>h.elim
 | _::_,[],[],_,h=>h.elim
 | _::_,[],_::_,_,h=>h.elim
 | _::_,_::_,[],_,h=>h.elim
 | t::ts,v::vs,d::ds,ps,h=>by
  obtain⟨p,q,h1,h2,rfl⟩:=h
  simp[TrodAll.length h2]
end
theorem aiT {H:Type} {enc:TypeId × Value→H} {P:Program} {f:FuncId} {fn:Func} {s:ChangeSpec} {apart fresh handsOn:Bool} {bt:TypeId} {num:Nat→FuncId} {name n:Nat} {ats:List AT}
  (hl:laidOutB P=true) (hts:fn.params.toList.all (fun t=>P.readableRec t&&decide (t<P.types.size))=true) (hrt:fn.resultTypes=#[bt]) (hbt:P.underlying bt=some .bool) (hv:s.vars=[])
  (hs:∀ ds:List (DataW H),ds.length=fn.params.toList.length→(s.fn H ds).results=[.lit (.bool true)]∧(s.fn H ds).args=ds∧(s.fn H ds).vars=[])
  (hnum:num name=f) (ha:yD P n fn.params.toList=some ats) (h:∀ pvs,AT.TyL ats pvs→aJ ⟨P,num⟩ name pvs PH.nil (aK (.bool true)))
  {W:World} {base:Nat} {args:Array Value} {ds gs:List (DataW H)} {before:List MemPlace}
  (hval:∀ (j:Nat) t v,fn.params[j]?=some t→args[j]?=some v→Value.okWide P W .any base t v) (hW:DataW.Whole enc P fn.params.toList s.vars apart W args.toList ds gs before) :
  Calls P f args W fun e W'=>∃ v,e=.returned v∧s.post enc P fn apart fresh handsOn false W args v W':=by
 have hts':∀ t∈fn.params.toList,P.readableRec t=true∧t<P.types.size:=fun t ht=>by
  have:=bbQ.1 hts t ht
  simpa using this
 have hW':=hW
 obtain⟨p,q,hA,hV,rfl,hz,hn⟩:=hW
 rw[hv] at hV
 obtain⟨rfl,rfl⟩:=trodVars_none hV
 obtain⟨pvs,hr,ht⟩:=awY num hA (fun j t v a b=>hval j t v (by simpa using a) (by simpa using b)) ha
 have hlen:=TrodAll.length hA
 subst hnum
 obtain⟨r1,r2,r3⟩:=hs (ds++[]) (by simpa using hlen)
 refine (aJF (C:=⟨P,num⟩) (h pvs ht) hr).mono fun e W' he=>?_
 obtain⟨rfl,hb⟩:=he
 exact⟨_,rfl,aLH hl hW' hb hts' hrt hbt hv r1 (by rw[r2]; simp) r3⟩
end Go.PM
namespace Go.PM
open Go
attribute [go_sem] qJ gF setCells PV.cells PV.one cA storeAt cT loadCells dH bnd PV.slice PV.intOf PV.eqs PV.eq1 PV.un keyOf KS.of KS.ofs KS.sh List.all_cons List.all_nil List.set_cons_zero List.set_cons_succ bbC bcY baT bbV bbQ Bool.and_self
attribute [go_sem] Bool.bne_false Bool.bne_true Int.le_refl Int.lt_irrefl decide_true decide_false exists_eq_left exists_eq_left' baF List.length_replicate bdD Int.natCast_nonneg Option.isSome_some Option.isSome_none bcX Option.getD_none decide_eq_true_eq decide_eq_false_iff_not bbF bcH baJ Nat.sub_zero
def dE (xs:List Int):List (List PV):=xs.map fun n=>[.int .i64 n]
theorem bE {a b:Int} (h:a≠b):(a==b)=false:=by simp[h]
theorem bS {a b:Int} (h:a=b):(a==b)=true:=by simp[h]
theorem dP {a b:Int} (h:a≠b):(a != b)=true:=by simp[h]
theorem cH {a b:Int} (h:a=b):(a != b)=false:=by simp[h]
section
variable {H:PH}
@[go_sem] theorem PH.set_set (o:Nat) (x y:bX):(H.set o x).set o y=H.set o y:=PH.ext fun q=>by
 simp only[aU]; split<;>rfl
@[go_sem] theorem jK (o:Nat) (x:bX):(H.set o x) o=some x:=by simp only[aU,if_true]
end
end Go.PM
namespace Go.PM
open Go
section
variable {C:Ctx} {K:cD} {F:PF} {H:PH}
theorem PH.lT (o:Nat) (x:bX):H.over .nil (PH.nil.set o x)=H.set o x:=PH.ext fun q=>by
 rw[kV]; simp only[aU,XK]; split<;>simp_all
theorem PH.pJ (o:Nat) (x y:bX):H.over (PH.nil.set o x) (PH.nil.set o y)=H.set o y:=PH.ext fun q=>by
 rw[kV]; simp only[aU,XK]; split<;>simp_all
theorem mU {name:Nat} {vs:List PV} {H0:PH} {R:PV→PH→Prop} {args:List aM} {d:Option Nat} {K:PF→PH→Prop} (h:aJ C name vs H0 R) (ha:aM.evs F args=some vs) (hle:H0.le H)
  (hk:∀ r H',R r H'→kZ H H0 H'→K (F.put d r) (H.over H0 H')):gT C name args [] d K F H :=
 .inl ⟨vs,H0,R,by rw[ha]; simp,hle,h,hk⟩
theorem aY {res:List eA} {R:PV→PH→Prop} {vs:List PV} {e:kG} (he:e=.normal∨e=.ret) (H0:PH) (h:eA.evs F H res=some vs) (hle:H0.le H) (hR:R (cU vs) H0):aZ res R e F H:=by
 have key:∃ vs,eA.evs F H res=some vs∧∃ F1 H1 H2,gV (PF.nil.set 0 (cU vs)) H F1 H1∧H2.le H1∧∃ u,F1 0=some u∧R u H2 :=
  ⟨vs,h,_,H,H0,.refl _ _,hle,cU vs,by rw[kP,if_pos rfl],hR⟩
 rcases he with rfl | rfl<;>exact key
theorem arR {t o s k:Nat} {rs:List (List PV)} {R:PV→PH→Prop} {e:kG} (he:e=.normal∨e=.ret) (h:F t=some (.osl o s 0 k)) (ho:H o=some (.rows s rs)) (hk:k≤rs.length) (hR:R (.sl s (rs.take k)) .nil) :
  aZ [.tmp t] R e F H:=by
 have key:∃ vs,eA.evs F H [.tmp t]=some vs∧∃ F1 H1 H2,gV (PF.nil.set 0 (cU vs)) H F1 H1∧H2.le H1∧∃ u,F1 0=some u∧R u H2:=by
  refine⟨[.osl o s 0 k],by rw[jR,kW,h,mQ],_,_,.nil,.step o ho (.refl _ _),PH.nil_le,.sl s (rs.take k),?_,hR⟩
  have:0+k≤rs.length:=by omega
  simp only[PF.frz,kP,if_true,cU,bbN,PV.frz,PV.pA,PV.cZ,true_and,if_pos this,bbG]
 rcases he with rfl | rfl<;>exact key
def bW (v:PV) (r:PV) (H:PH):Prop:=Co r v∧H=PH.nil
theorem uJ {s b:Nat} {y:PV} {src:List (List PV)} {K:PV→PH→Prop} (hy:dH H s y=some src) (hr:roomFor 0 src.length b) (h0:src=[]→K .nils H)
  (h1:src≠[]→∀ o,H o=none→K (.osl o s 0 src.length) (H.set o (.rows s src))):mA H s b .nils y K:=⟨src,hy,hr,h0,h1⟩
theorem avP {o s b len:Nat} {rs:List (List PV)} {y:PV} {src:List (List PV)} {K:PV→PH→Prop} (hy:dH H s y=some src) (hr:roomFor len src.length b) (ho:H o=some (.rows s rs)) (hl:len≤rs.length)
  (h0:K (.osl o s 0 (len+src.length)) (H.set o (.rows s (rs.take len++src))))
  (h1:∀ o',H o'=none→K (.osl o' s 0 (len+src.length)) ((H.set o .dead).set o' (.rows s (rs.take len++src)))):mA H s b (.osl o s 0 len) y K :=
 ⟨src,hy,rfl,rfl,hr,rs,ho,hl,h0,h1⟩
end
end Go.PM
namespace Go.PM
open Go
def bA (H:PH) (s:Nat) (v:PV) (rows:List (List PV)):Prop :=
 (rows=[]∧v=.nils)∨∃ q rs,v=.osl q s 0 rows.length∧H q=some (.rows s rs)∧rows.length≤rs.length∧rs.take rows.length=rows
def Seen (s:Nat) (v:PV) (rows:List (List PV)):Prop:=(rows=[]∧v=.nils)∨v=.sl s rows
section
variable {C:Ctx} {K:cD} {F:PF} {H:PH} {s b:Nat} {v y:PV} {rows src:List (List PV)}
theorem bA.nil:bA H s .nils []:=.inl ⟨rfl,rfl⟩
theorem bA.view (h:bA H s v rows):dH H s v=some rows:=by
 rcases h with ⟨rfl,rfl⟩ | ⟨q,rs,rfl,h1,h2,h3⟩
 ·rfl
 ·have:0+rows.length≤rs.length:=by omega
  simp only[dH,if_true,h1,true_and,if_pos this,bbG,h3]
theorem Seen.view (h:Seen s v rows):dH H s v=some rows:=by
 rcases h with ⟨rfl,rfl⟩ | rfl
 ·rfl
 ·simp[dH]
theorem bA.ext {H':PH} (h:bA H s v rows) (hk:∀ o x,H o=some x→H' o=some x):bA H' s v rows:=by
 rcases h with h | ⟨q,rs,h0,h1,h2,h3⟩
 ·exact .inl h
 ·exact .inr ⟨q,rs,h0,hk q _ h1,h2,h3⟩
theorem eZ {K:PV→PH→Prop} (h:bA H s v rows) (hy:dH H s y=some src) (hr:roomFor rows.length src.length b)
  (hk:∀ v' H',bA H' s v' (rows++src)→(∀ o x,H o=some x→(∀ l,v≠.osl o s 0 l)→H' o=some x)→K v' H'):mA H s b v y K:=by
 rcases h with ⟨rfl,rfl⟩ | ⟨q,rs,rfl,h1,h2,h3⟩
 ·refine⟨src,hy,hr,fun e=>?_,fun e o ho=>?_⟩
  ·subst e
   exact hk _ _ (.inl ⟨rfl,rfl⟩) fun o x ho _=>ho
  ·refine hk _ _ (.inr ⟨o,src,rfl,by simp only[aU,if_true],baJ _,by simp⟩) fun o' x ho' _=>?_
   have:o'≠o:=by rintro rfl; rw[ho] at ho'; cases ho'
   simp only[aU,if_neg this,ho']
 ·have hlen:(rows++src).length=rows.length+src.length:=baI
  refine⟨src,hy,rfl,rfl,hr,rs,h1,h2,?_,fun o ho=>?_⟩
  ·rw[h3]
   refine hk _ _ (.inr ⟨q,rows++src,by rw[hlen],by simp only[aU,if_true],baJ _,bbP⟩) fun o' x ho' hne=>?_
   have:o'≠q:=by rintro rfl; exact hne _ rfl
   simp only[aU,if_neg this,ho']
  ·rw[h3]
   refine hk _ _ (.inr ⟨o,rows++src,by rw[hlen],by simp only[aU,if_true],baJ _,bbP⟩) fun o' x ho' hne=>?_
   have h5:o'≠q:=by rintro rfl; exact hne _ rfl
   have h6:o'≠o:=by rintro rfl; rw[ho] at ho'; cases ho'
   simp only[aU,if_neg h5,if_neg h6,ho']
def Pure (u:PV):Prop:=∀ q s rs,PV.frz q s rs u=u
theorem bA.frz (h:bA H s v rows):∃ v1,Seen s v1 rows∧∀ F:PF,∃ F1 H1,gV F H F1 H1∧(∀ t,F t=some v→F1 t=some v1)∧∀ i u,F i=some u→Pure u→F1 i=some u:=by
 rcases h with ⟨rfl,rfl⟩ | ⟨q,rs,rfl,h1,h2,h3⟩
 ·exact⟨.nils,.inl ⟨rfl,rfl⟩,fun F=>⟨F,H,.refl _ _,fun t h=>h,fun i u h _=>h⟩⟩
 ·refine⟨.sl s rows,.inr rfl,fun F=>⟨_,_,.step q h1 (.refl _ _),fun t ht=>?_,fun i u hi hp=>?_⟩⟩
  ·have:0+rows.length≤rs.length:=by omega
   simp only[PF.frz,ht,bbN,PV.frz,PV.pA,PV.cZ,if_true,true_and,if_pos this,bbG,h3]
  ·simp only[PF.frz,hi,bbN]
   rw[hp]
theorem mP {t:Nat} {e:kG} (he:e=.normal∨e=.ret) (h:bA H s v rows) (ht:F t=some v):aZ [.tmp t] (bW (.sl s rows)) e F H:=by
 rcases h with ⟨rfl,rfl⟩ | ⟨q,rs,rfl,h1,h2,h3⟩
 ·exact aY (vs:=[.nils]) he .nil (by rw[jR,kW,ht,mQ]) PH.nil_le ⟨.nil s,rfl⟩
 ·exact arR he ht h1 h2 ⟨by rw[h3]; exact .refl _,rfl⟩
end
end Go.PM
namespace Go.PM
open Go
section
variable {C:Ctx} {F:PF} {H:PH}
@[go_sem] theorem rF (o s:Nat) (rs:List (List PV)) (i:Nat):(F.frz o s rs) i=(F i).map (PV.frz o s rs):=rfl
theorem mT {name t o s k:Nat} {rs:List (List PV)} {v:PV} {d:Option Nat} {K:PF→PH→Prop} (h:aJ C name [.sl s (rs.take k)] .nil (aK v)) (ht:F t=some (.osl o s 0 k)) (ho:H o=some (.rows s rs)) (hk:k≤rs.length)
  (hK:K ((F.frz o s rs).put d v) (H.frz o s rs)):gT C name [.tmp t] [] d K F H:=by
 refine .inr ⟨_,_,.step o ho (.refl _ _),[.sl s (rs.take k)],.nil,aK v,?_,PH.nil_le,h,?_⟩
 ·have:0+k≤rs.length:=by omega
  simp only[zL,JN,RJ,rF,ht,bbN,PV.frz,PV.pA,PV.cZ,if_true,true_and,if_pos this,bbG,bbY]
 ·rintro r H' ⟨rfl,rfl⟩ -
  rw[PH.tX]
  exact hK
end
end Go.PM
namespace Go.Na
def val:List Nat→Nat
 | []=>0
 | x::xs=>x+4294967296*val xs
def Lim (xs:List Nat):Prop:=∀ x∈xs,x<4294967296
def aG (n:Nat):List Nat:=if h:n=0 then [] else (n%4294967296)::aG (n/4294967296)
termination_by n
decreasing_by exact Nat.div_lt_self (bcQ h) (by decide)
def nl (n:Nat):Nat:=(aG n).length
theorem eU:aG 0=[]:=by rw[aG]; simp
theorem oC {n:Nat} (h:n≠0):aG n=(n%4294967296)::aG (n/4294967296):=by rw[aG]; simp[h]
theorem kT {n:Nat} (h:n≠0) (hb:n<4294967296):aG n=[n]:=by
 rw[oC h,bbH hb,bdI hb,eU]
theorem aV (n:Nat):val (aG n)=n:=by
 induction n using Nat.strongRecOn with
 | _ n ih =>
  by_cases h:n=0
  ·subst h; rw[eU]; rfl
  ·rw[oC h,val,ih _ (Nat.div_lt_self (bcQ h) (by decide))]
   exact Nat.mod_add_div n 4294967296
theorem bB (n:Nat):Lim (aG n):=by
 induction n using Nat.strongRecOn with
 | _ n ih =>
  by_cases h:n=0
  ·subst h; rw[eU]; intro x hx; cases hx
  ·rw[oC h]
   intro x hx
   rw[baP] at hx
   rcases hx with rfl | hx
   ·exact bbM _ (by decide)
   ·exact ih _ (Nat.div_lt_self (bcQ h) (by decide)) x hx
theorem tD:nl 0=0:=by rw[nl,eU]; rfl
theorem aKI {n:Nat} (h:n≠0):nl n=nl (n/4294967296)+1:=by rw[nl,oC h]; rfl
theorem gB (n k:Nat):nl n≤k↔n<4294967296 ^ k:=by
 induction k generalizing n with
 | zero =>
  by_cases h:n=0
  ·subst h; simp[tD]
  ·rw[aKI h]; simp; omega
 | succ k ih =>
  by_cases h:n=0
  ·subst h; simp[tD,bcR]
  ·rw[aKI h,Nat.succ_le_succ_iff,ih,bbS,bcV (by decide)]
theorem gZ {n:Nat}:nl n=0↔n=0:=by
 have:=gB n 0
 simp at this
 exact this
theorem eW (xs ys:List Nat):val (xs++ys)=val xs+4294967296 ^ xs.length*val ys:=by
 induction xs with
 | nil=>simp[val]
 | cons x xs ih =>
  simp only[List.cons_append,val,bcN,ih,bbS]
  rw[baO,bcG,← baX,bbA 4294967296 (4294967296 ^ xs.length)]
theorem dY {xs:List Nat} (h:Lim xs):val xs<4294967296 ^ xs.length:=by
 induction xs with
 | nil=>simp[val]
 | cons x xs ih =>
  have h1:=h x (by simp)
  have h2:=ih fun y hy=>h y (by simp[hy])
  simp only[val,bcN,bbS]
  have:4294967296*(val xs+1)≤4294967296*4294967296 ^ xs.length:=bcI _ h2
  rw[baO,Nat.mul_one] at this
  rw[bbA (4294967296 ^ xs.length)]
  omega
theorem Lim.app {xs ys:List Nat} (h:Lim xs) (k:Lim ys):Lim (xs++ys):=fun x hx=>by
 rw[bcE] at hx
 exact hx.elim (h x) (k x)
theorem Lim.take {xs:List Nat} (h:Lim xs) (n:Nat):Lim (xs.take n):=fun x hx=>h x (List.mem_of_mem_take hx)
theorem Lim.drop {xs:List Nat} (h:Lim xs) (n:Nat):Lim (xs.drop n):=fun x hx=>h x (List.mem_of_mem_drop hx)
theorem Lim.set {xs:List Nat} (h:Lim xs) (i:Nat) {v:Nat} (hv:v<4294967296):Lim (xs.set i v):=fun x hx=>by
 rcases List.mem_or_eq_of_mem_set hx with h1 | h1
 ·exact h x h1
 ·subst h1; exact hv
theorem rG (n:Nat):Lim (baH n 0):=fun x hx=>by
 rw[List.mem_replicate] at hx; rw[hx.2]; decide
theorem oL (n:Nat):val (baH n 0)=0:=by
 induction n with
 | zero=>rfl
 | succ n ih=>simp[List.replicate_succ,val,ih]
theorem aJL {xs:List Nat} (h:Lim xs) (hl:∀ x,xs.getLast?=some x→x≠0):aG (val xs)=xs:=by
 induction xs with
 | nil=>simp[val,eU]
 | cons x xs ih =>
  have hx:=h x (by simp)
  have hxs:Lim xs:=fun y hy=>h y (by simp[hy])
  cases xs with
  | nil =>
   have:=hl x (by simp)
   simp only[val,Nat.mul_zero,bcH]
   exact kT this hx
  | cons y ys =>
   have ih':=ih hxs fun z hz=>hl z (by rw[List.getLast?_cons_cons]; exact hz)
   have h0:val (y::ys)≠0:=fun e=>by rw[e,eU] at ih'; cases ih'
   have hne:x+4294967296*val (y::ys)≠0:=by
    have:0<4294967296*val (y::ys):=Nat.mul_pos (by decide) (bcQ h0)
    omega
   show aG (x+4294967296*val (y::ys))=_
   rw[oC hne]
   have e1:(x+4294967296*val (y::ys))%4294967296=x:=by rw[Nat.add_mul_mod_self_left,bbH hx]
   have e2:(x+4294967296*val (y::ys))/4294967296=val (y::ys):=by rw[Nat.add_mul_div_left _ _ (by decide),bdI hx,bbF]
   rw[e1,e2,ih']
theorem avF {xs:List Nat} {n:Nat} (h:∀ j x,n≤j→xs[j]?=some x→x=0):val (xs.take n)=val xs:=by
 have e:xs.drop n=baH (xs.drop n).length 0:=by
  apply bcZ (by simp)
  intro i h1 h2
  rw[List.getElem_replicate,List.getElem_drop]
  exact h (n+i) _ (by omega) (baQ _)
 conv=>rhs; rw[← bcT n xs,eW,e,oL]
 simp
theorem CF {xs:List Nat} (hx:Lim xs) {n:Nat} (hn:n≤xs.length) (h:∀ j x,n≤j→xs[j]?=some x→x=0) (h0:∀ x,0<n→xs[n-1]?=some x→x≠0):xs.take n=aG (val xs):=by
 rw[← avF h,aJL (hx.take n)]
 intro x hl
 rw[List.getLast?_eq_getElem?,baV,bcC hn] at hl
 rcases bcB n with e | e
 ·subst e; simp at hl
 ·rw[List.getElem?_take_of_lt (by omega)] at hl
  exact h0 x e hl
theorem aCR {xs:List Nat} (hx:Lim xs) {n:Nat} (hn:n≤xs.length) (h:∀ j x,n≤j→xs[j]?=some x→x=0) (h0:∀ x,0<n→xs[n-1]?=some x→x≠0):nl (val xs)=n:=by
 rw[nl,← CF hx hn h h0,baV]; omega
theorem eK {xs:List Nat} (h:Lim xs):nl (val xs)≤xs.length:=(gB _ _).2 (dY h)
theorem gP {xs : List Nat} (h : Lim xs) : xs.take (nl (val xs)) = aG (val xs) := by
  have hl := eK h
  have e : val (xs.take (nl (val xs)) ++ xs.drop (nl (val xs))) = val xs := by rw [bcT]
  rw [eW, baV, bcC hl] at e
  have h1 := dY (h.take (nl (val xs)))
  rw [baV, bcC hl] at h1
  have h2 := (gB (val xs) (nl (val xs))).1 (baJ _)
  have hd : val (xs.drop (nl (val xs))) = 0 := by
    rcases bcB (val (xs.drop (nl (val xs)))) with h | h
    · exact h
    · have := bcI (4294967296 ^ nl (val xs)) h
      omega
  have hz : ∀ j x, nl (val xs) ≤ j → xs[j]? = some x → x = 0 := by
    have zero : ∀ ys : List Nat, val ys = 0 → ∀ y ∈ ys, y = 0 := by
      intro ys
      induction ys with
      | nil => intro _ y hy; cases hy
      | cons z zs ih =>
        intro hv y hy
        simp only [val] at hv
        rw [baP] at hy
        rcases hy with rfl | hy
        · omega
        · exact ih (by have : 4294967296 * val zs = 0 := by omega
                       rcases Nat.mul_eq_zero.1 this with h | h
                       · cases h
                       · exact h) y hy
    intro j x hj hx
    refine zero _ hd x ?_
    rw [List.mem_iff_getElem?]
    exact ⟨j - nl (val xs), by rw [List.getElem?_drop, Nat.add_sub_cancel' hj]; exact hx⟩
  refine CF h hl hz fun x hpos hx e => ?_
  subst e
  have hz2 : ∀ j x, nl (val xs) - 1 ≤ j → xs[j]? = some x → x = 0 := fun j y hj hy => by
    rcases baU j (nl (val xs)) with h3 | h3
    · have : j = nl (val xs) - 1 := by omega
      subst this; rw [hx] at hy; cases hy; rfl
    · exact hz j y h3 hy
  have h3 := avF hz2
  have h4 := dY (h.take (nl (val xs) - 1))
  rw [h3, baV, bcC (by omega)] at h4
  have := (gB (val xs) (nl (val xs) - 1)).2 h4
  omega
theorem asL {xs:List Nat} (h:Lim xs) {n:Nat} (hn:nl (val xs)=n+1):∃ x,xs[n]?=some x∧x≠0:=by
 have hl:=eK h
 refine⟨xs[n]'(by omega),baQ _,fun e=>?_⟩
 have e1:=gP h
 have hv:=aV (val xs)
 rw[← e1,hn,bcO (by omega),e,eW] at hv
 simp only[val,Nat.mul_zero,bcH] at hv
 have h4:=dY (h.take n)
 rw[hv,baV,bcC (by omega)] at h4
 have:=(gB (val xs) n).2 h4
 omega
theorem oI (xs:List Nat) {k:Nat} (h:k<xs.length):val xs=val (xs.take k)+4294967296 ^ k*(xs[k]+4294967296*val (xs.drop (k+1))):=by
 conv=>lhs; rw[← bcT k xs,eW,baV,bcC (by omega),bcD h]
 rfl
theorem RH {xs ys:List Nat} (hx:Lim xs) {k:Nat} (h1:k<xs.length) (h2:k<ys.length) (hd:xs.drop (k+1)=ys.drop (k+1)) (h:xs[k]<ys[k]):val xs<val ys:=by
 rw[oI xs h1,oI ys h2,hd]
 have h3:=dY (hx.take k)
 rw[baV,bcC (by omega)] at h3
 have h4:4294967296 ^ k*(xs[k]+4294967296*val (ys.drop (k+1))+1)≤4294967296 ^ k*(ys[k]+4294967296*val (ys.drop (k+1))):=bcI _ (by omega)
 rw[baO _ _ 1,Nat.mul_one] at h4
 omega
def dB (a b:Nat):Int:=if a<b then -1 else if b<a then 1 else 0
theorem ZE {xs ys:List Nat} {k:Nat} (h1:k<xs.length) (h2:k<ys.length) (hd:xs.drop (k+1)=ys.drop (k+1)) (h:xs[k]=ys[k]):xs.drop k=ys.drop k:=by
 rw[bcD h1,bcD h2,hd,h]
theorem fZ {a b:Nat} (h:a≤b):nl a≤nl b:=(gB a _).2 (Nat.lt_of_le_of_lt h ((gB b _).1 (baJ _)))
theorem aiP {xs:List Nat} (h:Lim xs) {j:Nat} (hj:j<nl (val xs)):∃ (h1:j<xs.length) (h2:j<(aG (val xs)).length),xs[j]=(aG (val xs))[j]:=by
 have hl:=eK h
 refine⟨by omega,hj,?_⟩
 have e:=gP h
 have:(xs.take (nl (val xs)))[j]?=(aG (val xs))[j]?:=by rw[e]
 rw[List.getElem?_take_of_lt hj,baQ (by omega),baQ hj] at this
 exact bcJ.inj this
def bY (n:Nat):Nat:=if h:n=0 then 0 else bY (n/2)+1
termination_by n
decreasing_by exact Nat.div_lt_self (bcQ h) (by decide)
theorem iD:bY 0=0:=by rw[bY]; simp
theorem nJ {n:Nat} (h:n≠0):bY n=bY (n/2)+1:=by rw[bY]; simp[h]
theorem jE (n k:Nat):bY n≤k↔n<2 ^ k:=by
 induction k generalizing n with
 | zero =>
  by_cases h:n=0
  ·subst h; simp[iD]
  ·rw[nJ h]; simp; omega
 | succ k ih =>
  by_cases h:n=0
  ·subst h; simp[iD,bcR]
  ·rw[nJ h,Nat.succ_le_succ_iff,ih,bbS,bcV (by decide)]
theorem gG {n:Nat}:bY n=0↔n=0:=by
 have:=jE n 0
 simp at this
 exact this
theorem aiQ {hi lo k:Nat} (hl:lo<2 ^ k) (hh:hi≠0):bY (lo+2 ^ k*hi)=k+bY hi:=by
 apply Nat.le_antisymm
 ·rw[jE,Nat.pow_add]
  have h1:=(jE hi _).1 (baJ _)
  have:2 ^ k*(hi+1)≤2 ^ k*2 ^ bY hi:=bcI _ h1
  rw[baO,Nat.mul_one] at this
  omega
 ·obtain⟨b,hb⟩:∃ b,bY hi=b+1:=⟨bY hi-1,by have:=mt gG.1 hh; omega⟩
  rw[hb]
  rcases baU (bY (lo+2 ^ k*hi)) (k+(b+1)) with h | h
  ·have h1:=(jE (lo+2 ^ k*hi) (k+b)).1 (by omega)
   rw[Nat.pow_add] at h1
   have h2:¬ hi<2 ^ b:=fun h=>by have:=(jE hi b).2 h; omega
   have:2 ^ k*2 ^ b≤2 ^ k*hi:=bcI _ (by omega)
   omega
  ·exact h
theorem sV (n k:Nat):bY n≤32*k↔nl n≤k:=by
 rw[jE,gB,Nat.pow_mul]
end Go.Na
namespace Go.PM
open Go Go.Na
abbrev aE (xs:List Nat):List (List PV):=xs.map fun (n:Nat)=>[PV.int .u32 (n:Int)]
abbrev aF (xs:List Nat):PV:=.sl 1 (xs.map fun (n:Nat)=>[PV.int .u32 (n:Int)])
theorem bN (xs:List Nat):(aE xs).length=xs.length:=by simp
theorem bJ (xs:List Nat) {i:Nat} (h:i<xs.length):(aE xs)[i]?=some [.int .u32 (xs[i]:Nat)]:=by simp[h]
theorem acD (xs:List Nat) (k:Nat):aF (xs.take k)=.sl 1 ((xs.map fun (n:Nat)=>[PV.int .u32 (n:Int)]).take k):=by rw[aF,List.map_take]
theorem bV (n:Nat):IntKind.u32.wrap (n:Int)=((n%4294967296:Nat):Int):=by
 have e:IntKind.u32.wrap (n:Int)=(n:Int)%4294967296:=by simp[IntKind.wrap,IntKind.bits,IntKind.signed]
 rw[e]; rfl
theorem rR {k:Nat} (h:k≤9223372036854775807) (h0:0<k):IntKind.i64.wrap ((k:Int)-1)=((k-1:Nat):Int):=by
 rw[wrap_i64 (by omega) (by omega)]; omega
def aGJ (xs:List Nat) (n:Nat):PF:=((PF.nil.set 0 (aF xs)).set 3 (.int .i64 n))
theorem aGL {C:Ctx} (xs:List Nat) (hx:Lim xs) (hl:xs.length≤16777216):lS.wp C (aZ qB.res (aK (.int .i64 (nl (val xs):Nat)))) (PF.args [aF xs]) .nil:=by
 simp -implicitDefEqProofs only[go_sem,γ,reduceCtorEq,lS,BL,BM,qB]
 refine wp_loop (α:=Nat) (aGJ xs) (fun _=>.nil) (fun n=>n≤xs.length∧∀ j x,n≤j→xs[j]?=some x→x=0) (fun n=>n) xs.length ⟨baJ _,fun j x h e=>by rw[bbO h] at e; cases e⟩ ?_ PH.nil_le ?_
 ·unfold aGJ
  (repeat' (first|exact PF.nil_le|refine PF.aA ?_ ?_))<;>first|(simp -implicitDefEqProofs only[go_sem,γ,reduceCtorEq]<;>rfl)|rfl
 rintro n ⟨hn,hz⟩
 have out:(∀ x,0<n→xs[n-1]?=some x→x≠0)→nl (val xs)=n:=fun h=>aCR hx hn hz h
 simp -implicitDefEqProofs only[go_sem,γ,reduceCtorEq,BK,BN,aGJ]
 by_cases h0:(n:Int)>0
 ·have hp:0<n:=by omega
  have hi:=bJ xs (show n-1<xs.length by omega)
  simp -implicitDefEqProofs only[go_sem,γ,reduceCtorEq,h0,rR (show n≤9223372036854775807 by omega) hp,hi]
  by_cases hz0:xs[n-1]=0
  ·simp -implicitDefEqProofs only[go_sem,γ,reduceCtorEq,bS (show ((xs[n-1]:Nat):Int)=0 by omega),BO,rR (show n≤9223372036854775807 by omega) hp]
   refine aH (n-1) ⟨by omega,fun j x hj he=>?_⟩ (by omega) ?_ PH.nil_le
   ·rcases baU j n with h | h
    ·have:j=n-1:=by omega
     subst this
     rw[baQ (by omega)] at he
     cases he; exact hz0
    ·exact hz j x h he
   ·(repeat' (first|exact PF.nil_le|refine PF.aA ?_ ?_))<;>first|(simp -implicitDefEqProofs only[go_sem,γ,reduceCtorEq]<;>rfl)|rfl
  ·simp -implicitDefEqProofs only[go_sem,γ,reduceCtorEq,bE (show ((xs[n-1]:Nat):Int)≠0 by omega),pH]
   refine bZ (.inr rfl) rfl ?_
   rw[out fun x _ he=>by rw[baQ (by omega)] at he; cases he; exact hz0]
   rfl
 ·simp -implicitDefEqProofs only[go_sem,γ,reduceCtorEq,h0,pH]
  refine bZ (.inr rfl) rfl ?_
  rw[out fun x h=>by omega]
  rfl
theorem aKJ {C:Ctx} (xs:List Nat) (hlen:aJ C 138 [aF xs] .nil (aK (.int .i64 (nl (val xs):Nat)))):wY.wp C (aZ GL.res (aK (.bool (decide (nl (val xs)>512))))) (PF.args [aF xs]) .nil:=by
 simp -implicitDefEqProofs only[go_sem,reduceCtorEq,wY,acF,acG,GL]
 refine aB hlen rfl ?_
 simp -implicitDefEqProofs only[go_sem,γ]
 refine bZ (.inr rfl) rfl ?_
 simp only[cU,PV.bool.injEq,decide_eq_decide]
 omega
def szL (n:Nat):List Nat:=if nl n>512 then [] else aG n
def szE (n:Nat):Int:=if nl n>512 then 2 else 0
def szV (n:Nat):PV:=.tup [aF (szL n),.int .i64 (szE n)]
theorem aKO {C:Ctx} (xs:List Nat) (hx:Lim xs) (hlen:aJ C 138 [aF xs] .nil (aK (.int .i64 (nl (val xs):Nat)))):xA.wp C (aZ GQ.res (bW (szV (val xs)))) (PF.args [aF xs]) .nil:=by
 simp -implicitDefEqProofs only[go_sem,reduceCtorEq,xA,acS,acT,GQ]
 refine aB hlen rfl ?_
 simp -implicitDefEqProofs only[go_sem,γ,acU]
 by_cases h:nl (val xs)>512
 ·have h':((nl (val xs):Nat):Int)>512:=by omega
  simp -implicitDefEqProofs only[go_sem,h',acV]
  refine aY (vs:=[.nils,.int .i64 2]) (.inr rfl) .nil rfl PH.nil_le ⟨?_,rfl⟩
  rw[szV,szL,szE,if_pos h,if_pos h]
  refine .tup rfl fun j p q hp hq=>?_
  match j with
  | 0=>simp at hp hq; subst hp; subst hq; exact .nil 1
  | 1=>simp at hp hq; subst hp; subst hq; exact .refl _
  | j+2=>simp at hp
 ·have h':¬ ((nl (val xs):Nat):Int)>512:=by omega
  have hl:=eK hx
  have hc:((nl (val xs):Nat):Int)≤(xs.length:Nat):=by omega
  simp -implicitDefEqProofs only[go_sem,ν,γ,reduceCtorEq,h',acW,hc,or_true,bbG]
  refine aY (.inr rfl) .nil rfl PH.nil_le ⟨?_,rfl⟩
  rw[szV,szL,szE,if_neg h,if_neg h,← gP hx,acD]
  exact .refl _
theorem aQL {C:Ctx} (v:Nat) (hv:v<18446744073709551616) (hlen:∀ xs,Lim xs→xs.length≤16777216→aJ C 138 [aF xs] .nil (aK (.int .i64 (nl (val xs):Nat)))) :
  BP.wp C (aZ UA.res (aK (aF (aG v)))) (PF.args [.int .u64 v]) .nil:=by
 have e1:IntKind.u32.wrap ((v:Nat):Int)=((v%4294967296:Nat):Int):=bV v
 have e2:Int.fdiv ((v:Nat):Int) 4294967296=((v/4294967296:Nat):Int):=by
  rw[Int.fdiv_eq_ediv_of_nonneg _ (by decide)]; rfl
 have hd:v/4294967296<4294967296:=by omega
 have e3:IntKind.u32.wrap ((v/4294967296:Nat):Int)=((v/4294967296:Nat):Int):=by rw[bV,bbH hd]
 have hL:Lim [v%4294967296,v/4294967296]:=by
  intro x hx
  simp only[baP,List.mem_nil_iff,or_false] at hx
  rcases hx with rfl | rfl
  ·exact bbM _ (by decide)
  ·exact hd
 have hval:val [v%4294967296,v/4294967296]=v:=by simp only[val,Nat.mul_zero,bcH]; exact Nat.mod_add_div v 4294967296
 have hs:∀ a b:Int,PV.bin .shr (.int .u64 a) (.int .u64 b)=shift .shr .u64 a b:=fun _ _=>rfl
 have hsh:shift .shr .u64 (v:Int) 32=some (.int .u64 ((v/4294967296:Nat):Int)):=by
  unfold shift
  rw[if_neg (by decide)]
  simp only
  have:min (Int.toNat 32) IntKind.u64.bits=32:=by decide
  rw[this]
  rw[show (2:Int) ^ 32=4294967296 by decide,e2]
 simp -implicitDefEqProofs only[go_sem,υ,δ,γ,η,θ,ζ,reduceCtorEq,BP,aqE,aqF,UA,e1,hsh,e3]
 have hb:(2:Nat)*1≤16777216:=by decide
 simp -implicitDefEqProofs only[go_sem,γ,aqG]
 refine aB (hlen [v%4294967296,v/4294967296] hL (by simp)) rfl ?_
 have hl:=eK hL
 rw[hval] at hl ⊢
 have hc:((nl v:Nat):Int)≤((2:Nat):Int):=by simp at hl; omega
 simp -implicitDefEqProofs only[go_sem,ν,δ,γ,reduceCtorEq,hc,or_true,bbG]
 refine bZ (.inr rfl) rfl ?_
 have:=gP hL
 rw[hval] at this
 rw[← this,acD]
 rfl
theorem aQO {C:Ctx} (xs:List Nat) (hx:Lim xs) (hl:xs.length≤16777216) (hlen:aJ C 138 [aF xs] .nil (aK (.int .i64 (nl (val xs):Nat)))) :
  BQ.wp C (aZ UD.res (bW (aF (aG (val xs))))) (PF.args [aF xs]) .nil:=by
 simp -implicitDefEqProofs only[go_sem,reduceCtorEq,BQ,aqY,aqZ,UD]
 refine aB hlen rfl ?_
 have hn:=eK hx
 have hc:((nl (val xs):Nat):Int)≤(xs.length:Nat):=by omega
 simp -implicitDefEqProofs only[go_sem,ν,γ,reduceCtorEq,hc,or_true,bbG]
 refine eZ (rows:=[]) (src:=aE (aG (val xs))) .nil ?_ ?_ fun v H' ho _=>?_
 ·simp -implicitDefEqProofs only[go_sem]
  rw[← gP hx,← List.map_take]
 ·unfold roomFor
  rw[bN]
  have:(aG (val xs)).length=nl (val xs):=rfl
  simp only[bcL,maxLen]
  omega
 ·exact mP (.inr rfl) (by simpa using ho) rfl
end Go.PM
namespace Go.PM
open Go Go.Na
def aGD (xs ys:List Nat) (i:Int):PF:=(((PF.nil.set 0 (aF xs)).set 1 (aF ys)).set 7 (.int .i64 i))
theorem aVL {C:Ctx} (xs ys:List Nat) (hx:Lim xs) (hy:Lim ys) (lx:xs.length≤16777216) (ly:ys.length≤16777216) (hlx:aJ C 138 [aF xs] .nil (aK (.int .i64 (nl (val xs):Nat)))) (hly:aJ C 138 [aF ys] .nil (aK (.int .i64 (nl (val ys):Nat)))) :
  GH.wp C (aZ apT.res (aK (.int .i64 (dB (val xs) (val ys))))) (PF.args [aF xs,aF ys]) .nil:=by
 simp -implicitDefEqProofs only[go_sem,reduceCtorEq,GH,aBA,aBB,apT]
 refine aB hlx (by simp -implicitDefEqProofs only[go_sem,γ]<;>rfl) ?_
 simp -implicitDefEqProofs only[go_sem,γ]
 refine aB hly (by simp -implicitDefEqProofs only[go_sem,γ]<;>rfl) ?_
 simp -implicitDefEqProofs only[go_sem,γ,aBC]
 have bx:=eK hx
 have by':=eK hy
 by_cases c1:nl (val xs)<nl (val ys)
 ·have c1':((nl (val xs):Nat):Int)<(nl (val ys):Nat):=by omega
  simp -implicitDefEqProofs only[go_sem,ο,c1',aBD]
  refine bZ (.inr rfl) (by simp -implicitDefEqProofs only[go_sem,ο,γ]<;>rfl) ?_
  have:val xs<val ys:=by
   rcases baU (val xs) (val ys) with h | h
   ·exact h
   ·have:=fZ h; omega
  simp[cU,dB,this]
 have c1':¬ ((nl (val xs):Nat):Int)<(nl (val ys):Nat):=by omega
 simp -implicitDefEqProofs only[go_sem,γ,c1',aBE]
 by_cases c2:nl (val xs)>nl (val ys)
 ·have c2':((nl (val xs):Nat):Int)>(nl (val ys):Nat):=by omega
  simp -implicitDefEqProofs only[go_sem,c2',aBF]
  refine bZ (.inr rfl) (by simp -implicitDefEqProofs only[go_sem,γ]<;>rfl) ?_
  have:val ys<val xs:=by
   rcases baU (val ys) (val xs) with h | h
   ·exact h
   ·have:=fZ h; omega
  have h2:¬ val xs<val ys:=by omega
  simp[cU,dB,this,h2]
 have c2':¬ ((nl (val xs):Nat):Int)>(nl (val ys):Nat):=by omega
 have hn:nl (val xs)=nl (val ys):=by omega
 simp -implicitDefEqProofs only[go_sem,γ,c2',aBG]
 have ex:=aV (val xs)
 have ey:=aV (val ys)
 have LX:=bB (val xs)
 have LY:=bB (val ys)
 refine wp_loop (α:=Nat) (fun k=>aGD xs ys ((k:Int)-1)) (fun _=>.nil) (fun k=>k≤nl (val xs)∧(aG (val xs)).drop k=(aG (val ys)).drop k) (fun k=>k) (nl (val xs)) ⟨baJ _,?_⟩ ?_ PH.nil_le ?_
 ·rw[bdL (by rw[nl]; exact baJ _),bdL (by rw[hn,nl]; exact baJ _)]
 ·unfold aGD
  (repeat' (first|exact PF.nil_le|refine PF.aA ?_ ?_))<;>first|(simp -implicitDefEqProofs only[go_sem,γ,reduceCtorEq,wrap_i64 (show -9223372036854775808≤((nl (val xs):Nat):Int)-1 by omega) (show ((nl (val xs):Nat):Int)-1≤9223372036854775807 by omega)]<;>rfl)|rfl
 rintro k ⟨hk,hd⟩
 simp -implicitDefEqProofs only[go_sem,γ,reduceCtorEq,apU,aBH,aGD]
 by_cases h0:0<k
 ·obtain⟨m,rfl⟩:∃ m,k=m+1:=⟨k-1,by omega⟩
  have hz:((m+1:Nat):Int)-1=(m:Int):=by omega
  have hge:(m:Int)≥0:=by omega
  obtain⟨x1,x2,x3⟩:=aiP hx (show m<nl (val xs) by omega)
  obtain⟨y1,y2,y3⟩:=aiP hy (show m<nl (val ys) by omega)
  simp -implicitDefEqProofs only[go_sem,hz,hge]
  refine cC .nil eE PH.nil_le ?_
  simp -implicitDefEqProofs only[go_sem,γ,reduceCtorEq,aBI,bJ xs x1,bJ ys y1]
  by_cases c3:xs[m]<ys[m]
  ·simp -implicitDefEqProofs only[go_sem,ο,show ((xs[m]:Nat):Int)<(ys[m]:Nat) by omega,aBJ]
   refine bZ (.inr rfl) (by simp -implicitDefEqProofs only[go_sem,ο,γ,reduceCtorEq]<;>rfl) ?_
   have:=RH LX x2 y2 hd (by rw[← x3,← y3]; exact c3)
   rw[ex,ey] at this
   simp[cU,dB,this]
  ·simp -implicitDefEqProofs only[go_sem,show ¬ ((xs[m]:Nat):Int)<(ys[m]:Nat) by omega]
   refine cC .nil eE PH.nil_le ?_
   simp -implicitDefEqProofs only[go_sem,γ,reduceCtorEq,apV,bJ xs x1,bJ ys y1]
   by_cases c4:xs[m]>ys[m]
   ·simp -implicitDefEqProofs only[go_sem,show ((xs[m]:Nat):Int)>(ys[m]:Nat) by omega,apW]
    refine bZ (.inr rfl) (by simp -implicitDefEqProofs only[go_sem,γ,reduceCtorEq]<;>rfl) ?_
    have:=RH LY y2 x2 hd.symm (by rw[← x3,← y3]; exact c4)
    rw[ex,ey] at this
    have h2:¬ val xs<val ys:=by omega
    simp[cU,dB,this,h2]
   ·simp -implicitDefEqProofs only[go_sem,γ,reduceCtorEq,show ¬ ((xs[m]:Nat):Int)>(ys[m]:Nat) by omega,apX]
    refine aH m ⟨by omega,ZE x2 y2 hd (by rw[← x3,← y3]; omega)⟩ (by omega) ?_ PH.nil_le
    (repeat' (first|exact PF.nil_le|refine PF.aA ?_ ?_))<;>first|(simp -implicitDefEqProofs only[go_sem,γ,reduceCtorEq,wrap_i64 (show -9223372036854775808≤(m:Int)-1 by omega) (show (m:Int)-1≤9223372036854775807 by omega)]<;>rfl)|rfl
 ·have:k=0:=by omega
  subst this
  have hz:¬ ((0:Nat):Int)-1≥0:=by decide
  simp -implicitDefEqProofs only[go_sem,hz,apY]
  refine bZ (.inr rfl) (by simp -implicitDefEqProofs only[go_sem,γ,reduceCtorEq]<;>rfl) ?_
  rw[bbG,bbG] at hd
  have:val xs=val ys:=by rw[← ex,← ey,hd]
  simp[cU,dB,this]
def apI (k:Nat) (v:Nat):PF:=((PF.nil.set 4 (.int .i64 k)).set 5 (.int .u32 v))
theorem aQJ {C:Ctx} (xs:List Nat) (hx:Lim xs) (lx:xs.length≤16777216) (hlx:aJ C 138 [aF xs] .nil (aK (.int .i64 (nl (val xs):Nat)))) :
  BJ.wp C (aZ TP.res (aK (.int .i64 (bY (val xs):Nat)))) (PF.args [aF xs]) .nil:=by
 simp -implicitDefEqProofs only[go_sem,reduceCtorEq,BJ,apK,apL,TP]
 refine aB hlx (by simp -implicitDefEqProofs only[go_sem,γ]<;>rfl) ?_
 simp -implicitDefEqProofs only[go_sem,γ,apM]
 have bx:=eK hx
 by_cases c1:nl (val xs)=0
 ·simp -implicitDefEqProofs only[go_sem,bS (show ((nl (val xs):Nat):Int)=0 by omega),apN]
  refine bZ (.inr rfl) (by simp -implicitDefEqProofs only[go_sem,γ]<;>rfl) ?_
  have:val xs=0:=gZ.1 c1
  simp[cU,this,iD]
 obtain⟨n,hn⟩:∃ n,nl (val xs)=n+1:=⟨nl (val xs)-1,by omega⟩
 obtain⟨t,ht,ht0⟩:=asL hx hn
 have htl:t<4294967296:=hx t (bcS ht)
 have hnl:n<xs.length:=by omega
 have hv:val xs=val (xs.take n)+4294967296 ^ n*t:=by
  have e:=gP hx
  have:=aV (val xs)
  have hg:xs[n]=t:=by rw[baQ hnl] at ht; exact bcJ.inj ht
  rw[← e,hn,bcO hnl,hg,eW,baV,bcC (by omega)] at this
  simp only[val,Nat.mul_zero,bcH] at this
  exact this.symm
 have hb:bY (val xs)=32*n+bY t:=by
  have h3:=dY (hx.take n)
  rw[baV,bcC (by omega)] at h3
  rw[hv,show (4294967296:Nat) ^ n=2 ^ (32*n) by rw[Nat.pow_mul]] at *
  exact aiQ h3 ht0
 have hrow:(aE xs)[n]?=some [.int .u32 (t:Nat)]:=by
  rw[bJ xs hnl]
  rw[baQ hnl] at ht
  rw[bcJ.inj ht]
 have e1:IntKind.i64.wrap (((nl (val xs):Nat):Int)-1)=(n:Int):=by rw[wrap_i64 (by omega) (by omega)]; omega
 have e2:IntKind.i64.wrap ((n:Int)*32)=((32*n:Nat):Int):=by rw[wrap_i64 (by omega) (by omega)]; omega
 simp -implicitDefEqProofs only[go_sem,γ,reduceCtorEq,bE (show ((nl (val xs):Nat):Int)≠0 by omega),apO,apP,e1,e2,hrow]
 refine wp_loop (α:=Nat × Nat) (fun a=>apI a.1 a.2) (fun _=>.nil) (fun a=>a.1+bY a.2=32*n+bY t∧a.2<4294967296) (fun a=>a.2) (32*n,t) ⟨rfl,htl⟩ ?_ PH.nil_le ?_
 ·unfold apI
  (repeat' (first|exact PF.nil_le|refine PF.aA ?_ ?_))<;>first|(simp -implicitDefEqProofs only[go_sem,γ]<;>rfl)|rfl
 rintro⟨k,v⟩ ⟨hk,hlt⟩
 simp only at hk hlt
 have hk32:bY t≤32:=(jE t 32).2 htl
 simp -implicitDefEqProofs only[go_sem,γ,apJ,apQ,apI]
 by_cases c2:(v:Int)>0
 ·have hv0:v≠0:=by omega
  have hsh:PV.bin .shr (.int .u32 (v:Int)) (.int .u64 1)=some (.int .u32 ((v/2:Nat):Int)):=by
   show shift .shr .u32 (v:Int) 1=_
   unfold shift
   rw[if_neg (by decide)]
   simp only
   have:min (Int.toNat 1) IntKind.u32.bits=1:=by decide
   rw[this,show (2:Int) ^ 1=2 by decide,Int.fdiv_eq_ediv_of_nonneg _ (by decide)]
   rfl
  have hsh':shift .shr .u32 (v:Int) 1=some (.int .u32 ((v/2:Nat):Int)):=hsh
  simp -implicitDefEqProofs only[go_sem,γ,c2,apR,apS,hsh,hsh',aL (show k<9223372036854775807 by omega)]
  refine aH (k+1,v/2) ⟨?_,?_⟩ (Nat.div_lt_self (by omega) (by decide)) ?_ PH.nil_le
  ·have:=nJ hv0
   simp only; omega
  ·simp only; omega
  ·(repeat' (first|exact PF.nil_le|refine PF.aA ?_ ?_))<;>first|(simp -implicitDefEqProofs only[go_sem,γ]<;>rfl)|rfl
 ·have:v=0:=by omega
  subst this
  simp -implicitDefEqProofs only[go_sem,γ,c2,acE]
  refine bZ (.inr rfl) (by simp -implicitDefEqProofs only[go_sem,γ]<;>rfl) ?_
  rw[iD] at hk
  simp only[cU,PV.int.injEq,true_and]
  omega
end Go.PM
namespace Go.PM
open Go Go.Na
structure nE (C:Ctx):Prop where
 length:∀ xs,Lim xs→xs.length≤16777216→aJ C 138 [aF xs] .nil (aK (.int .i64 (nl (val xs):Nat)))
 large:∀ xs,Lim xs→xs.length≤16777216→aJ C 137 [aF xs] .nil (aK (.bool (decide (nl (val xs)>512))))
 sized:∀ xs,Lim xs→xs.length≤16777216→aJ C 141 [aF xs] .nil (aK (szV (val xs)))
 trim:∀ xs,Lim xs→xs.length≤16777216→aJ C 135 [aF xs] .nil (aK (aF (aG (val xs))))
 make:∀ v:Nat,v<18446744073709551616→aJ C 132 [.int .u64 v] .nil (aK (aF (aG v)))
 cmp:∀ xs ys,Lim xs→Lim ys→xs.length≤16777216→ys.length≤16777216→aJ C 129 [aF xs,aF ys] .nil (aK (.int .i64 (dB (val xs) (val ys))))
def iP:PV→List Nat
 | .sl _ rows=>rows.map fun r=>match r with | [.int _ n]=>n.toNat | _=>0
 | _=>[]
theorem eF (xs:List Nat):iP (aF xs)=xs:=by
 simp[iP,List.map_map,Function.comp_def]
def aGC:Spec:=fun name vs=>match name,vs with
 | 138,[x]=>some ([],fun _=>aK (.int .i64 (nl (val (iP x)):Nat)))
 | _,_=>none
theorem kU (xs:List Nat):aGC 138 [aF xs]=some ([],fun _=>aK (.int .i64 (nl (val xs):Nat))):=by
 show some _=_; rw[eF]
theorem tF (P:List Nat) (k v:Nat):(P++baH (k+1) 0).set P.length v=(P++[v])++baH k 0:=by
 rw[bdG _ _ (baJ _),Nat.sub_self,List.replicate_succ,List.set_cons_zero,bbJ]
 rfl
theorem eM (L:List Nat) (i v:Nat):(aE L).set i [.int .u32 (v:Int)]=aE (L.set i v):=by
 unfold aE; rw[List.map_set]
theorem fX (P:List Nat) (v:Nat):val (P++[v])=val P+4294967296 ^ P.length*v:=by
 rw[eW]; simp[val]
theorem bQ (xs:List Nat) {i:Nat} (h:i<xs.length):val (xs.take (i+1))=val (xs.take i)+4294967296 ^ i*xs[i]:=by
 rw[bcO h,fX,baV,bcC (by omega)]
theorem sL {v:Nat}:shift .shr .u64 (v:Int) 32=some (.int .u64 ((v/4294967296:Nat):Int)):=by
 unfold shift
 rw[if_neg (by decide)]
 simp only
 have:min (Int.toNat 32) IntKind.u64.bits=32:=by decide
 rw[this,show (2:Int) ^ 32=4294967296 by decide,Int.fdiv_eq_ediv_of_nonneg _ (by decide)]
 rfl
theorem dZ {a b:Nat} (h:a+b<18446744073709551616):IntKind.u64.wrap ((a:Int)+(b:Int))=((a+b:Nat):Int):=by
 rw[wrap_u64 (by omega) (by omega)]; omega
theorem aW {a:Nat} (h:a<18446744073709551616):IntKind.u64.wrap (a:Int)=(a:Int):=wrap_u64 (by omega) (by omega)
def TO (a b:List Nat) (o i c:Nat):PF:=(((((((PF.nil.set 0 (aF a)).set 1 (aF b)).set 6 (.osl o 1 0 (a.length+1))).set 7 (.int .u64 c)).set 35 (.int .i64 (a.length:Nat))).set 34 (aF a)).set 36 (.int .i64 i))
theorem acC {C:Ctx} (L:nE C) (a b:List Nat) (ha:Lim a) (hb:Lim b) (hl:b.length≤a.length) (h1:a.length≤1000) (F:PF) (f0:F 0=some (aF a)) (f1:F 1=some (aF b)) :
  aC.wp C (.seq (.region XV) (.seq (.region XW) (.seq (.seq (.region XY) (.block 0 (.loop PJ))) (.seq (.region PO) (.seq (.region PP) .ret))))) (aZ [.tmp 4,.tmp 5] (bW (szV (val a+val b)))) F .nil:=by
 have hlen:IntKind.i64.wrap ((a.length:Int)+1)=((a.length+1:Nat):Int):=aL (by omega)
 have hm1:((a.length+1:Nat):Int)*((4:Nat):Int)≤140737488355328:=by omega
 have hm2:((a.length+1:Nat):Int)≤9223372036854775807:=by omega
 have hz:baH (a.length+1) [PV.int .u32 0]=aE ([]++baH (a.length+1) 0):=by
  simp[aE]
 simp -implicitDefEqProofs only[go_sem,γ,XV,f0,hlen,hm1,hm2,hz]
 refine aP fun o ho=>?_
 simp -implicitDefEqProofs only[go_sem,γ,reduceCtorEq,XW,XY,f0]
 refine wp_loop (α:=List Nat × Nat × Nat) (fun s=>TO a b s.2.2 s.1.length s.2.1) (fun s=>PH.nil.set s.2.2 (.rows 1 (aE (s.1++baH (a.length+1-s.1.length) 0))))
  (fun s=>s.1.length≤a.length∧Lim s.1∧s.2.1≤1∧val s.1+4294967296 ^ s.1.length*s.2.1=val (a.take s.1.length)+val (b.take s.1.length)) (fun s=>a.length-s.1.length) ([],0,o) ⟨by simp,by simp[Lim],by simp,by simp[val]⟩ ?_ ?_ ?_
 ·unfold TO
  repeat' first|exact PF.nil_le|refine PF.aA ?_ ?_|rfl|assumption
 ·exact PH.aA PH.nil_le (by simp -implicitDefEqProofs only[go_sem,bcL])
 rintro⟨P,c,q⟩ ⟨hP,hLim,hc,hval⟩
 simp only at hP hLim hc hval
 simp -implicitDefEqProofs only[go_sem,γ,reduceCtorEq,PJ,aAZ,TO]
 by_cases c1:P.length<a.length
 ·have c1':(P.length:Int)<(a.length:Nat):=by omega
  have hai:=ha _ (baN c1)
  obtain⟨k,hk⟩:∃ k,a.length+1-P.length=k+1:=⟨a.length-P.length,by omega⟩
  have hin:(aE (P++baH (k+1) 0))[P.length]?=some [.int .u32 ((0:Nat):Int)]:=by
   rw[bJ _ (by simp)]; simp
  have hlast:a.length+1-(P.length+1)=k:=by omega
  have c2':(P.length:Int)<((a.length+1:Nat):Int):=by omega
  have fin:∀ (t:Nat) (F':PF) (H':PH),t<2*4294967296→val P+4294967296 ^ P.length*t=val (a.take (P.length+1))+val (b.take (P.length+1)) →
    F' 0=some (aF a)→F' 1=some (aF b)→F' 6=some (.osl q 1 0 (a.length+1))→F' 7=some (.int .u64 (t:Nat))→F' 8=some (.int .i64 P.length)→F' 34=some (aF a)→F' 35=some (.int .i64 (a.length:Nat))→F' 36=some (.int .i64 P.length) →
    H' q=some (.rows 1 (aE (P++baH (k+1) 0)))→∀ K:cD,(∀ P' c' F2 H2,P'.length=P.length+1→Lim P'→c'≤1→val P'+4294967296 ^ P'.length*c'=val (a.take (P.length+1))+val (b.take (P.length+1))→(TO a b q P'.length c').le F2→H2 q=some (.rows 1 (aE (P'++baH k 0)))→K .normal F2 H2) →
    aC.wp C (.seq (.region PK) (.region PL)) (eO 1 (kE C (aC.wp C (.region PN)) K)) F' H':=by
   intro t F' H' ht hv g0 g1 g6 g7 g8 g34 g35 g36 gH K hK
   have hrow:(aE (P++baH (k+1) 0)).set P.length [.int .u32 ((t%4294967296:Nat):Int)]=aE ((P++[t%4294967296])++baH k 0):=by
    rw[eM,tF]
   simp -implicitDefEqProofs only[go_sem,γ,PK,g6,g8,g7,bV,c2',gH,hin,hrow,PL,sL,PN,g36,aL (show P.length<9223372036854775807 by omega)]
   refine hK (P++[t%4294967296]) (t/4294967296) _ _ (by simp) (hLim.app fun x hx=>by simp at hx; subst hx; exact bbM _ (by decide)) (by omega) ?_ ?_ (by simp -implicitDefEqProofs only[go_sem])
   ·rw[fX,baI,baL,bbS,baX,bcG,← baO,Nat.mod_add_div]
    exact hv
   ·unfold TO
    rw[baI,baL]
    refine PF.aA (PF.aA (PF.aA (PF.aA (PF.aA (PF.aA (PF.aA PF.nil_le ?_) ?_) ?_) ?_) ?_) ?_) ?_<;>simp -implicitDefEqProofs only[go_sem,γ,reduceCtorEq,g0,g1,g6,g34,g35]
  have hta:=bQ a c1
  have ea:IntKind.u64.wrap ((a[P.length]:Nat):Int)=((a[P.length]:Nat):Int):=aW (by omega)
  have es:IntKind.u64.wrap ((c:Nat)+((a[P.length]:Nat):Int))=((c+a[P.length]:Nat):Int):=dZ (by omega)
  simp -implicitDefEqProofs only[go_sem,γ,reduceCtorEq,c1',apE,apF,bJ a c1,ea,es,apG]
  by_cases c3:P.length<b.length
  ·have c3':(P.length:Int)<(b.length:Nat):=by omega
   have hbi:=hb _ (baN c3)
   have htb:=bQ b c3
   have eb:IntKind.u64.wrap ((b[P.length]:Nat):Int)=((b[P.length]:Nat):Int):=aW (by omega)
   have es2:IntKind.u64.wrap (((c+a[P.length]:Nat):Int)+((b[P.length]:Nat):Int))=((c+a[P.length]+b[P.length]:Nat):Int):=dZ (by omega)
   simp -implicitDefEqProofs only[go_sem,γ,reduceCtorEq,c3',apH,bJ b c3,eb,es2]
   refine fin (c+a[P.length]+b[P.length]) _ _ (by omega) ?_ ?_ ?_ ?_ ?_ ?_ ?_ ?_ ?_ ?_ _ ?_
   ·rw[hta,htb,baO,baO]; omega
   any_goals simp -implicitDefEqProofs only[go_sem,γ,reduceCtorEq,hk]
   intro P' c' F2 H2 e1 e2 e3 e4 e5 e6
   rw[← e1] at e4
   refine aH (P',c',q) ⟨by simp only; omega,e2,e3,e4⟩ (by simp only; omega) e5 (PH.aA PH.nil_le ?_)
   simp only
   rw[e1,hlast]; exact e6
  ·have c3':¬ (P.length:Int)<(b.length:Nat):=by omega
   have htb:val (b.take (P.length+1))=val (b.take P.length):=by rw[baS (by omega),baS (by omega)]
   simp -implicitDefEqProofs only[go_sem,c3']
   refine fin (c+a[P.length]) _ _ (by omega) ?_ ?_ ?_ ?_ ?_ ?_ ?_ ?_ ?_ ?_ _ ?_
   ·rw[hta,htb,baO]; omega
   any_goals simp -implicitDefEqProofs only[go_sem,γ,reduceCtorEq,hk]
   intro P' c' F2 H2 e1 e2 e3 e4 e5 e6
   rw[← e1] at e4
   refine aH (P',c',q) ⟨by simp only; omega,e2,e3,e4⟩ (by simp only; omega) e5 (PH.aA PH.nil_le ?_)
   simp only
   rw[e1,hlast]; exact e6
 ·have e:P.length=a.length:=by omega
  have c1':¬ (P.length:Int)<(a.length:Nat):=by omega
  have hk:baH (a.length+1-P.length) 0=[0]:=by rw[show a.length+1-P.length=1 by omega]; rfl
  have hin:(aE (P++[0]))[a.length]?=some [.int .u32 ((0:Nat):Int)]:=by
   rw[bJ _ (by simp; omega)]
   simp[e]
  have hrow:(aE (P++[0])).set a.length [.int .u32 ((c%4294967296:Nat):Int)]=aE (P++[c]):=by
   have:=tF P 0 (c%4294967296)
   simp only[List.replicate_zero,bbY,bbF,List.replicate_one] at this
   rw[← e,eM,this,bbH (by omega)]
  have c2':(a.length:Int)<((a.length+1:Nat):Int):=by omega
  have hV:val (P++[c])=val a+val b:=by
   rw[fX,hval,e,bbP,baS hl]
  have hLc:Lim (P++[c]):=hLim.app fun x hx=>by simp at hx; omega
  simp -implicitDefEqProofs only[go_sem,γ,reduceCtorEq,c1',PO,bV,hk,hin,c2',hrow,PP]
  have hs:=L.sized _ hLc (by simp; omega)
  rw[hV] at hs
  refine mT (o:=q) (s:=1) (k:=a.length+1) (rs:=aE (P++[c])) (v:=szV (val a+val b)) ?_ rfl (by simp -implicitDefEqProofs only[go_sem]) (by rw[bN]; simp; omega) ?_
  ·rw[baS (by rw[bN]; simp; omega)]; exact hs
  ·simp -implicitDefEqProofs only[go_sem,γ,reduceCtorEq,szV]
   exact aY (.inr rfl) .nil rfl PH.nil_le ⟨.refl _,rfl⟩
end Go.PM
namespace Go.PM
open Go Go.Na
def opV (big:Bool) (n:Nat):PV:=if big then .tup [aF [],.int .i64 2] else szV n
def eI (a b:Nat):Bool:=decide (nl a>512)||decide (nl b>512)
theorem gJ {res:List eA} {F:PF} {H:PH} {e:Int} (h:eA.evs F H res=some [.nils,.int .i64 e]):aZ res (bW (.tup [aF [],.int .i64 e])) .ret F H:=by
 refine aY (.inr rfl) .nil h PH.nil_le ⟨?_,rfl⟩
 refine .tup rfl fun j p q hp hq=>?_
 match j with
 | 0=>simp at hp hq; subst hp; subst hq; exact .nil 1
 | 1=>simp at hp hq; subst hp; subst hq; exact .refl _
 | j+2=>simp at hp
theorem bG (n:Nat):(aG n).length=nl n:=rfl
theorem fU {xs:List Nat} (h:Lim xs):(xs.map fun (n:Nat)=>[PV.int .u32 (n:Int)]).take (nl (val xs))=(aG (val xs)).map fun (n:Nat)=>[PV.int .u32 (n:Int)]:=by
 rw[← List.map_take,gP h]
theorem aVI {C:Ctx} (L:nE C) (a b:List Nat) (ha:Lim a) (hb:Lim b) (la:a.length≤16777216) (lb:b.length≤16777216) :
  GG.wp C (aZ apD.res (bW (opV (eI (val a) (val b)) (val a+val b)))) (PF.args [aF a,aF b]) .nil:=by
 simp -implicitDefEqProofs only[go_sem,reduceCtorEq,GG,aAU,aAV,apD]
 refine aB (L.large a ha la) rfl ?_
 by_cases c1:nl (val a)>512
 ·simp -implicitDefEqProofs only[go_sem,γ,c1,XU]
  rw[show opV (eI (val a) (val b)) (val a+val b)=.tup [aF [],.int .i64 2] by simp[opV,eI,c1]]
  exact gJ rfl
 simp -implicitDefEqProofs only[go_sem,γ,c1]
 refine aB (L.large b hb lb) rfl ?_
 by_cases c2:nl (val b)>512
 ·simp -implicitDefEqProofs only[go_sem,γ,reduceCtorEq,c2,XU]
  rw[show opV (eI (val a) (val b)) (val a+val b)=.tup [aF [],.int .i64 2] by simp[opV,eI,c2]]
  exact gJ rfl
 have e:opV (eI (val a) (val b)) (val a+val b)=szV (val a+val b):=by simp[opV,eI,c1,c2]
 rw[e]
 simp -implicitDefEqProofs only[go_sem,γ,reduceCtorEq,c2]
 refine cC .nil aGC PH.nil_le ?_
 simp -implicitDefEqProofs only[go_sem,reduceCtorEq,aAW]
 have h1:=eK ha
 have h2:=eK hb
 have h1':((nl (val a):Nat):Int)≤(a.length:Nat):=by omega
 have h2':((nl (val b):Nat):Int)≤(b.length:Nat):=by omega
 refine cN (kU a) (L.length a ha la) rfl PH.nil_le ?_
 simp -implicitDefEqProofs only[go_sem,ν,γ,reduceCtorEq,h1',or_true,bbG,fU ha]
 refine cN (kU b) (L.length b hb lb) rfl PH.nil_le ?_
 simp -implicitDefEqProofs only[go_sem,ν,γ,reduceCtorEq,h2',or_true,bbG,fU hb,aAX,bG]
 have va:=aV (val a)
 have vb:=aV (val b)
 by_cases c3:nl (val a)<nl (val b)
 ·have c3':((nl (val a):Nat):Int)<(nl (val b):Nat):=by omega
  simp -implicitDefEqProofs only[go_sem,γ,reduceCtorEq,c3',aAY]
  have:=acC L (aG (val b)) (aG (val a)) (bB _) (bB _) (by rw[bG,bG]; omega) (by rw[bG]; omega)
  rw[va,vb,Nat.add_comm] at this
  exact this _ rfl rfl
 ·have c3':¬ ((nl (val a):Nat):Int)<(nl (val b):Nat):=by omega
  simp -implicitDefEqProofs only[go_sem,c3']
  have:=acC L (aG (val a)) (aG (val b)) (bB _) (bB _) (by rw[bG,bG]; omega) (by rw[bG]; omega)
  rw[va,vb] at this
  exact this _ rfl rfl
end Go.PM
namespace Go.PM
open Go Go.Na
theorem eQ (n:Int):IntKind.u64.wrap n=n%18446744073709551616:=by simp[IntKind.wrap,IntKind.bits,IntKind.signed]
theorem NG (n:Int):IntKind.u32.wrap n=n%4294967296:=by simp[IntKind.wrap,IntKind.bits,IntKind.signed]
theorem aHC {v:Int}:shift .shr .u64 v 63=some (.int .u64 (v/9223372036854775808)):=by
 unfold shift
 rw[if_neg (by decide)]
 simp only
 have:min (Int.toNat 63) IntKind.u64.bits=63:=by decide
 rw[this,show (2:Int) ^ 63=9223372036854775808 by decide,Int.fdiv_eq_ediv_of_nonneg _ (by decide)]
def HR (a bor b:Nat):Nat:=(a+4294967296-bor-b)%4294967296
def QH (a bor b:Nat):Nat:=if a<bor+b then 1 else 0
theorem asC {a bor b:Nat} (ha:a<4294967296) (hb:b<4294967296) (hc:bor≤1) (v:Int) (hv:v=((a:Int)-bor-b)%18446744073709551616) :
  IntKind.u32.wrap v=((HR a bor b:Nat):Int)∧v/9223372036854775808=((QH a bor b:Nat):Int)∧a+4294967296*QH a bor b=HR a bor b+b+bor∧HR a bor b<4294967296:=by
 rw[NG]
 unfold HR QH
 split<;>omega
def UC (a b:List Nat) (o i c:Nat):PF:=(((((((PF.nil.set 0 (aF a)).set 1 (aF b)).set 6 (.osl o 1 0 a.length)).set 7 (.int .u64 c)).set 33 (aF a)).set 34 (.int .i64 (a.length:Nat))).set 35 (.int .i64 i))
theorem aKQ {C:Ctx} (L:nE C) (a b:List Nat) (ha:Lim a) (hb:Lim b) (hle:val b≤val a) (hl:b.length≤a.length) (h1:a.length≤1000) (F:PF) (f0:F 0=some (aF a)) (f1:F 1=some (aF b)) :
  aC.wp C (.seq (.region YK) (.seq (.region YL) (.seq (.seq (.region YM) (.block 1 (.loop PU))) (.seq (.region PZ) .ret)))) (aZ [.tmp 4,.tmp 5] (bW (szV (val a-val b)))) F .nil:=by
 have hm1:((a.length:Nat):Int)*((4:Nat):Int)≤140737488355328:=by omega
 have hm2:((a.length:Nat):Int)≤9223372036854775807:=by omega
 have hz:baH a.length [PV.int .u32 0]=aE ([]++baH a.length 0):=by
  simp[aE]
 simp -implicitDefEqProofs only[go_sem,γ,YK,f0,hm1,hm2,hz]
 refine aP fun o ho=>?_
 simp -implicitDefEqProofs only[go_sem,γ,reduceCtorEq,YL,YM,f0]
 refine wp_loop (α:=List Nat × Nat × Nat) (fun s=>UC a b s.2.2 s.1.length s.2.1) (fun s=>PH.nil.set s.2.2 (.rows 1 (aE (s.1++baH (a.length-s.1.length) 0))))
  (fun s=>s.1.length≤a.length∧Lim s.1∧s.2.1≤1∧val (a.take s.1.length)+4294967296 ^ s.1.length*s.2.1=val s.1+val (b.take s.1.length)) (fun s=>a.length-s.1.length) ([],0,o) ⟨by simp,by simp[Lim],by simp,by simp[val]⟩ ?_ ?_ ?_
 ·unfold UC
  repeat' first|exact PF.nil_le|refine PF.aA ?_ ?_|rfl|assumption
 ·exact PH.aA PH.nil_le (by simp -implicitDefEqProofs only[go_sem,bcL])
 rintro⟨P,c,q⟩ ⟨hP,hLim,hc,hval⟩
 simp only at hP hLim hc hval
 simp -implicitDefEqProofs only[go_sem,γ,reduceCtorEq,PU,aCH,UC]
 by_cases c1:P.length<a.length
 ·have c1':(P.length:Int)<(a.length:Nat):=by omega
  have hai:=ha _ (baN c1)
  obtain⟨k,hk⟩:∃ k,a.length-P.length=k+1:=⟨a.length-P.length-1,by omega⟩
  have hin:(aE (P++baH (k+1) 0))[P.length]?=some [.int .u32 ((0:Nat):Int)]:=by
   rw[bJ _ (by simp)]; simp
  have hlast:a.length-(P.length+1)=k:=by omega
  have hta:=bQ a c1
  have fin:∀ (t:Nat) (v:Int) (F':PF) (H':PH),t<4294967296→v=((a[P.length]:Int)-c-t)%18446744073709551616→val (b.take (P.length+1))=val (b.take P.length)+4294967296 ^ P.length*t →
    F' 0=some (aF a)→F' 1=some (aF b)→F' 6=some (.osl q 1 0 a.length)→F' 9=some (.int .u64 v)→F' 8=some (.int .i64 P.length)→F' 33=some (aF a)→F' 34=some (.int .i64 (a.length:Nat))→F' 35=some (.int .i64 P.length) →
    H' q=some (.rows 1 (aE (P++baH (k+1) 0)))→∀ K:cD,(∀ P' c' F2 H2,P'.length=P.length+1→Lim P'→c'≤1→val (a.take (P.length+1))+4294967296 ^ P'.length*c'=val P'+val (b.take (P.length+1))→(UC a b q P'.length c').le F2→H2 q=some (.rows 1 (aE (P'++baH k 0)))→K .normal F2 H2) →
    aC.wp C (.seq (.region PW) (.region PX)) (eO 2 (kE C (aC.wp C (.region PY)) K)) F' H':=by
   intro t v F' H' ht hv htb g0 g1 g6 g9 g8 g33 g34 g35 gH K hK
   obtain⟨e1,e2,e3,e4⟩:=asC hai ht hc v hv
   have hrow:(aE (P++baH (k+1) 0)).set P.length [.int .u32 ((HR a[P.length] c t:Nat):Int)]=aE ((P++[HR a[P.length] c t])++baH k 0):=by
    rw[eM,tF]
   simp -implicitDefEqProofs only[go_sem,γ,PW,g6,g8,g9,e1,c1',gH,hin,hrow,PX,aHC,e2,PY,g35,aL (show P.length<9223372036854775807 by omega)]
   refine hK (P++[HR a[P.length] c t]) (QH a[P.length] c t) _ _ (by simp) (hLim.app fun x hx=>by simp at hx; subst hx; exact e4) (by unfold QH; split<;>omega) ?_ ?_ (by simp -implicitDefEqProofs only[go_sem])
   ·rw[fX,baI,baL,bbS,baX,hta,htb,bcG,← baO,e3,baO,baO]
    omega
   ·unfold UC
    rw[baI,baL]
    refine PF.aA (PF.aA (PF.aA (PF.aA (PF.aA (PF.aA (PF.aA PF.nil_le ?_) ?_) ?_) ?_) ?_) ?_) ?_<;>simp -implicitDefEqProofs only[go_sem,γ,reduceCtorEq,g0,g1,g6,g33,g34]
  have ea:IntKind.u64.wrap ((a[P.length]:Nat):Int)=((a[P.length]:Nat):Int):=aW (by omega)
  simp -implicitDefEqProofs only[go_sem,γ,reduceCtorEq,c1',aqR,aqS,bJ a c1,ea,aqT]
  by_cases c3:P.length<b.length
  ·have c3':(P.length:Int)<(b.length:Nat):=by omega
   have hbi:=hb _ (baN c3)
   have htb:=bQ b c3
   have eb:IntKind.u64.wrap ((b[P.length]:Nat):Int)=((b[P.length]:Nat):Int):=aW (by omega)
   simp -implicitDefEqProofs only[go_sem,γ,reduceCtorEq,c3',aqU,bJ b c3,eb]
   refine fin b[P.length] (IntKind.u64.wrap (IntKind.u64.wrap ((a[P.length]:Int)-(c:Int))-(b[P.length]:Int))) _ _ hbi (by rw[eQ,eQ]; omega) htb ?_ ?_ ?_ ?_ ?_ ?_ ?_ ?_ ?_ _ ?_
   any_goals simp -implicitDefEqProofs only[go_sem,γ,reduceCtorEq,hk]
   intro P' c' F2 H2 e1 e2 e3 e4 e5 e6
   rw[← e1] at e4
   refine aH (P',c',q) ⟨by simp only; omega,e2,e3,e4⟩ (by simp only; omega) e5 (PH.aA PH.nil_le ?_)
   simp only
   rw[e1,hlast]; exact e6
  ·have c3':¬ (P.length:Int)<(b.length:Nat):=by omega
   have htb:val (b.take (P.length+1))=val (b.take P.length)+4294967296 ^ P.length*0:=by rw[baS (by omega),baS (by omega)]; simp
   simp -implicitDefEqProofs only[go_sem,c3']
   refine fin 0 (IntKind.u64.wrap ((a[P.length]:Int)-(c:Int))) _ _ (by decide) (by rw[eQ]; omega) htb ?_ ?_ ?_ ?_ ?_ ?_ ?_ ?_ ?_ _ ?_
   any_goals simp -implicitDefEqProofs only[go_sem,γ,reduceCtorEq,hk]
   intro P' c' F2 H2 e1 e2 e3 e4 e5 e6
   rw[← e1] at e4
   refine aH (P',c',q) ⟨by simp only; omega,e2,e3,e4⟩ (by simp only; omega) e5 (PH.aA PH.nil_le ?_)
   simp only
   rw[e1,hlast]; exact e6
 ·have e:P.length=a.length:=by omega
  have c1':¬ (P.length:Int)<(a.length:Nat):=by omega
  have hk:baH (a.length-P.length) 0=[]:=by rw[show a.length-P.length=0 by omega]; rfl
  have hV:val P=val a-val b:=by
   rw[e,bbP,baS hl] at hval
   have hlt:=dY hLim
   rw[e] at hlt
   rcases bcB c with h | h
   ·subst h; omega
   ·have:c=1:=by omega
    subst this; omega
  simp -implicitDefEqProofs only[go_sem,γ,reduceCtorEq,c1',hk,bbY,PZ]
  have hs:=L.sized _ hLim (by omega)
  rw[hV] at hs
  refine mT (o:=q) (s:=1) (k:=a.length) (rs:=aE P) (v:=szV (val a-val b)) ?_ rfl (by simp -implicitDefEqProofs only[go_sem]) (by rw[bN]; omega) ?_
  ·rw[baS (by rw[bN]; omega)]; exact hs
  ·simp -implicitDefEqProofs only[go_sem,γ,reduceCtorEq,szV]
   exact aY (.inr rfl) .nil rfl PH.nil_le ⟨.refl _,rfl⟩
def uC (a b:Nat):PV:=if eI a b then .tup [aF [],.int .i64 2] else if a<b then .tup [aF [],.int .i64 4] else szV (a-b)
theorem aVT {C:Ctx} (L:nE C) (a b:List Nat) (ha:Lim a) (hb:Lim b) (la:a.length≤16777216) (lb:b.length≤16777216) :
  GR.wp C (aZ aqQ.res (bW (uC (val a) (val b)))) (PF.args [aF a,aF b]) .nil:=by
 simp -implicitDefEqProofs only[go_sem,reduceCtorEq,GR,aCC,aCD,aqQ]
 refine aB (L.large a ha la) rfl ?_
 by_cases c1:nl (val a)>512
 ·simp -implicitDefEqProofs only[go_sem,γ,c1,YJ]
  rw[show uC (val a) (val b)=.tup [aF [],.int .i64 2] by simp[uC,eI,c1]]
  exact gJ rfl
 simp -implicitDefEqProofs only[go_sem,γ,c1]
 refine aB (L.large b hb lb) rfl ?_
 by_cases c2:nl (val b)>512
 ·simp -implicitDefEqProofs only[go_sem,γ,reduceCtorEq,c2,YJ]
  rw[show uC (val a) (val b)=.tup [aF [],.int .i64 2] by simp[uC,eI,c2]]
  exact gJ rfl
 simp -implicitDefEqProofs only[go_sem,γ,reduceCtorEq,c2,aCE]
 refine aB (L.cmp a b ha hb la lb) rfl ?_
 by_cases c3:val a<val b
 ·have hc:dB (val a) (val b)<0:=by simp[dB,c3]
  simp -implicitDefEqProofs only[go_sem,γ,hc,aCF]
  rw[show uC (val a) (val b)=.tup [aF [],.int .i64 4] by simp[uC,eI,c1,c2,c3]]
  exact gJ rfl
 have hc:¬ dB (val a) (val b)<0:=by
  unfold dB
  rw[if_neg c3]
  split<;>decide
 rw[show uC (val a) (val b)=szV (val a-val b) by simp[uC,eI,c1,c2,c3]]
 simp -implicitDefEqProofs only[go_sem,γ,hc]
 refine cC .nil aGC PH.nil_le ?_
 simp -implicitDefEqProofs only[go_sem,reduceCtorEq,aCG]
 have h1:=eK ha
 have h2:=eK hb
 have h1':((nl (val a):Nat):Int)≤(a.length:Nat):=by omega
 have h2':((nl (val b):Nat):Int)≤(b.length:Nat):=by omega
 refine cN (kU a) (L.length a ha la) rfl PH.nil_le ?_
 simp -implicitDefEqProofs only[go_sem,ν,γ,reduceCtorEq,h1',or_true,bbG,fU ha]
 refine cN (kU b) (L.length b hb lb) rfl PH.nil_le ?_
 simp -implicitDefEqProofs only[go_sem,ν,γ,reduceCtorEq,h2',or_true,bbG,fU hb]
 have va:=aV (val a)
 have vb:=aV (val b)
 have hm:=fZ (show val b≤val a by omega)
 have:=aKQ L (aG (val a)) (aG (val b)) (bB _) (bB _) (by omega) (by rw[bG,bG]; omega) (by rw[bG]; omega)
 rw[va,vb] at this
 exact this _ rfl rfl
end Go.PM
namespace Go.Na
def cS:Nat→Nat→List Nat
 | 0,_=>[]
 | k+1,n=>(n%4294967296)::cS k (n/4294967296)
theorem iQ:∀ k n,(cS k n).length=k
 | 0,_=>rfl
 | k+1,n=>by simp[cS,iQ k]
theorem zJ {xs:List Nat} (h:Lim xs):cS xs.length (val xs)=xs:=by
 induction xs with
 | nil=>rfl
 | cons x xs ih =>
  have hx:=h x (by simp)
  have e1:(x+4294967296*val xs)%4294967296=x:=by omega
  have e2:(x+4294967296*val xs)/4294967296=val xs:=by omega
  simp only[bcN,cS,val]
  rw[e1,e2,ih fun y hy=>h y (by simp[hy])]
theorem jP:∀ k n,Lim (cS k n)
 | 0,_=>fun x hx=>by cases hx
 | k+1,n=>fun x hx=>by
  simp only[cS,baP] at hx
  rcases hx with rfl | hx
  ·exact bbM _ (by decide)
  ·exact jP k _ x hx
theorem uH:∀ k n,val (cS k n)=n%4294967296 ^ k
 | 0,n=>by simp[cS,val,Nat.mod_one]
 | k+1,n=>by
  simp only[cS,val,uH k]
  rw[bbS,bbA (4294967296 ^ k) 4294967296,Nat.mod_mul]
theorem kX {k n:Nat} (h:n<4294967296 ^ k):val (cS k n)=n:=by rw[uH,bbH h]
end Go.Na
namespace Go.PM
open Go Go.Na
theorem a0U {a b:Nat} (ha:a<18446744073709551616) (hb:b<18446744073709551616):(BitVec.ofInt 64 (a:Int) ||| BitVec.ofInt 64 (b:Int)).toNat=a ||| b:=by
 rw[BitVec.ofInt_natCast,BitVec.ofInt_natCast,BitVec.toNat_or,BitVec.toNat_ofNat,BitVec.toNat_ofNat,bbH (by simpa using ha),bbH (by simpa using hb)]
theorem arF {c x s:Nat} (hc:c<2 ^ s) (h:c+2 ^ s*x<18446744073709551616):c ||| (2 ^ s*x)=c+2 ^ s*x:=by
 rw[Nat.or_comm,← Nat.two_pow_add_eq_or_of_lt hc,Nat.add_comm]
theorem orI {a b n:Nat} (ha:a<18446744073709551616) (hb:b<18446744073709551616) (h:a ||| b=n) (hn:n<18446744073709551616):iO .or .u64 (a:Int) (b:Int)=some (.int .u64 (n:Int)):=by
 show some (PV.int .u64 (IntKind.u64.wrap (((BitVec.ofInt 64 (a:Int) ||| BitVec.ofInt 64 (b:Int)).toNat:Nat):Int)))=_
 rw[a0U ha hb,h,aW hn]
theorem CB {x s:Nat} (hs:s≤64) (h:x*2 ^ s<18446744073709551616):shift .shl .u64 (x:Int) (s:Int)=some (.int .u64 ((2 ^ s*x:Nat):Int)):=by
 unfold shift
 rw[if_neg (by omega)]
 simp only
 have:min (Int.toNat (s:Int)) IntKind.u64.bits=s:=by
  rw[show IntKind.u64.bits=64 from rfl]; omega
 rw[this,show (x:Int)*2 ^ s=((x*2 ^ s:Nat):Int) by simp,aW h,bbA]
def aQQ (a:List Nat) (s o i c:Nat):PF:=(((((((PF.nil.set 0 (aF a)).set 1 (.int .u64 s)).set 5 (.osl o 1 0 (a.length+1))).set 6 (.int .u64 c)).set 13 (aF a)).set 14 (.int .i64 (a.length:Nat))).set 15 (.int .i64 i))
def upR (a:List Nat) (s:Nat) (r:PV) (H:PH):Prop:=∃ o,r=.osl o 1 0 (a.length+1)∧H=PH.nil.set o (.rows 1 (aE (cS (a.length+1) (val a*2 ^ s))))
theorem aYQ {C:Ctx} (a:List Nat) (s:Nat) (ha:Lim a) (hs:s<32) (h1:a.length≤1000):QB.wp C (aZ nup.res (upR a s)) (PF.args [aF a,.int .u64 s]) .nil:=by
 have hlen:IntKind.i64.wrap ((a.length:Int)+1)=((a.length+1:Nat):Int):=aL (by omega)
 have hm1:((a.length+1:Nat):Int)*((4:Nat):Int)≤140737488355328:=by omega
 have hm2:((a.length+1:Nat):Int)≤9223372036854775807:=by omega
 have hz:baH (a.length+1) [PV.int .u32 0]=aE ([]++baH (a.length+1) 0):=by
  simp[aE]
 have h2s:2 ^ s≤2147483648:=Nat.pow_le_pow_right (show 0<2 by decide) (show s≤31 by omega)
 have h2s0:0<2 ^ s:=bcR (by decide)
 simp -implicitDefEqProofs only[go_sem,γ,reduceCtorEq,QB,aKR,aKS,nup,hlen,hm1,hm2,hz]
 refine aP fun o ho=>?_
 simp -implicitDefEqProofs only[go_sem,γ,reduceCtorEq,aKT,aKU]
 refine wp_loop (α:=List Nat × Nat × Nat) (fun t=>aQQ a s t.2.2 t.1.length t.2.1) (fun t=>PH.nil.set t.2.2 (.rows 1 (aE (t.1++baH (a.length+1-t.1.length) 0))))
  (fun t=>t.1.length≤a.length∧Lim t.1∧t.2.1<2 ^ s∧val t.1+4294967296 ^ t.1.length*t.2.1=val (a.take t.1.length)*2 ^ s) (fun t=>a.length-t.1.length) ([],0,o) ⟨by simp,by simp[Lim],h2s0,by simp[val]⟩ ?_ ?_ ?_
 ·unfold aQQ
  (repeat' (first|exact PF.nil_le|refine PF.aA ?_ ?_))<;>first|(simp -implicitDefEqProofs only[go_sem,γ,reduceCtorEq]<;>rfl)|rfl
 ·exact PH.aA PH.nil_le (by simp -implicitDefEqProofs only[go_sem,bcL])
 rintro⟨P,c,q⟩ ⟨hP,hLim,hc,hval⟩
 simp only at hP hLim hc hval
 simp -implicitDefEqProofs only[go_sem,γ,reduceCtorEq,aCI,aKV,aQQ]
 by_cases c1:P.length<a.length
 ·have c1':(P.length:Int)<(a.length:Nat):=by omega
  have hai:=ha _ (baN c1)
  obtain⟨k,hk⟩:∃ k,a.length+1-P.length=k+1:=⟨a.length-P.length,by omega⟩
  have hin:(aE (P++baH (k+1) 0))[P.length]?=some [.int .u32 ((0:Nat):Int)]:=by
   rw[bJ _ (by simp)]; simp
  have hlast:a.length+1-(P.length+1)=k:=by omega
  have c2':(P.length:Int)<((a.length+1:Nat):Int):=by omega
  have hta:=bQ a c1
  generalize hx:a[P.length]=x at *
  have hxs:x*2 ^ s≤4294967295*2147483648:=Nat.mul_le_mul (by omega) h2s
  have ex:IntKind.u64.wrap ((x:Nat):Int)=((x:Nat):Int):=aW (by omega)
  have hxs':2 ^ s*x=x*2 ^ s:=bbA _ _
  have esh:shift .shl .u64 (x:Int) (s:Int)=some (.int .u64 ((2 ^ s*x:Nat):Int)):=CB (by omega) (by omega)
  have eor:=orI (a:=c) (b:=2 ^ s*x) (n:=c+2 ^ s*x) (by omega) (by omega) (arF hc (by omega)) (by omega)
  have hdig:(c+2 ^ s*x)/4294967296<2 ^ s:=by
   rw[bcV (by decide)]
   have:2 ^ s*(x+1)≤2 ^ s*4294967296:=bcI _ (by omega)
   rw[baO,Nat.mul_one] at this
   omega
  have hrow:(aE (P++baH (k+1) 0)).set P.length [.int .u32 (((c+2 ^ s*x)%4294967296:Nat):Int)]=aE ((P++[(c+2 ^ s*x)%4294967296])++baH k 0):=by
   rw[eM,tF]
  have hax:(aE a)[P.length]?=some [.int .u32 ((x:Nat):Int)]:=by rw[bJ a c1,hx]
  simp -implicitDefEqProofs only[go_sem,γ,reduceCtorEq,c1',aKW,aKX,hax,ex,esh,eor,aKY,bV,hk,c2',hin,hrow,aKZ,sL,aLA,aL (show P.length<9223372036854775807 by omega)]
  refine aH (P++[(c+2 ^ s*x)%4294967296],(c+2 ^ s*x)/4294967296,q) ⟨by simp; omega,hLim.app fun y hy=>by simp at hy; subst hy; exact bbM _ (by decide),hdig,?_⟩ (by simp; omega) ?_ (PH.aA PH.nil_le ?_)
  ·simp only
   rw[fX,baI,baL,bbS,baX,bcG,← baO,Nat.mod_add_div,hta,baO,bbD,← bcG,hval,hxs',baX]
  ·simp only
   rw[baI,baL]
   (repeat' (first|exact PF.nil_le|refine PF.aA ?_ ?_))<;>first|(simp -implicitDefEqProofs only[go_sem,γ,reduceCtorEq]<;>rfl)|rfl
  ·simp only
   rw[baI,baL,hlast]
   simp -implicitDefEqProofs only[go_sem]
 ·have e:P.length=a.length:=by omega
  have c1':¬ (P.length:Int)<(a.length:Nat):=by omega
  have hk:baH (a.length+1-P.length) 0=[0]:=by rw[show a.length+1-P.length=1 by omega]; rfl
  have hin:(aE (P++[0]))[a.length]?=some [.int .u32 ((0:Nat):Int)]:=by
   rw[bJ _ (by simp; omega)]
   simp[e]
  have hrow:(aE (P++[0])).set a.length [.int .u32 ((c%4294967296:Nat):Int)]=aE (P++[c]):=by
   have:=tF P 0 (c%4294967296)
   simp only[List.replicate_zero,bbY,bbF,List.replicate_one] at this
   rw[← e,eM,this,bbH (by omega)]
  have c2':(a.length:Int)<((a.length+1:Nat):Int):=by omega
  have hV:val (P++[c])=val a*2 ^ s:=by
   rw[fX,hval,e,bbP]
  have hLc:Lim (P++[c]):=hLim.app fun x hx=>by simp at hx; omega
  have hD:cS (a.length+1) (val a*2 ^ s)=P++[c]:=by
   have:=zJ hLc
   rw[hV,baI,baL,e] at this
   exact this
  simp -implicitDefEqProofs only[go_sem,γ,reduceCtorEq,c1',aCJ,bV,hk,hin,c2',hrow,aCK]
  exact aY (vs:=[.osl q 1 0 (a.length+1)]) (.inr rfl) (PH.nil.set q (.rows 1 (aE (P++[c])))) (by simp -implicitDefEqProofs only[go_sem,γ,reduceCtorEq]<;>rfl) (PH.aA PH.nil_le (by simp -implicitDefEqProofs only[go_sem])) ⟨q,rfl,by rw[hD]⟩
def YI (a:List Nat) (d o k r:Nat):PF:=(((((PF.nil.set 0 (aF a)).set 1 (.int .u32 d)).set 6 (.osl o 1 0 a.length)).set 7 (.int .u64 r)).set 8 (.int .i64 ((k:Int)-1)))
theorem aKM {C:Ctx} (L:nE C) (a:List Nat) (d:Nat) (ha:Lim a) (hd0:0<d) (hd:d<4294967296) (h1:a.length≤1000) :
  wZ.wp C (aZ GP.res (aK (.tup [aF (aG (val a/d)),.int .u32 ((val a%d:Nat):Int)]))) (PF.args [aF a,.int .u32 d]) .nil:=by
 have hm1:((a.length:Nat):Int)*((4:Nat):Int)≤140737488355328:=by omega
 have hm2:((a.length:Nat):Int)≤9223372036854775807:=by omega
 have hz:baH a.length [PV.int .u32 0]=aE (baH a.length 0++[]):=by
  simp[aE]
 simp -implicitDefEqProofs only[go_sem,γ,reduceCtorEq,wZ,acJ,acK,GP,hm1,hm2,hz]
 refine aP fun o ho=>?_
 simp -implicitDefEqProofs only[go_sem,γ,reduceCtorEq,acL,acM]
 refine wp_loop (α:=Nat × List Nat × Nat × Nat) (fun t=>YI a d t.2.2.2 t.1 t.2.2.1) (fun t=>PH.nil.set t.2.2.2 (.rows 1 (aE (baH t.1 0++t.2.1))))
  (fun t=>t.1+t.2.1.length=a.length∧Lim t.2.1∧t.2.2.1<d∧val t.2.1*d+t.2.2.1=val (a.drop t.1)) (fun t=>t.1) (a.length,[],0,o) ⟨by simp,by simp[Lim],hd0,by simp[val]⟩ ?_ ?_ ?_
 ·unfold YI
  (repeat' (first|exact PF.nil_le|refine PF.aA ?_ ?_))<;>first|(simp -implicitDefEqProofs only[go_sem,γ,reduceCtorEq,wrap_i64 (show -9223372036854775808≤((a.length:Nat):Int)-1 by omega) (show ((a.length:Nat):Int)-1≤9223372036854775807 by omega)]<;>rfl)|rfl
 ·exact PH.aA PH.nil_le (by simp -implicitDefEqProofs only[go_sem])
 rintro⟨k,S,r,q⟩ ⟨hk,hLim,hr,hval⟩
 simp only at hk hLim hr hval
 simp -implicitDefEqProofs only[go_sem,γ,reduceCtorEq,acI,acN,YI]
 by_cases h0:0<k
 ·obtain⟨m,rfl⟩:∃ m,k=m+1:=⟨k-1,by omega⟩
  have hzz:((m+1:Nat):Int)-1=(m:Int):=by omega
  have hge:(m:Int)≥0:=by omega
  have hml:m<a.length:=by omega
  have hlt:(m:Int)<(a.length:Nat):=by omega
  have hai:=ha _ (baN hml)
  have hdrop:val (a.drop m)=a[m]+4294967296*val (a.drop (m+1)):=by rw[bcD hml]; rfl
  generalize hx:a[m]=x at *
  have hax:(aE a)[m]?=some [.int .u32 ((x:Nat):Int)]:=by rw[bJ a hml,hx]
  have ex:IntKind.u64.wrap ((x:Nat):Int)=((x:Nat):Int):=aW (by omega)
  have ed:IntKind.u64.wrap ((d:Nat):Int)=((d:Nat):Int):=aW (by omega)
  have esh:shift .shl .u64 (r:Int) 32=some (.int .u64 ((2 ^ 32*r:Nat):Int)):=CB (s:=32) (by omega) (by omega)
  have e32:(2:Nat) ^ 32=4294967296:=by decide
  have eor:=orI (a:=2 ^ 32*r) (b:=x) (n:=2 ^ 32*r+x) (by omega) (by omega) (Nat.two_pow_add_eq_or_of_lt (by omega) r).symm (by omega)
  rw[e32] at esh eor
  have hq:(4294967296*r+x)/d<4294967296:=by
   rw[bcV hd0]
   have:4294967296*(r+1)≤4294967296*d:=bcI _ hr
   omega
  have hdd:¬ ((d:Nat):Int)=0:=by omega
  have equo:IntKind.u64.wrap (Int.tdiv ((4294967296*r+x:Nat):Int) ((d:Nat):Int))=(((4294967296*r+x)/d:Nat):Int):=by
   rw[show Int.tdiv ((4294967296*r+x:Nat):Int) ((d:Nat):Int)=(((4294967296*r+x)/d:Nat):Int) from rfl]
   exact aW (by omega)
  have erem:Int.tmod ((4294967296*r+x:Nat):Int) ((d:Nat):Int)=(((4294967296*r+x)%d:Nat):Int):=rfl
  have ec:IntKind.u32.wrap (((4294967296*r+x)/d:Nat):Int)=(((4294967296*r+x)/d:Nat):Int):=by rw[bV,bbH hq]
  have hrep:baH (m+1) 0++S=baH m 0++(0::S):=by
   rw[List.replicate_succ',bbJ]; rfl
  have hin:(aE (baH m 0++(0::S)))[m]?=some [.int .u32 ((0:Nat):Int)]:=by
   rw[bJ _ (by simp)]; simp
  have hrow:(aE (baH m 0++(0::S))).set m [.int .u32 (((4294967296*r+x)/d:Nat):Int)]=aE (baH m 0++(((4294967296*r+x)/d)::S)):=by
   rw[eM,bdG _ _ (by simp)]; simp
  simp -implicitDefEqProofs only[go_sem,γ,reduceCtorEq,hzz,hge,acO,esh,hax,ex,eor,acP,ed,hdd,equo,ec,hlt,hrep,hin,hrow,acQ,erem,acR]
  refine aH (m,((4294967296*r+x)/d)::S,(4294967296*r+x)%d,q) ⟨by simp only[bcN]; omega,fun y hy=>?_,bbM _ hd0,?_⟩ (by simp only; omega) ?_ (PH.aA PH.nil_le (by simp -implicitDefEqProofs only[go_sem]))
  ·rw[baP] at hy
   rcases hy with rfl | hy
   ·exact hq
   ·exact hLim y hy
  ·simp only[val]
   rw[hdrop,← hval,bbD,baO,baX]
   have:=bdH (4294967296*r+x) d
   rw[bbA d] at this
   omega
  ·(repeat' (first|exact PF.nil_le|refine PF.aA ?_ ?_))<;>first|(simp -implicitDefEqProofs only[go_sem,γ,reduceCtorEq,wrap_i64 (show -9223372036854775808≤(m:Int)-1 by omega) (show (m:Int)-1≤9223372036854775807 by omega)]<;>rfl)|rfl
 ·have:k=0:=by omega
  subst this
  have hzz:¬ ((0:Nat):Int)-1≥0:=by decide
  rw[bbG] at hval
  have hS:S.length=a.length:=by omega
  have hq:val S=val a/d:=by
   rw[← hval,bbA,Nat.mul_add_div hd0,bdI hr,bcH]
  have hrm:r=val a%d:=by rw[← hval,bbA,Nat.mul_add_mod,bbH hr]
  have hn0:baH 0 0++S=S:=by simp
  simp -implicitDefEqProofs only[go_sem,υ,γ,reduceCtorEq,hzz,UB,List.nil_append]
  have hl:=L.length S hLim (by omega)
  have hnl:=eK hLim
  have hc:((nl (val S):Nat):Int)≤(S.length:Nat):=by omega
  refine mT (o:=q) (s:=1) (k:=a.length) (rs:=aE S) (v:=.int .i64 (nl (val S):Nat)) ?_ (by simp -implicitDefEqProofs only[go_sem,γ,reduceCtorEq]) (by simp -implicitDefEqProofs only[go_sem]) (by rw[bN]; omega) ?_
  ·rw[baS (by rw[bN]; omega)]; exact hl
  ·have hfz:PV.frz q 1 (aE S) (.osl q 1 0 a.length)=aF S:=by
    have:0+a.length≤(aE S).length:=by rw[bN]; omega
    simp only[PV.frz,PV.pA,PV.cZ,if_true,true_and,if_pos this,bbG]
    rw[baS (by rw[bN]; omega)]
   have hfi:∀ n:Int,∀ k,PV.frz q 1 (aE S) (.int k n)=.int k n:=fun _ _=>rfl
   have er:IntKind.u32.wrap ((r:Nat):Int)=((r:Nat):Int):=by rw[bV,bbH (by omega)]
   simp -implicitDefEqProofs only[go_sem,ν,γ,reduceCtorEq,hfz,hfi,hc,or_true,bbG,fU hLim,er]
   refine aY (vs:=[aF (aG (val S)),.int .u32 ((r:Nat):Int)]) (.inr rfl) .nil (by simp -implicitDefEqProofs only[go_sem,γ,reduceCtorEq]<;>rfl) PH.nil_le ⟨?_,rfl⟩
   simp only[cU,← hq,← hrm]
end Go.PM
namespace Go.Na
theorem yZ {L:List Nat} {i:Nat} (h:i<L.length) (v:Nat):val (L.set i v)+4294967296 ^ i*L[i]=val L+4294967296 ^ i*v:=by
 have h':i<(L.set i v).length:=by rw[bdB]; exact h
 rw[oI L h,oI (L.set i v) h',List.getElem_set_self,List.take_set_of_le (baJ _),List.drop_set_of_lt (by omega),baO,baO]
 omega
theorem WT {L:List Nat} {i:Nat} (h:∀ (j x:Nat),i≤j→L[j]?=some x→x=0) (k v:Nat) (hk:k<i):∀ (j x:Nat),i≤j→(L.set k v)[j]?=some x→x=0:=fun j x hj hx=>by
 rw[List.getElem?_set_ne (by omega)] at hx
 exact h j x hj hx
end Go.Na
namespace Go.PM
open Go Go.Na
def hC (a b:List Nat) (o i:Nat):PF:=((((((PF.nil.set 0 (aF a)).set 1 (aF b)).set 6 (.osl o 1 0 (a.length+b.length))).set 32 (aF a)).set 33 (.int .i64 (a.length:Nat))).set 34 (.int .i64 i))
def aGN (a b:List Nat) (o i x c j:Nat):PF:=((((((((((((PF.nil.set 0 (aF a)).set 1 (aF b)).set 6 (.osl o 1 0 (a.length+b.length))).set 32 (aF a)).set 33 (.int .i64 (a.length:Nat))).set 34 (.int .i64 i)).set 7 (.int .i64 i)).set 8 (.int .u32 x)).set 9 (.int .u64 c)).set 39 (aF b)).set 40 (.int .i64 (b.length:Nat))).set 41 (.int .i64 j))
structure yB (a b L:List Nat) (i:Nat):Prop where
 len:L.length=a.length+b.length
 lim:Lim L
 v:val L=val (a.take i)*val b
 z:∀ j x,i+b.length≤j→L[j]?=some x→x=0
theorem aAT {x y:Nat} (hx:x<4294967296) (hy:y<4294967296):IntKind.u64.wrap ((x:Int)*(y:Int))=((x*y:Nat):Int):=by
 have:x*y≤4294967295*4294967295:=Nat.mul_le_mul (by omega) (by omega)
 rw[show (x:Int)*(y:Int)=((x*y:Nat):Int) by simp]
 exact aW (by omega)
theorem fD {a b:Nat} (h:a+b≤9223372036854775807):IntKind.i64.wrap ((a:Int)+(b:Int))=((a+b:Nat):Int):=by
 rw[wrap_i64 (by omega) (by omega)]; omega
theorem aQN {C:Ctx} (a b:List Nat) (ha:Lim a) (hb:Lim b) (h1:a.length≤1000) (h2:b.length≤1000) (L:List Nat) (i:Nat) (hi:i<a.length) (hI:yB a b L i) (q:Nat) (K:cD) (F:PF) (H:PH) (hF:(hC a b q i).le F) (hH:H q=some (.rows 1 (aE L)))
  (hK:∀ L' F' H',yB a b L' (i+1)→(hC a b q i).le F'→H' q=some (.rows 1 (aE L'))→K .normal F' H') :
  aC.wp C (.block 1 (.seq (.region YF) (.seq (.region YG) (.seq (.seq (.region YH) (.block 2 (.loop PQ))) (.region PS))))) K F H:=by
 have f0:=hF 0 _ (by unfold hC; simp -implicitDefEqProofs only[go_sem,reduceCtorEq]; rfl)
 have f1:=hF 1 _ (by unfold hC; simp -implicitDefEqProofs only[go_sem,γ,reduceCtorEq]; rfl)
 have f6:=hF 6 _ (by unfold hC; simp -implicitDefEqProofs only[go_sem,γ,reduceCtorEq]; rfl)
 have f32:=hF 32 _ (by unfold hC; simp -implicitDefEqProofs only[go_sem,γ,reduceCtorEq]; rfl)
 have f33:=hF 33 _ (by unfold hC; simp -implicitDefEqProofs only[go_sem,γ,reduceCtorEq]; rfl)
 have f34:=hF 34 _ (by unfold hC; simp -implicitDefEqProofs only[go_sem,γ,reduceCtorEq]; rfl)
 have hx:=ha _ (baN hi)
 have hta:=bQ a hi
 generalize hxe:a[i]=x at *
 have hax:(aE a)[i]?=some [.int .u32 ((x:Nat):Int)]:=by rw[bJ a hi,hxe]
 simp -implicitDefEqProofs only[go_sem,γ,YF,YG,YH,f32,f34,f1,hax]
 refine wp_loop (α:=List Nat × Nat × Nat) (fun t=>aGN a b q i x t.2.1 t.2.2) (fun t=>PH.nil.set q (.rows 1 (aE t.1)))
  (fun t=>t.2.2≤b.length∧t.1.length=a.length+b.length∧Lim t.1∧t.2.1<4294967296∧val t.1+4294967296 ^ (i+t.2.2)*t.2.1=val (a.take i)*val b+4294967296 ^ i*(x*val (b.take t.2.2))∧∀ j y,i+b.length≤j→t.1[j]?=some y→y=0) (fun t=>b.length-t.2.2) (L,0,0)
  ⟨by simp,hI.len,hI.lim,by simp,by simp[val,hI.v],hI.z⟩ ?_ (PH.aA PH.nil_le hH) ?_
 ·unfold aGN
  repeat' first|exact PF.nil_le|refine PF.aA ?_ ?_|rfl|assumption
 rintro⟨M,c,j⟩ ⟨hj,hM,hLim,hc,hval,hz⟩
 simp only at hj hM hLim hc hval hz
 simp -implicitDefEqProofs only[go_sem,γ,reduceCtorEq,PQ,aqI,aGN]
 by_cases c1:j<b.length
 ·have c1':(j:Int)<(b.length:Nat):=by omega
  have hy:=hb _ (baN c1)
  have htb:=bQ b c1
  generalize hye:b[j]=y at *
  have hby:(aE b)[j]?=some [.int .u32 ((y:Nat):Int)]:=by rw[bJ b c1,hye]
  have hij:i+j<M.length:=by omega
  have hz0:=hLim _ (baN hij)
  have hset:=yZ hij
  generalize hze:M[i+j]=z at *
  have hMz:(aE M)[i+j]?=some [.int .u32 ((z:Nat):Int)]:=by rw[bJ M hij,hze]
  have ex:IntKind.u64.wrap ((x:Nat):Int)=((x:Nat):Int):=aW (by omega)
  have ey:IntKind.u64.wrap ((y:Nat):Int)=((y:Nat):Int):=aW (by omega)
  have ez:IntKind.u64.wrap ((z:Nat):Int)=((z:Nat):Int):=aW (by omega)
  have em:=aAT hx hy
  have hxy:x*y≤4294967295*4294967295:=Nat.mul_le_mul (by omega) (by omega)
  have e1:IntKind.u64.wrap (((x*y:Nat):Int)+(z:Int))=((x*y+z:Nat):Int):=dZ (by omega)
  have e2:IntKind.u64.wrap ((c:Int)+((x*y+z:Nat):Int))=((c+(x*y+z):Nat):Int):=dZ (by omega)
  have eij:IntKind.i64.wrap ((i:Int)+(j:Int))=((i+j:Nat):Int):=fD (by omega)
  have hlt:((i+j:Nat):Int)<((a.length+b.length:Nat):Int):=by omega
  generalize ht:c+(x*y+z)=t at *
  have htt:t<4294967296*4294967296:=by omega
  have hrow:(aE M).set (i+j) [.int .u32 ((t%4294967296:Nat):Int)]=aE (M.set (i+j) (t%4294967296)):=eM M (i+j) _
  simp -implicitDefEqProofs only[go_sem,γ,reduceCtorEq,c1',aqJ,hby,aqK,ex,ey,em,eij,hlt,hMz,ez,e1,e2,aqL,bV,hrow,aqM,sL,aqN,aL (show j<9223372036854775807 by omega)]
  refine aH (M.set (i+j) (t%4294967296),t/4294967296,j+1) ⟨by simp only; omega,by simp only[bdB]; exact hM,hLim.set _ (bbM _ (by decide)),by simp only; omega,?_,WT hz _ _ (by omega)⟩ (by simp only; omega) ?_ (PH.aA PH.nil_le (by simp -implicitDefEqProofs only[go_sem]))
  ·simp only
   have h3:=hset (t%4294967296)
   have h4:4294967296 ^ (i+(j+1))*(t/4294967296)+4294967296 ^ (i+j)*(t%4294967296)=4294967296 ^ (i+j)*t:=by
    rw[← bcG,bbS,baX,← baO,bdH]
   have h5:4294967296 ^ (i+j)*t=4294967296 ^ (i+j)*c+(4294967296 ^ (i+j)*(x*y)+4294967296 ^ (i+j)*z):=by rw[← ht,baO,baO]
   have h6:4294967296 ^ i*(x*val (b.take (j+1)))=4294967296 ^ i*(x*val (b.take j))+4294967296 ^ (i+j)*(x*y):=by
    rw[htb,baO,baO,Nat.pow_add]
    congr 1
    rw[Nat.mul_left_comm x,baX]
   omega
  ·(repeat' (first|exact PF.nil_le|refine PF.aA ?_ ?_))<;>first|(simp -implicitDefEqProofs only[go_sem,γ,reduceCtorEq]<;>rfl)|rfl
 ·have he:j=b.length:=by omega
  have c1':¬ (j:Int)<(b.length:Nat):=by omega
  subst he
  have hij:i+b.length<M.length:=by omega
  have hz0:M[i+b.length]=0:=hz _ _ (baJ _) (baQ hij)
  have hset:=yZ hij
  have hMz:(aE M)[i+b.length]?=some [.int .u32 ((0:Nat):Int)]:=by rw[bJ M hij,hz0]
  have eij:IntKind.i64.wrap ((i:Int)+((b.length:Nat):Int))=((i+b.length:Nat):Int):=fD (by omega)
  have hlt:((i+b.length:Nat):Int)<((a.length+b.length:Nat):Int):=by omega
  have hrow:(aE M).set (i+b.length) [.int .u32 ((c%4294967296:Nat):Int)]=aE (M.set (i+b.length) c):=by
   rw[bbH hc]; exact eM M _ _
  simp -implicitDefEqProofs only[go_sem,γ,reduceCtorEq,c1',PS,eij,bV,hlt,hMz,hrow]
  refine hK (M.set (i+b.length) c) _ _ ⟨by rw[bdB]; exact hM,hLim.set _ hc,?_,fun j y hj hy=>?_⟩ (by unfold hC; (repeat' (first|exact PF.nil_le|refine PF.aA ?_ ?_))<;>first|(simp -implicitDefEqProofs only[go_sem,γ,reduceCtorEq]<;>rfl)|rfl) (by simp -implicitDefEqProofs only[go_sem])
  ·have h3:=hset c
   rw[hz0,Nat.mul_zero,bcH] at h3
   rw[h3,hval,bbP,hta,bbD,baX]
  ·rw[List.getElem?_set_ne (by omega)] at hy
   exact hz j y (by omega) hy
theorem aKL {C:Ctx} (L:nE C) (a b:List Nat) (ha:Lim a) (hb:Lim b) (h1:a.length≤1000) (h2:b.length≤1000) (F:PF) (f0:F 0=some (aF a)) (f1:F 1=some (aF b)) :
  aC.wp C (.seq (.region YD) (.seq (.seq (.region YE) (.block 0 (.loop PR))) (.seq (.region PT) .ret))) (aZ [.tmp 4,.tmp 5] (bW (szV (val a*val b)))) F .nil:=by
 have hlen:IntKind.i64.wrap (((a.length:Nat):Int)+((b.length:Nat):Int))=((a.length+b.length:Nat):Int):=fD (by omega)
 have hm1:((a.length+b.length:Nat):Int)*((4:Nat):Int)≤140737488355328:=by omega
 have hm2:((a.length+b.length:Nat):Int)≤9223372036854775807:=by omega
 have hz:baH (a.length+b.length) [PV.int .u32 0]=aE (baH (a.length+b.length) 0):=by
  simp[aE]
 simp -implicitDefEqProofs only[go_sem,γ,YD,f0,f1,hlen,hm1,hm2,hz]
 refine aP fun o ho=>?_
 simp -implicitDefEqProofs only[go_sem,γ,reduceCtorEq,YE,f0]
 refine wp_loop (α:=List Nat × Nat) (fun t=>hC a b o t.2) (fun t=>PH.nil.set o (.rows 1 (aE t.1))) (fun t=>t.2≤a.length∧yB a b t.1 t.2) (fun t=>a.length-t.2) (baH (a.length+b.length) 0,0)
  ⟨by simp,by simp,rG _,by simp[val,oL],fun j x _ hx=>by rw[List.getElem?_replicate] at hx; split at hx<;>simp_all⟩ ?_ (PH.aA PH.nil_le (by simp -implicitDefEqProofs only[go_sem])) ?_
 ·unfold hC
  repeat' first|exact PF.nil_le|refine PF.aA ?_ ?_|rfl|assumption
 rintro⟨M,i⟩ ⟨hi,hI⟩
 simp only at hi hI
 simp -implicitDefEqProofs only[go_sem,γ,reduceCtorEq,PR,aCB,hC]
 by_cases c1:i<a.length
 ·have c1':(i:Int)<(a.length:Nat):=by omega
  have key:=aQN (C:=C) a b ha hb h1 h2 M i c1 hI o
  simp -implicitDefEqProofs only[go_sem] at key
  simp -implicitDefEqProofs only[go_sem,c1']
  refine key _ _ _ (by unfold hC; (repeat' (first|exact PF.nil_le|refine PF.aA ?_ ?_))<;>first|(simp -implicitDefEqProofs only[go_sem,γ,reduceCtorEq]<;>rfl)|rfl) (by simp -implicitDefEqProofs only[go_sem]) ?_
  intro L' F' H' hI' hF' hH'
  have g34:=hF' 34 _ (by unfold hC; simp -implicitDefEqProofs only[go_sem,γ,reduceCtorEq]; rfl)
  have g0:=hF' 0 _ (by unfold hC; simp -implicitDefEqProofs only[go_sem,reduceCtorEq]; rfl)
  have g1:=hF' 1 _ (by unfold hC; simp -implicitDefEqProofs only[go_sem,γ,reduceCtorEq]; rfl)
  have g6:=hF' 6 _ (by unfold hC; simp -implicitDefEqProofs only[go_sem,γ,reduceCtorEq]; rfl)
  have g32:=hF' 32 _ (by unfold hC; simp -implicitDefEqProofs only[go_sem,γ,reduceCtorEq]; rfl)
  have g33:=hF' 33 _ (by unfold hC; simp -implicitDefEqProofs only[go_sem,γ,reduceCtorEq]; rfl)
  simp -implicitDefEqProofs only[go_sem,aqO,g34,aL (show i<9223372036854775807 by omega)]
  refine aH (L',i+1) ⟨by simp only; omega,hI'⟩ (by simp only; omega) ?_ (PH.aA PH.nil_le hH')
  repeat' first|exact PF.nil_le|refine PF.aA ?_ ?_|rfl|assumption
 ·have he:i=a.length:=by omega
  subst he
  have c1':¬ ((a.length:Nat):Int)<(a.length:Nat):=by omega
  have hV:val M=val a*val b:=by rw[hI.v,bbP]
  simp -implicitDefEqProofs only[go_sem,γ,reduceCtorEq,PT]
  have hs:=L.sized _ hI.lim (by rw[hI.len]; omega)
  rw[hV] at hs
  refine mT (o:=o) (s:=1) (k:=a.length+b.length) (rs:=aE M) (v:=szV (val a*val b)) ?_ rfl (by simp -implicitDefEqProofs only[go_sem]) (by rw[bN,hI.len]; exact baJ _) ?_
  ·rw[baS (by rw[bN,hI.len]; exact baJ _)]; exact hs
  ·simp -implicitDefEqProofs only[go_sem,γ,reduceCtorEq,szV]
   exact aY (.inr rfl) .nil rfl PH.nil_le ⟨.refl _,rfl⟩
theorem aVR {C:Ctx} (L:nE C) (a b:List Nat) (ha:Lim a) (hb:Lim b) (la:a.length≤16777216) (lb:b.length≤16777216) :
  GM.wp C (aZ aqH.res (bW (opV (eI (val a) (val b)) (val a*val b)))) (PF.args [aF a,aF b]) .nil:=by
 simp -implicitDefEqProofs only[go_sem,reduceCtorEq,GM,aBY,aBZ,aqH]
 refine aB (L.large a ha la) rfl ?_
 by_cases c1:nl (val a)>512
 ·simp -implicitDefEqProofs only[go_sem,γ,c1,YC]
  rw[show opV (eI (val a) (val b)) (val a*val b)=.tup [aF [],.int .i64 2] by simp[opV,eI,c1]]
  exact gJ rfl
 simp -implicitDefEqProofs only[go_sem,γ,c1]
 refine aB (L.large b hb lb) rfl ?_
 by_cases c2:nl (val b)>512
 ·simp -implicitDefEqProofs only[go_sem,γ,reduceCtorEq,c2,YC]
  rw[show opV (eI (val a) (val b)) (val a*val b)=.tup [aF [],.int .i64 2] by simp[opV,eI,c2]]
  exact gJ rfl
 have e:opV (eI (val a) (val b)) (val a*val b)=szV (val a*val b):=by simp[opV,eI,c1,c2]
 rw[e]
 simp -implicitDefEqProofs only[go_sem,γ,reduceCtorEq,c2]
 refine cC .nil aGC PH.nil_le ?_
 simp -implicitDefEqProofs only[go_sem,reduceCtorEq,aCA]
 have h1:=eK ha
 have h2:=eK hb
 have h1':((nl (val a):Nat):Int)≤(a.length:Nat):=by omega
 have h2':((nl (val b):Nat):Int)≤(b.length:Nat):=by omega
 refine cN (kU a) (L.length a ha la) rfl PH.nil_le ?_
 simp -implicitDefEqProofs only[go_sem,ν,γ,reduceCtorEq,h1',or_true,bbG,fU ha]
 refine cN (kU b) (L.length b hb lb) rfl PH.nil_le ?_
 simp -implicitDefEqProofs only[go_sem,ν,γ,reduceCtorEq,h2',or_true,bbG,fU hb]
 have va:=aV (val a)
 have vb:=aV (val b)
 have:=aKL L (aG (val a)) (aG (val b)) (bB _) (bB _) (by rw[bG]; omega) (by rw[bG]; omega)
 rw[va,vb] at this
 have:=fun F f0 f1=>this F f0 f1
 simp -implicitDefEqProofs only[go_sem] at this
 exact this _ rfl rfl
end Go.PM
namespace Go.PM
open Go Go.Na
theorem UL {A P W Z:List Nat} {i:Nat} (hP:P.length=i) (hi:i<W.length):(aE (A++(P++W.drop i)++Z))[A.length+i]?=some [.int .u32 ((W[i]:Nat):Int)]:=by
 have hl:A.length+i<(A++(P++W.drop i)++Z).length:=by simp; omega
 rw[bJ _ hl]
 congr 4
 rw[List.getElem_append_left (by simp; omega),List.getElem_append_right (by omega),List.getElem_append_right (by omega),List.getElem_drop]
 congr 1
 omega
theorem yT {A P W Z:List Nat} {i:Nat} (hP:P.length=i) (hi:i<W.length) (v:Nat):(aE (A++(P++W.drop i)++Z)).set (A.length+i) [.int .u32 (v:Int)]=aE (A++((P++[v])++W.drop (i+1))++Z):=by
 rw[eM]
 congr 1
 rw[List.set_append_left _ _ (by simp; omega),bdG _ _ (by omega),bdG _ _ (by omega),bcD hi]
 rw[show A.length+i-A.length-P.length=0 by omega,List.set_cons_zero]
 simp
theorem aNX {t:Nat} (h:t<18446744073709551616):iO .and .u64 (t:Int) 4294967295=some (.int .u64 ((t%4294967296:Nat):Int)):=by
 show some (PV.int .u64 (IntKind.u64.wrap (((BitVec.ofInt 64 (t:Int) &&& BitVec.ofInt 64 (4294967295:Int)).toNat:Nat):Int)))=_
 have e:BitVec.ofInt 64 (4294967295:Int)=BitVec.ofNat 64 4294967295:=by rfl
 rw[e,BitVec.ofInt_natCast,BitVec.toNat_and,BitVec.toNat_ofNat,BitVec.toNat_ofNat,bbH (by simpa using h)]
 have e2:(4294967295:Nat)%2 ^ 64=2 ^ 32-1:=by decide
 rw[e2,Nat.and_two_pow_sub_one_eq_mod]
 rw[aW (Nat.lt_of_lt_of_le (bbM _ (by decide)) (by decide))]
theorem aNZ {c f x:Nat} (hc:c<4294967296) (hf:f≤4294967296) (hx:x<4294967296):c+f*x<18446744073709551616∧(c+f*x)/4294967296<4294967296∧f*x≤4294967296*4294967295:=by
 have:f*x≤4294967296*4294967295:=Nat.mul_le_mul hf (by omega)
 refine⟨by omega,?_,this⟩
 omega
def aqV (v:List Nat) (j o i c b:Nat) (f:Nat):PF:=((((((((PF.nil.set 0 (.osl o 1 j (v.length+1))).set 1 (aF v)).set 2 (.int .u64 f)).set 7 (.int .u64 c)).set 8 (.int .u64 b)).set 13 (aF v)).set 14 (.int .i64 (v.length:Nat))).set 15 (.int .i64 i))
def CC (n w m:Nat):Nat:=if w<m then w+4294967296 ^ n-m else w-m
theorem aqW {C:Ctx} (A W Z v:List Nat) (f:Nat) (hW:Lim W) (hv:Lim v) (hl:W.length=v.length+1) (h1:A.length+v.length≤100000) (hf:f≤4294967296) (hfit:val v*f≤val W+4294967296 ^ (v.length+1)) (o:Nat) :
  qC.wp C (aZ rK.res (fun r H'=>r=.bool (decide (val W<val v*f))∧H'=PH.nil.set o (.rows 1 (aE (A++cS (v.length+1) (CC (v.length+1) (val W) (val v*f))++Z)))))
   (PF.args [.osl o 1 A.length (v.length+1),aF v,.int .u64 f]) (PH.nil.set o (.rows 1 (aE (A++W++Z)))):=by
 simp -implicitDefEqProofs only[go_sem,γ,qC,GT,GU,GW,rK]
 refine wp_loop (α:=List Nat × Nat × Nat) (fun t=>aqV v A.length o t.1.length t.2.1 t.2.2 f) (fun t=>PH.nil.set o (.rows 1 (aE (A++(t.1++W.drop t.1.length)++Z))))
  (fun t=>t.1.length≤v.length∧Lim t.1∧t.2.1<4294967296∧t.2.2≤1∧val (W.take t.1.length)+4294967296 ^ t.1.length*t.2.2+4294967296 ^ t.1.length*t.2.1=val t.1+val (v.take t.1.length)*f) (fun t=>v.length-t.1.length) ([],0,0)
  ⟨by simp,by simp[Lim],by simp,by simp,by simp[val]⟩ ?_ (PH.aA PH.nil_le (by simp -implicitDefEqProofs only[go_sem,bcL,bbG,List.nil_append])) ?_
 ·unfold aqV
  (repeat' (first|exact PF.nil_le|refine PF.aA ?_ ?_))<;>first|(simp -implicitDefEqProofs only[go_sem,γ,reduceCtorEq]<;>rfl)|rfl
 rintro⟨P,c,b⟩ ⟨hP,hLim,hc,hb,hval⟩
 simp only at hP hLim hc hb hval
 simp -implicitDefEqProofs only[go_sem,γ,reduceCtorEq,DP,GX,aqV]
 by_cases c1:P.length<v.length
 ·have c1':(P.length:Int)<(v.length:Nat):=by omega
  have c2:P.length<W.length:=by omega
  have c2':(P.length:Int)<((v.length+1:Nat):Int):=by omega
  have hx:=hv _ (baN c1)
  have hw:=hW _ (baN c2)
  have htv:=bQ v c1
  have htw:=bQ W c2
  have hat:=UL (A:=A) (Z:=Z) (P:=P) rfl c2
  have hset:=yT (A:=A) (Z:=Z) (P:=P) rfl c2
  generalize hxe:v[P.length]=x at *
  generalize hwe:W[P.length]=y at *
  have hvx:(aE v)[P.length]?=some [.int .u32 ((x:Nat):Int)]:=by rw[bJ v c1,hxe]
  obtain⟨k1,k2,k3⟩:=aNZ hc hf hx
  have ex:IntKind.u64.wrap ((x:Nat):Int)=((x:Nat):Int):=aW (by omega)
  have ey:IntKind.u64.wrap ((y:Nat):Int)=((y:Nat):Int):=aW (by omega)
  have em:IntKind.u64.wrap ((f:Int)*(x:Int))=((f*x:Nat):Int):=by
   rw[show (f:Int)*(x:Int)=((f*x:Nat):Int) by simp]
   exact aW (by omega)
  have hlt64:c+f*x<18446744073709551616:=k1
  have ea:IntKind.u64.wrap ((c:Int)+((f*x:Nat):Int))=((c+f*x:Nat):Int):=dZ hlt64
  have eand:=aNX hlt64
  have hvt:val (v.take (P.length+1))*f=val (v.take P.length)*f+4294967296 ^ P.length*(f*x):=by rw[htv,bbD,baX,bbA x f]
  generalize f*x=fx at *
  have hmod:(c+fx)%4294967296<4294967296:=bbM _ (by decide)
  obtain⟨s1,s2,s3,s4⟩:=asC (a:=y) (bor:=b) (b:=(c+fx)%4294967296) hw hmod hb (IntKind.u64.wrap (IntKind.u64.wrap ((y:Int)-(((c+fx)%4294967296:Nat):Int))-(b:Int))) (by rw[eQ,eQ]; omega)
  generalize hd:HR y b ((c+fx)%4294967296)=d at *
  generalize hbb:QH y b ((c+fx)%4294967296)=b' at *
  have hb':b'≤1:=by rw[← hbb]; unfold QH; split<;>omega
  have hs:=hset d
  simp -implicitDefEqProofs only[go_sem,γ,reduceCtorEq,c1',GY,hvx,GZ,ex,em,ea,HA,c2',hat,ey,eand,HB,s1,hs,HC,aHC,s2,HD,sL,DQ,aL (show P.length<9223372036854775807 by omega)]
  refine aH (P++[d],(c+fx)/4294967296,b') ⟨by simp; omega,hLim.app fun z hz=>by simp at hz; omega,k2,hb',?_⟩ (by simp; omega) ?_ (PH.aA PH.nil_le ?_)
  ·simp only
   rw[baI,baL,fX,htw,hvt,bbS,baX,baX]
   have h4:4294967296 ^ P.length*y+4294967296 ^ P.length*(4294967296*b')=4294967296 ^ P.length*d+4294967296 ^ P.length*((c+fx)%4294967296)+4294967296 ^ P.length*b:=by
    rw[← baO,s3,baO,baO]
   have h5:4294967296 ^ P.length*(4294967296*((c+fx)/4294967296))+4294967296 ^ P.length*((c+fx)%4294967296)=4294967296 ^ P.length*c+4294967296 ^ P.length*fx:=by
    rw[← baO,bdH,baO]
   omega
  ·simp only
   rw[baI,baL]
   (repeat' (first|exact PF.nil_le|refine PF.aA ?_ ?_))<;>first|(simp -implicitDefEqProofs only[go_sem,γ,reduceCtorEq]<;>rfl)|rfl
  ·simp only
   rw[baI,baL]
   simp -implicitDefEqProofs only[go_sem]
 ·have e:P.length=v.length:=by omega
  have c1':¬ (P.length:Int)<(v.length:Nat):=by omega
  have c2:v.length<W.length:=by omega
  have c2':((v.length:Nat):Int)<((v.length+1:Nat):Int):=by omega
  have hw:=hW _ (baN c2)
  have htw:=bQ W c2
  have hat:=UL (A:=A) (Z:=Z) (P:=P) e c2
  have hset:=yT (A:=A) (Z:=Z) (P:=P) e c2
  have hWall:val (W.take (v.length+1))=val W:=by rw[baS (by omega)]
  generalize hwe:W[v.length]=y at *
  have ey:IntKind.u64.wrap ((y:Nat):Int)=((y:Nat):Int):=aW (by omega)
  have hP':=dY hLim
  rw[e] at hval hP'
  rw[bbP] at hval
  rw[hWall] at htw
  have hpow:4294967296 ^ (v.length+1)=4294967296 ^ v.length*4294967296:=bbS _ _
  have key:val W+4294967296 ^ v.length*(b+c)=val P+val v*f+4294967296 ^ v.length*y:=by rw[htw,baO]; omega
  have hbc:b+c≤y+4294967296:=by
   rcases baU (y+4294967296) (b+c) with h | h
   ·exfalso
    have:4294967296 ^ v.length*(y+4294967296+1)≤4294967296 ^ v.length*(b+c):=bcI _ h
    rw[baO,baO,Nat.mul_one] at this
    omega
   ·exact h
  have hlast:∃ d k:Nat,d<4294967296∧k≤1∧y+4294967296*k=d+(b+c)∧IntKind.u32.wrap (IntKind.u64.wrap (IntKind.u64.wrap ((y:Int)-(c:Int))-(b:Int)))=(d:Int)∧((IntKind.u64.wrap (IntKind.u64.wrap ((y:Int)-(c:Int))-(b:Int))/9223372036854775808==1)=decide (k=1)):=by
   rw[NG,eQ,eQ]
   by_cases h:y<b+c
   ·refine⟨y+4294967296-(b+c),1,by omega,by omega,by omega,by omega,?_⟩
    simp only[decide_true]
    exact bS (by omega)
   ·refine⟨y-(b+c),0,by omega,by omega,by omega,by omega,?_⟩
    exact bE (by omega)
  obtain⟨d,k,hd,hk,hy,w1,w2⟩:=hlast
  have hs:=hset d
  have hN:val (P++[d])+val v*f=val W+4294967296 ^ (v.length+1)*k:=by
   have:4294967296 ^ v.length*y+4294967296 ^ v.length*(4294967296*k)=4294967296 ^ v.length*d+4294967296 ^ v.length*(b+c):=by rw[← baO,hy,baO]
   rw[fX,e,hpow,baX]
   omega
  have hLd:Lim (P++[d]):=hLim.app fun z hz=>by simp at hz; omega
  have hdl:=dY hLd
  rw[baI,baL,e] at hdl
  have hk1:decide (k=1)=decide (val W<val v*f):=by
   congr 1
   apply propext
   constructor
   ·intro h; subst h; omega
   ·intro h
    rcases bcB k with h0 | h0
    ·subst h0; omega
    ·omega
  have hval':CC (v.length+1) (val W) (val v*f)=val (P++[d]):=by
   unfold CC
   split
   ·rename_i h
    have:k=1:=by simpa [h] using hk1
    subst this; omega
   ·rename_i h
    have:k=0:=by
     have:¬ k=1:=by simpa [h] using hk1
     omega
    subst this; omega
  have hD:cS (v.length+1) (CC (v.length+1) (val W) (val v*f))=P++[d]:=by
   have:=zJ hLd
   rw[baI,baL,e] at this
   rw[hval',this]
  have hdr:W.drop (v.length+1)=[]:=bdL (by omega)
  simp -implicitDefEqProofs only[go_sem,γ,reduceCtorEq,c1',DR,e,c2',hat,ey,DS,w1,hs,DT,aHC,w2,hk1]
  refine aY (vs:=[.bool (decide (val W<val v*f))]) (.inr rfl) (PH.nil.set o (.rows 1 (aE (A++(P++[d]++W.drop (v.length+1))++Z)))) rfl (PH.aA PH.nil_le (by simp -implicitDefEqProofs only[go_sem])) ⟨rfl,?_⟩
  rw[hD,hdr,bbY]
end Go.PM
namespace Go.Na
theorem azX {xs ys:List Nat} (hx:Lim xs) (hy:Lim ys) (hl:xs.length=ys.length) (hv:val xs=val ys):xs=ys:=by
 rw[← zJ hx,← zJ hy,hl,hv]
theorem aTE {k n:Nat} {xs:List Nat} (hx:Lim xs) (hl:xs.length=k) (hv:val xs=n%4294967296 ^ k):cS k n=xs :=
 azX (jP k n) hx (by rw[iQ,hl]) (by rw[uH,hv])
end Go.Na
namespace Go.PM
open Go Go.Na
def aqP (v:List Nat) (j o i c:Nat):PF:=((((((PF.nil.set 0 (.osl o 1 j (v.length+1))).set 1 (aF v)).set 4 (.int .u64 c)).set 7 (aF v)).set 8 (.int .i64 (v.length:Nat))).set 9 (.int .i64 i))
theorem awI {C:Ctx} (A W Z v:List Nat) (hW:Lim W) (hv:Lim v) (hl:W.length=v.length+1) (h1:A.length+v.length≤100000) (o:Nat) :
  rU.wp C (aZ tV.res (fun r H'=>r=.tup []∧H'=PH.nil.set o (.rows 1 (aE (A++cS (v.length+1) (val W+val v)++Z)))))
   (PF.args [.osl o 1 A.length (v.length+1),aF v]) (PH.nil.set o (.rows 1 (aE (A++W++Z)))):=by
 simp -implicitDefEqProofs only[go_sem,γ,rU,LZ,MA,tV]
 refine wp_loop (α:=List Nat × Nat) (fun t=>aqP v A.length o t.1.length t.2) (fun t=>PH.nil.set o (.rows 1 (aE (A++(t.1++W.drop t.1.length)++Z))))
  (fun t=>t.1.length≤v.length∧Lim t.1∧t.2≤1∧val (W.take t.1.length)+val (v.take t.1.length)=val t.1+4294967296 ^ t.1.length*t.2) (fun t=>v.length-t.1.length) ([],0)
  ⟨by simp,by simp[Lim],by simp,by simp[val]⟩ ?_ (PH.aA PH.nil_le (by simp -implicitDefEqProofs only[go_sem,bcL,bbG,List.nil_append])) ?_
 ·unfold aqP
  (repeat' (first|exact PF.nil_le|refine PF.aA ?_ ?_))<;>first|(simp -implicitDefEqProofs only[go_sem,γ,reduceCtorEq]<;>rfl)|rfl
 rintro⟨P,c⟩ ⟨hP,hLim,hc,hval⟩
 simp only at hP hLim hc hval
 simp -implicitDefEqProofs only[go_sem,γ,reduceCtorEq,LW,MB,aqP]
 by_cases c1:P.length<v.length
 ·have c1':(P.length:Int)<(v.length:Nat):=by omega
  have c2:P.length<W.length:=by omega
  have c2':(P.length:Int)<((v.length+1:Nat):Int):=by omega
  have hx:=hv _ (baN c1)
  have hw:=hW _ (baN c2)
  have htv:=bQ v c1
  have htw:=bQ W c2
  have hat:=UL (A:=A) (Z:=Z) (P:=P) rfl c2
  have hset:=yT (A:=A) (Z:=Z) (P:=P) rfl c2
  generalize hxe:v[P.length]=x at *
  generalize hwe:W[P.length]=y at *
  have hvx:(aE v)[P.length]?=some [.int .u32 ((x:Nat):Int)]:=by rw[bJ v c1,hxe]
  have ex:IntKind.u64.wrap ((x:Nat):Int)=((x:Nat):Int):=aW (by omega)
  have ey:IntKind.u64.wrap ((y:Nat):Int)=((y:Nat):Int):=aW (by omega)
  have e1:IntKind.u64.wrap ((y:Int)+(x:Int))=((y+x:Nat):Int):=dZ (by omega)
  have e2:IntKind.u64.wrap ((c:Int)+((y+x:Nat):Int))=((c+(y+x):Nat):Int):=dZ (by omega)
  have hs:=hset ((c+(y+x))%4294967296)
  simp -implicitDefEqProofs only[go_sem,γ,reduceCtorEq,c1',MC,hvx,MD,c2',hat,ex,ey,e1,e2,ME,bV,hs,MF,sL,MG,aL (show P.length<9223372036854775807 by omega)]
  refine aH (P++[(c+(y+x))%4294967296],(c+(y+x))/4294967296) ⟨by simp; omega,hLim.app fun z hz=>by simp at hz; subst hz; exact bbM _ (by decide),by simp only; omega,?_⟩ (by simp; omega) ?_ (PH.aA PH.nil_le ?_)
  ·simp only
   rw[baI,baL,fX,htw,htv,bbS,baX]
   have h5:4294967296 ^ P.length*(4294967296*((c+(y+x))/4294967296))+4294967296 ^ P.length*((c+(y+x))%4294967296)=4294967296 ^ P.length*c+(4294967296 ^ P.length*y+4294967296 ^ P.length*x):=by
    rw[← baO,bdH,baO,baO]
   omega
  ·simp only
   rw[baI,baL]
   (repeat' (first|exact PF.nil_le|refine PF.aA ?_ ?_))<;>first|(simp -implicitDefEqProofs only[go_sem,γ,reduceCtorEq]<;>rfl)|rfl
  ·simp only
   rw[baI,baL]
   simp -implicitDefEqProofs only[go_sem]
 ·have e:P.length=v.length:=by omega
  have c1':¬ (P.length:Int)<(v.length:Nat):=by omega
  have c2:v.length<W.length:=by omega
  have c2':((v.length:Nat):Int)<((v.length+1:Nat):Int):=by omega
  have hw:=hW _ (baN c2)
  have htw:=bQ W c2
  have hat:=UL (A:=A) (Z:=Z) (P:=P) e c2
  have hset:=yT (A:=A) (Z:=Z) (P:=P) e c2
  have hWall:val (W.take (v.length+1))=val W:=by rw[baS (by omega)]
  generalize hwe:W[v.length]=y at *
  have hP':=dY hLim
  rw[e] at hval hP'
  rw[bbP] at hval
  rw[hWall] at htw
  have ec:IntKind.u32.wrap ((c:Nat):Int)=((c:Nat):Int):=by rw[bV,bbH (by omega)]
  have ey:IntKind.u32.wrap ((y:Int)+(c:Int))=(((y+c)%4294967296:Nat):Int):=by
   rw[show (y:Int)+(c:Int)=((y+c:Nat):Int) by omega,bV]
  have hs:=hset ((y+c)%4294967296)
  have hLd:Lim (P++[(y+c)%4294967296]):=hLim.app fun z hz=>by simp at hz; subst hz; exact bbM _ (by decide)
  have hdl:=dY hLd
  rw[baI,baL,e] at hdl
  have hD:cS (v.length+1) (val W+val v)=P++[(y+c)%4294967296]:=by
   refine aTE hLd (by rw[baI,baL,e]) ?_
   have:val W+val v=val (P++[(y+c)%4294967296])+4294967296 ^ (v.length+1)*((y+c)/4294967296):=by
    rw[fX,e,bbS,baX,bcG,← baO,Nat.mod_add_div,baO]
    omega
   rw[this,Nat.add_mul_mod_self_left,bbH hdl]
  have hdr:W.drop (v.length+1)=[]:=bdL (by omega)
  simp -implicitDefEqProofs only[go_sem,γ,reduceCtorEq,c1',MH,e,c2',hat,ec,ey,hs]
  refine aY (vs:=[]) (.inl rfl) (PH.nil.set o (.rows 1 (aE (A++(P++[(y+c)%4294967296]++W.drop (v.length+1))++Z)))) rfl (PH.aA PH.nil_le (by simp -implicitDefEqProofs only[go_sem])) ⟨rfl,?_⟩
  rw[hD,hdr,bbY]
def aGK (o n:Nat) (len:Nat):PF:=((PF.nil.set 0 (.osl o 1 0 len)).set 3 (.int .i64 n))
theorem awH {C:Ctx} (xs:List Nat) (hx:Lim xs) (hl:xs.length≤16777216) (o:Nat):lS.wp C (aZ qB.res (fun r H'=>r=.int .i64 (nl (val xs):Nat)∧H'=PH.nil.set o (.rows 1 (aE xs)))) (PF.args [.osl o 1 0 xs.length]) (PH.nil.set o (.rows 1 (aE xs))):=by
 simp -implicitDefEqProofs only[go_sem,γ,reduceCtorEq,lS,BL,BM,qB]
 refine wp_loop (α:=Nat) (fun n=>aGK o n xs.length) (fun _=>PH.nil.set o (.rows 1 (aE xs))) (fun n=>n≤xs.length∧∀ j x,n≤j→xs[j]?=some x→x=0) (fun n=>n) xs.length ⟨baJ _,fun j x h e=>by rw[bbO h] at e; cases e⟩ ?_ PH.le_refl ?_
 ·unfold aGK
  (repeat' (first|exact PF.nil_le|refine PF.aA ?_ ?_))<;>first|(simp -implicitDefEqProofs only[go_sem,γ,reduceCtorEq]<;>rfl)|rfl
 rintro n ⟨hn,hz⟩
 have out:(∀ x,0<n→xs[n-1]?=some x→x≠0)→nl (val xs)=n:=fun h=>aCR hx hn hz h
 simp -implicitDefEqProofs only[go_sem,γ,reduceCtorEq,BK,BN,aGK]
 by_cases h0:(n:Int)>0
 ·have hp:0<n:=by omega
  have hi:=bJ xs (show n-1<xs.length by omega)
  have hlt:((n-1:Nat):Int)<(xs.length:Nat):=by omega
  simp -implicitDefEqProofs only[go_sem,γ,reduceCtorEq,h0,rR (show n≤9223372036854775807 by omega) hp,hi,hlt]
  by_cases hz0:xs[n-1]=0
  ·simp -implicitDefEqProofs only[go_sem,γ,reduceCtorEq,bS (show ((xs[n-1]:Nat):Int)=0 by omega),BO,rR (show n≤9223372036854775807 by omega) hp]
   refine aH (n-1) ⟨by omega,fun j x hj he=>?_⟩ (by omega) ?_ PH.le_refl
   ·rcases baU j n with h | h
    ·have:j=n-1:=by omega
     subst this
     rw[baQ (by omega)] at he
     cases he; exact hz0
    ·exact hz j x h he
   ·(repeat' (first|exact PF.nil_le|refine PF.aA ?_ ?_))<;>first|(simp -implicitDefEqProofs only[go_sem,γ,reduceCtorEq]<;>rfl)|rfl
  ·simp -implicitDefEqProofs only[go_sem,γ,reduceCtorEq,bE (show ((xs[n-1]:Nat):Int)≠0 by omega),pH]
   refine aY (.inr rfl) _ rfl PH.le_refl ⟨?_,rfl⟩
   rw[out fun x _ he=>by rw[baQ (by omega)] at he; cases he; exact hz0]
   rfl
 ·simp -implicitDefEqProofs only[go_sem,γ,reduceCtorEq,h0,pH]
  refine aY (.inr rfl) _ rfl PH.le_refl ⟨?_,rfl⟩
  rw[out fun x h=>by omega]
  rfl
end Go.PM
namespace Go.Na
structure Kn (V W top next Vr head u2 Wr p:Nat):Prop where
 hV:V=top*(4294967296*p)+next*p+Vr
 hW:W=head*(4294967296*p)+u2*p+Wr
 hVr:Vr<p
 hWr:Wr<p
 htop:2147483648≤top
 hnext:next<4294967296
 hu2:u2<4294967296
 hlt:W<V*4294967296
section
variable {V W top next Vr head u2 Wr p:Nat}
theorem Kn.low (K:Kn V W top next Vr head u2 Wr p):next*p+Vr<4294967296*p∧u2*p+Wr<4294967296*p:=by
 have h1:(next+1)*p≤4294967296*p:=bbE _ K.hnext
 have h2:(u2+1)*p≤4294967296*p:=bbE _ K.hu2
 rw[bbD,Nat.one_mul] at h1 h2
 have:=K.hVr
 have:=K.hWr
 omega
theorem Kn.aiJ (K:Kn V W top next Vr head u2 Wr p):0<V∧4294967296*p≤V∧0<p:=by
 have:=K.hVr
 have h:1*(4294967296*p)≤top*(4294967296*p):=bbE _ (by have:=K.htop; omega)
 have:=K.hV
 omega
theorem Kn.aYU (K:Kn V W top next Vr head u2 Wr p):W/V<4294967296:=by
 rw[bcV K.aiJ.1,bbA]; exact K.hlt
theorem Kn.g0 (K:Kn V W top next Vr head u2 Wr p):W/V≤head/top:=by
 have ht:0<top:=by have:=K.htop; omega
 rw[Nat.le_div_iff_mul_le ht]
 have h1:W/V*V≤W:=Nat.div_mul_le_self W V
 have h2:W/V*(top*(4294967296*p))≤W/V*V:=bcI _ (by have:=K.hV; omega)
 have h3:=K.low.2
 have h4:=K.hW
 have h5:(W/V*top)*(4294967296*p)<(head+1)*(4294967296*p):=by
  rw[baX,bbD,Nat.one_mul]; omega
 have:=Nat.lt_of_mul_lt_mul_right h5
 omega
theorem Kn.g1 (K:Kn V W top next Vr head u2 Wr p) {g r:Nat} (hg:g*top+r=head) (hq:W/V≤g) (h:g≥4294967296∨g*next>r*4294967296+u2):1≤g∧W/V≤g-1:=by
 have hql:=K.aYU
 have hdiv:=Nat.div_mul_le_self W V
 generalize W/V=Q at *
 rcases h with h | h
 ·omega
 ·have hne:Q≠g:=by
   intro e
   have h1:g*V≤W:=by rw[← e]; exact hdiv
   have h2:g*V=g*top*(4294967296*p)+g*next*p+g*Vr:=by rw[K.hV,baO,baO,baX,baX]
   have h3:(r*4294967296+u2+1)*p≤g*next*p:=bbE _ h
   rw[bbD,bbD,Nat.one_mul,baX r] at h3
   have h4:g*top*(4294967296*p)+r*(4294967296*p)=head*(4294967296*p):=by rw[← bbD,hg]
   have:=K.hW
   have:=K.hWr
   omega
  omega
theorem Kn.g2 (K:Kn V W top next Vr head u2 Wr p) {g r:Nat} (hg:g*top+r=head) (hl:g≤4294967296) (h:g*next≤r*4294967296+u2):g≤W/V+1:=by
 rcases bcB g with e | e
 ·rw[e]; exact baR _
 have h2:g*V=g*top*(4294967296*p)+g*next*p+g*Vr:=by rw[K.hV,baO,baO,baX,baX]
 have h3:g*next*p≤(r*4294967296+u2)*p:=bbE _ h
 rw[bbD,baX r] at h3
 have h4:g*top*(4294967296*p)+r*(4294967296*p)=head*(4294967296*p):=by rw[← bbD,hg]
 have h5:g*Vr≤4294967296*Vr:=bbE _ hl
 have h6:4294967296*(Vr+1)≤4294967296*p:=bcI _ K.hVr
 have hV:=K.aiJ
 have hW:=K.hW
 have h7:(g-1)*V≤W:=by
  have:g*V=(g-1)*V+V:=by
   obtain⟨k,rfl⟩:∃ k,g=k+1:=⟨g-1,by omega⟩
   rw[bbD,Nat.one_mul]; rfl
  omega
 have:=(Nat.le_div_iff_mul_le hV.1).2 h7
 generalize W/V=Q at *
 clear h2 h3 h4 h5 h7
 omega
theorem Kn.g3 (K:Kn V W top next Vr head u2 Wr p) {g r:Nat} (hg:g*top+r=head) (hl:g≤4294967296) (hr:4294967296≤r):g≤W/V+1:=by
 have hlow:=K.low.1
 have hV:=K.aiJ
 have h2:g*V=g*top*(4294967296*p)+g*(next*p+Vr):=by rw[K.hV,bcG,baO,baX]
 have h3:g*(next*p+Vr)≤4294967296*(4294967296*p):=Nat.mul_le_mul hl (by omega)
 have h4:g*top*(4294967296*p)+r*(4294967296*p)=head*(4294967296*p):=by rw[← bbD,hg]
 have h5:4294967296*(4294967296*p)≤r*(4294967296*p):=bbE _ hr
 have hW:=K.hW
 have h7:g*V≤W:=by omega
 have:=(Nat.le_div_iff_mul_le hV.1).2 h7
 generalize W/V=Q at *
 clear h2 h3 h4 h5 h7
 omega
theorem Kn.g4 (K:Kn V W top next Vr head u2 Wr p):head/top≤4294967296+1:=by
 have hlow:=K.low.1
 have hV:=K.aiJ
 have hW:=K.hW
 have hlt:=K.hlt
 have ht:=K.htop
 have h1:head<(top+1)*4294967296:=by
  have h2:V<(top+1)*(4294967296*p):=by rw[K.hV,bbD,Nat.one_mul]; omega
  have h3:V*4294967296≤(top+1)*(4294967296*p)*4294967296:=bbE _ (Nat.le_of_lt h2)
  have h4:head*(4294967296*p)<(top+1)*4294967296*(4294967296*p):=by
   have:(top+1)*(4294967296*p)*4294967296=(top+1)*4294967296*(4294967296*p):=by rw[baX,bbA (4294967296*p) 4294967296,← baX]
   omega
  exact Nat.lt_of_mul_lt_mul_right h4
 have h5:head/top<4294967296+2:=by
  rw[bcV (by omega)]
  omega
 omega
end
theorem rB:∀ (k n:Nat),cS (k+1) n=cS k n++[n/4294967296 ^ k%4294967296]
 | 0,n=>by simp[cS]
 | k+1,n=>by
  show (n%4294967296)::cS (k+1) (n/4294967296)=(n%4294967296)::cS k (n/4294967296)++[n/4294967296 ^ (k+1)%4294967296]
  rw[rB k (n/4294967296),Nat.div_div_eq_div_mul,bbS,bbA 4294967296]
  rfl
theorem qI {xs:List Nat} (h:Lim xs):∀ {k:Nat},k≤xs.length→val (xs.drop k)=val xs/4294967296 ^ k:=by
 intro k hk
 have e:val xs=val (xs.take k)+4294967296 ^ k*val (xs.drop k):=by
  conv=>lhs; rw[← bcT k xs,eW,baV,bcC hk]
 have hl:=dY (h.take k)
 rw[baV,bcC hk] at hl
 rw[e,Nat.add_mul_div_left _ _ (bcR (by decide)),bdI hl,bbF]
theorem MK {R s i u0 u1 X:Nat} (hs:s<32) (h:R/4294967296 ^ i=u0+4294967296*(u1+4294967296*X)):(R/2 ^ s)/4294967296 ^ i%4294967296=(4294967296*u1+u0)/2 ^ s%4294967296:=by
 rw[Nat.div_div_eq_div_mul,bbA (2 ^ s),← Nat.div_div_eq_div_mul,h]
 have hp:4294967296*4294967296=2 ^ s*(2 ^ (32-s)*4294967296):=by
  rw[← baX,← Nat.pow_add,show s+(32-s)=32 by omega]
 have e:u0+4294967296*(u1+4294967296*X)=(4294967296*u1+u0)+2 ^ s*(2 ^ (32-s)*X*4294967296):=by
  have:4294967296*(4294967296*X)=2 ^ s*(2 ^ (32-s)*X*4294967296):=by
   rw[← baX,hp,baX,baX,baX,bbA 4294967296 X]
  rw[baO,this]; omega
 rw[e,Nat.add_mul_div_left _ _ (bcR (by decide)),Nat.add_mul_mod_self_right]
end Go.Na
namespace Go.PM
open Go Go.Na
theorem aVY {A W Z:List Nat} {i:Nat} (hi:i<W.length):(aE (A++W++Z))[A.length+i]?=some [.int .u32 ((W[i]:Nat):Int)]:=by
 have hl:A.length+i<(A++W++Z).length:=by simp; omega
 rw[bJ _ hl]
 congr 4
 rw[List.getElem_append_left (by simp; omega),List.getElem_append_right (by omega)]
 congr 1
 omega
def dF (u v:PV) (n:Nat) (q:PV) (top next j s:Nat):PF:=((((((((PF.nil.set 8 (.int .u64 s)).set 9 (u)).set 10 (v)).set 11 (.int .i64 n)).set 12 (q)).set 13 (.int .u64 top)).set 14 (.int .u64 next)).set 15 (.int .i64 j))
def dG (u v:PV) (n:Nat) (q:PV) (top next j s g r:Nat):PF:=((((((((((PF.nil.set 8 (.int .u64 s)).set 9 (u)).set 10 (v)).set 11 (.int .i64 n)).set 12 (q)).set 13 (.int .u64 top)).set 14 (.int .u64 next)).set 15 (.int .i64 j)).set 17 (.int .u64 g)).set 18 (.int .u64 r))
theorem ahE {C:Ctx} {V Wv top next Vr head u2 Wr p:Nat} (Kk:Kn V Wv top next Vr head u2 Wr p) (htop:top<4294967296) (o lu m j s:Nat) (v q:PV) (hjm:j+m+2<lu) (hlu:lu≤100000) (U:List Nat) (hU:(aE U)[j+m]?=some [.int .u32 (u2:Nat)]) (K:cD) (F:PF) (H:PH)
  (hF:(dG (.osl o 1 0 lu) v (m+2) q top next j s (head/top) (head%top)).le F) (hH:H o=some (.rows 1 (aE U)))
  (hK:∀ g r F',Wv/V≤g→g≤Wv/V+1→g≤4294967296→(dG (.osl o 1 0 lu) v (m+2) q top next j s g r).le F'→K .normal F' H) :
  aC.wp C (.block 4 (.loop qP)) K F H:=by
 have ht0:0<top:=by have:=Kk.htop; omega
 have hn:=Kk.hnext
 have hu2:=Kk.hu2
 simp -implicitDefEqProofs only[go_sem]
 refine wp_loop (α:=Nat × Nat) (fun t=>dG (.osl o 1 0 lu) v (m+2) q top next j s t.1 t.2) (fun _=>H) (fun t=>t.1*top+t.2=head∧Wv/V≤t.1∧t.1≤4294967296+1∧t.2<4294967296) (fun t=>t.1) (head/top,head%top)
  ⟨by simp only; rw[bbA]; exact bdH head top,Kk.g0,Kk.g4,Nat.lt_trans (bbM _ ht0) htop⟩ hF PH.le_refl ?_
 rintro⟨g,r⟩ ⟨hg,hq,hgl,hr⟩
 simp only at hg hq hgl hr
 have e1:IntKind.i64.wrap ((j:Int)+((m+2:Nat):Int))=((j+(m+2):Nat):Int):=fD (by omega)
 have e2:IntKind.i64.wrap (((j+(m+2):Nat):Int)-2)=((j+m:Nat):Int):=by rw[wrap_i64 (by omega) (by omega)]; omega
 have hlt:((j+m:Nat):Int)<(lu:Nat):=by omega
 have eu2:IntKind.u64.wrap ((u2:Nat):Int)=((u2:Nat):Int):=aW (by omega)
 have esh:shift .shl .u64 (r:Int) 32=some (.int .u64 ((2 ^ 32*r:Nat):Int)):=CB (s:=32) (by omega) (by omega)
 have e32:(2:Nat) ^ 32=4294967296:=by decide
 have eor:=orI (a:=2 ^ 32*r) (b:=u2) (n:=2 ^ 32*r+u2) (by omega) (by omega) (Nat.two_pow_add_eq_or_of_lt (by omega) r).symm (by omega)
 rw[e32] at esh eor
 have more:(g≥4294967296∨g*next>r*4294967296+u2)→∀ F':PF,(dG (.osl o 1 0 lu) v (m+2) q top next j s g r).le F'→aC.wp C (.block 5 (.seq (.region wP) (.seq (.region wQ) (.seq (.region wR) (.cond (.tmp 136) (.exit 4) .skip)))))
   (fV (fun t:Nat × Nat=>dG (.osl o 1 0 lu) v (m+2) q top next j s t.1 t.2) (fun _=>H) (fun t=>t.1*top+t.2=head∧Wv/V≤t.1∧t.1≤4294967296+1∧t.2<4294967296) (fun t=>t.1) g (eO 4 K)) F' H:=by
  intro hc F' hF'
  obtain⟨g1,g2⟩:=Kk.g1 hg hq hc
  have f8:=hF' 8 _ (by unfold dG; simp -implicitDefEqProofs only[go_sem,γ]; rfl)
  have f9:=hF' 9 _ (by unfold dG; simp -implicitDefEqProofs only[go_sem,γ]; rfl)
  have f10:=hF' 10 _ (by unfold dG; simp -implicitDefEqProofs only[go_sem,γ]; rfl)
  have f11:=hF' 11 _ (by unfold dG; simp -implicitDefEqProofs only[go_sem,γ]; rfl)
  have f12:=hF' 12 _ (by unfold dG; simp -implicitDefEqProofs only[go_sem,γ]; rfl)
  have f13:=hF' 13 _ (by unfold dG; simp -implicitDefEqProofs only[go_sem,γ]; rfl)
  have f14:=hF' 14 _ (by unfold dG; simp -implicitDefEqProofs only[go_sem,γ]; rfl)
  have f15:=hF' 15 _ (by unfold dG; simp -implicitDefEqProofs only[go_sem,γ]; rfl)
  have f17:=hF' 17 _ (by unfold dG; simp -implicitDefEqProofs only[go_sem,γ]; rfl)
  have f18:=hF' 18 _ (by unfold dG; simp -implicitDefEqProofs only[go_sem,γ]; rfl)
  have w1:IntKind.u64.wrap ((g:Int)-1)=((g-1:Nat):Int):=by rw[wrap_u64 (by omega) (by omega)]; omega
  have w2:IntKind.u64.wrap ((r:Int)+(top:Int))=((r+top:Nat):Int):=dZ (by omega)
  have hg':(g-1)*top+(r+top)=head:=by
   obtain⟨k,rfl⟩:∃ k,g=k+1:=⟨g-1,by omega⟩
   rw[bbD,Nat.one_mul] at hg
   simp only[Nat.add_sub_cancel]
   omega
  simp -implicitDefEqProofs only[go_sem,δ,γ,wP,wQ,wR,f17,f18,f13,w1,w2]
  by_cases c:r+top≥4294967296
  ·have c':((r+top:Nat):Int)≥4294967296:=by omega
   simp -implicitDefEqProofs only[go_sem,γ,c']
   refine hK (g-1) (r+top) _ g2 (Kk.g3 hg' (by omega) c) (by omega) ?_
   unfold dG
   repeat' first|exact PF.nil_le|refine PF.aA ?_ ?_|rfl|assumption
  ·have c':¬ ((r+top:Nat):Int)≥4294967296:=by omega
   simp -implicitDefEqProofs only[go_sem,c']
   refine aH (g-1,r+top) ⟨hg',g2,by simp only; omega,by simp only; omega⟩ (by simp only; omega) ?_ PH.le_refl
   unfold dG
   repeat' first|exact PF.nil_le|refine PF.aA ?_ ?_|rfl|assumption
 simp -implicitDefEqProofs only[go_sem,δ,γ,qP,LM,dG]
 by_cases c1:g≥4294967296
 ·have c1':(g:Int)≥4294967296:=by omega
  simp -implicitDefEqProofs only[go_sem,γ,c1']
  have:=more (.inl c1)
  simp -implicitDefEqProofs only[go_sem,δ,dG] at this
  refine this _ ?_
  (repeat' (first|exact PF.nil_le|refine PF.aA ?_ ?_))<;>first|(simp -implicitDefEqProofs only[go_sem,γ]<;>rfl)|rfl
 ·have c1':¬ (g:Int)≥4294967296:=by omega
  have hgn:g*next≤4294967295*4294967295:=Nat.mul_le_mul (by omega) (by omega)
  have em:IntKind.u64.wrap ((g:Int)*(next:Int))=((g*next:Nat):Int):=by
   rw[show (g:Int)*(next:Int)=((g*next:Nat):Int) by simp]
   exact aW (by omega)
  simp -implicitDefEqProofs only[go_sem,γ,reduceCtorEq,c1',em,esh,e1,e2,hlt,hH,hU,eu2,eor]
  by_cases c2:g*next>r*4294967296+u2
  ·have c2':((g*next:Nat):Int)>((4294967296*r+u2:Nat):Int):=by omega
   simp -implicitDefEqProofs only[go_sem,c2']
   have:=more (.inr c2)
   simp -implicitDefEqProofs only[go_sem,δ,dG] at this
   refine this _ ?_
   (repeat' (first|exact PF.nil_le|refine PF.aA ?_ ?_))<;>first|(simp -implicitDefEqProofs only[go_sem,γ]<;>rfl)|rfl
  ·have c2':¬ ((g*next:Nat):Int)>((4294967296*r+u2:Nat):Int):=by omega
   simp -implicitDefEqProofs only[go_sem,c2']
   refine hK g r _ hq (Kk.g2 hg (by omega) (by omega)) (by omega) ?_
   unfold dG
   (repeat' (first|exact PF.nil_le|refine PF.aA ?_ ?_))<;>first|(simp -implicitDefEqProofs only[go_sem,γ]<;>rfl)|rfl
end Go.PM
namespace Go.Na
theorem a1I {W v:List Nat} {m:Nat} (hW:Lim W) (hv:Lim v) (hlv:v.length=m+2) (hlW:W.length=m+3) (ht:2147483648≤v[m+1]) (hlt:val W<val v*4294967296) :
  Kn (val v) (val W) (v[m+1]) (v[m]) (val (v.take m)) (W[m+2]*4294967296+W[m+1]) (W[m]) (val (W.take m)) (4294967296 ^ m):=by
 have e1:val v=val (v.take m)+4294967296 ^ m*(v[m]+4294967296*v[m+1]):=by
  rw[oI v (show m<v.length by omega)]
  congr 4
  have:v.drop (m+1)=[v[m+1]]:=by
   rw[bcD (by omega),bdL (by omega)]
  rw[this]; simp[val]
 have e2:val W=val (W.take m)+4294967296 ^ m*(W[m]+4294967296*(W[m+1]+4294967296*W[m+2])):=by
  rw[oI W (show m<W.length by omega)]
  congr 4
  have:W.drop (m+1)=[W[m+1],W[m+2]]:=by
   rw[bcD (by omega),bcD (by omega),bdL (by omega)]
  rw[this]; simp[val]
 have l1:=dY (hv.take m)
 have l2:=dY (hW.take m)
 rw[baV,bcC (by omega)] at l1 l2
 refine⟨?_,?_,l1,l2,ht,hv _ (baN _),hW _ (baN _),hlt⟩
 ·rw[e1,baO,bbA (4294967296 ^ m) (v[m]),← baX (4294967296 ^ m),bbA (4294967296 ^ m*4294967296),bbA (4294967296 ^ m) 4294967296]
  omega
 ·rw[e2,baO,bbA (4294967296 ^ m) (W[m]),← baX (4294967296 ^ m),bbA (4294967296 ^ m*4294967296),bbA (4294967296 ^ m) 4294967296,bbA (W[m+2]),Nat.add_comm (4294967296*W[m+2])]
  omega
end Go.Na
namespace Go.PM
open Go Go.Na
structure ahO (C:Ctx):Prop where
 subtract:∀ (A W Z v:List Nat) (f o:Nat),Lim W→Lim v→W.length=v.length+1→A.length+v.length≤100000→f≤4294967296→val v*f≤val W+4294967296 ^ (v.length+1) →
  aJ C 142 [.osl o 1 A.length (v.length+1),aF v,.int .u64 f] (PH.nil.set o (.rows 1 (aE (A++W++Z)))) (fun r H'=>r=.bool (decide (val W<val v*f))∧H'=PH.nil.set o (.rows 1 (aE (A++cS (v.length+1) (CC (v.length+1) (val W) (val v*f))++Z))))
 restore:∀ (A W Z v:List Nat) (o:Nat),Lim W→Lim v→W.length=v.length+1→A.length+v.length≤100000 →
  aJ C 139 [.osl o 1 A.length (v.length+1),aF v] (PH.nil.set o (.rows 1 (aE (A++W++Z)))) (fun r H'=>r=.tup []∧H'=PH.nil.set o (.rows 1 (aE (A++cS (v.length+1) (val W+val v)++Z))))
theorem aiY (k n:Nat):cS k (n%4294967296 ^ k)=cS k n :=
 azX (jP _ _) (jP _ _) (by rw[iQ,iQ]) (by rw[uH,uH,Nat.mod_mod])
theorem ahD {C:Ctx} (D:ahO C) (A W Z v Q:List Nat) (m o oq lu s:Nat) (hne:oq≠o) (hW:Lim W) (hv:Lim v) (hlv:v.length=m+2) (hlW:W.length=m+3) (ht:2147483648≤v[m+1]) (hlt:val W<val v*4294967296)
  (hlu:lu=A.length+(m+3)+Z.length) (hmax:lu≤10000) (hjq:A.length<Q.length) (K:cD) (F:PF) (H:PH) (hF:(dF (.osl o 1 0 lu) (aF v) (m+2) (.osl oq 1 0 Q.length) (v[m+1]) (v[m]) A.length s).le F)
  (hH:H o=some (.rows 1 (aE (A++W++Z)))) (hHq:H oq=some (.rows 1 (aE Q)))
  (hK:∀ F' H',(dF (.osl o 1 0 lu) (aF v) (m+2) (.osl oq 1 0 Q.length) (v[m+1]) (v[m]) A.length s).le F'→H' o=some (.rows 1 (aE (A++cS (m+3) (val W%val v)++Z)))→H' oq=some (.rows 1 (aE (Q.set A.length (val W/val v))))→K .normal F' H') :
  aC.wp C (.block 3 (.seq (.draw wN) (.seq (.draw wO) (.seq (.block 4 (.loop qP)) (.seq (.seq (.region wS) (.cond (.tmp 146) (.seq (.region wT) (.region wU)) .skip)) (.region qQ)))))) K F H:=by
 have Kk:=a1I hW hv hlv hlW ht hlt
 have hgetU:∀ i (h:i<W.length),(aE (A++W++Z))[A.length+i]?=some [.int .u32 ((W[i]:Nat):Int)]:=fun i h=>aVY h
 have g0:=hgetU (m+2) (by omega)
 have g1:=hgetU (m+1) (by omega)
 have g2:=hgetU m (by omega)
 have hq:=Kk.aYU
 have htop:v[m+1]<4294967296:=hv _ (baN _)
 have hu0:=hW _ (baN (show m+2<W.length by omega))
 have hu1:=hW _ (baN (show m+1<W.length by omega))
 have hVpos:=Kk.aiJ.1
 generalize hte:v[m+1]=top at *
 generalize hnx:v[m]=next at *
 generalize hw0:W[m+2]=u0 at *
 generalize hw1:W[m+1]=u1 at *
 generalize hw2:W[m]=u2 at *
 have f8:=hF 8 _ (by unfold dF; simp -implicitDefEqProofs only[go_sem,γ]; rfl)
 have f9:=hF 9 _ (by unfold dF; simp -implicitDefEqProofs only[go_sem,γ]; rfl)
 have f10:=hF 10 _ (by unfold dF; simp -implicitDefEqProofs only[go_sem,γ]; rfl)
 have f11:=hF 11 _ (by unfold dF; simp -implicitDefEqProofs only[go_sem,γ]; rfl)
 have f12:=hF 12 _ (by unfold dF; simp -implicitDefEqProofs only[go_sem,γ]; rfl)
 have f13:=hF 13 _ (by unfold dF; simp -implicitDefEqProofs only[go_sem,γ]; rfl)
 have f14:=hF 14 _ (by unfold dF; simp -implicitDefEqProofs only[go_sem,γ]; rfl)
 have f15:=hF 15 _ (by unfold dF; simp -implicitDefEqProofs only[go_sem,γ]; rfl)
 have e1:IntKind.i64.wrap ((A.length:Int)+((m+2:Nat):Int))=((A.length+(m+2):Nat):Int):=fD (by omega)
 have e2:IntKind.i64.wrap (((A.length+(m+2):Nat):Int)-1)=((A.length+(m+1):Nat):Int):=by rw[wrap_i64 (by omega) (by omega)]; omega
 have c0:((A.length+(m+2):Nat):Int)<(lu:Nat):=by omega
 have c1:((A.length+(m+1):Nat):Int)<(lu:Nat):=by omega
 have eu0:IntKind.u64.wrap ((u0:Nat):Int)=((u0:Nat):Int):=aW (by omega)
 have eu1:IntKind.u64.wrap ((u1:Nat):Int)=((u1:Nat):Int):=aW (by omega)
 have esh:shift .shl .u64 (u0:Int) 32=some (.int .u64 ((2 ^ 32*u0:Nat):Int)):=CB (s:=32) (by omega) (by omega)
 have e32:(2:Nat) ^ 32=4294967296:=by decide
 have eor:=orI (a:=2 ^ 32*u0) (b:=u1) (n:=2 ^ 32*u0+u1) (by omega) (by omega) (Nat.two_pow_add_eq_or_of_lt (by omega) u0).symm (by omega)
 rw[e32] at esh eor
 have hcm:4294967296*u0+u1=u0*4294967296+u1:=by omega
 rw[hcm] at eor
 simp -implicitDefEqProofs only[go_sem]
 refine cC H eE PH.le_refl ?_
 simp -implicitDefEqProofs only[go_sem,γ,reduceCtorEq,wN,f9,f15,f11,e1,e2,c0,c1,hH,g0,g1,eu0,eu1,esh,eor]
 refine cC H eE PH.le_refl ?_
 have ht0:0<top:=by omega
 have htz:¬ ((top:Nat):Int)=0:=by omega
 generalize hhd:u0*4294967296+u1=head at *
 have equo:IntKind.u64.wrap (Int.tdiv ((head:Nat):Int) ((top:Nat):Int))=((head/top:Nat):Int):=by
  rw[show Int.tdiv ((head:Nat):Int) ((top:Nat):Int)=((head/top:Nat):Int) from rfl]
  exact aW (by have:=Kk.g4; omega)
 have erem:Int.tmod ((head:Nat):Int) ((top:Nat):Int)=((head%top:Nat):Int):=rfl
 simp -implicitDefEqProofs only[go_sem,γ,wO,f13,htz,equo,erem]
 have guess:=ahE (C:=C) Kk htop o lu m A.length s (aF v) (.osl oq 1 0 Q.length) (by omega) (by omega) (A++W++Z) g2
 simp -implicitDefEqProofs only[go_sem] at guess
 refine guess _ _ H ?_ hH ?_
 ·unfold dG
  refine PF.aA (PF.aA (PF.aA (PF.aA (PF.aA (PF.aA (PF.aA (PF.aA (PF.aA (PF.aA PF.nil_le ?_) ?_) ?_) ?_) ?_) ?_) ?_) ?_) ?_) ?_<;>simp -implicitDefEqProofs only[go_sem,γ,f8,f9,f10,f11,f12,f13,f14,f15]
 clear guess
 intro g r F' q1 q2 q3 hF'
 have h8:=hF' 8 _ (by unfold dG; simp -implicitDefEqProofs only[go_sem,γ]; rfl)
 have h9:=hF' 9 _ (by unfold dG; simp -implicitDefEqProofs only[go_sem,γ]; rfl)
 have h10:=hF' 10 _ (by unfold dG; simp -implicitDefEqProofs only[go_sem,γ]; rfl)
 have h11:=hF' 11 _ (by unfold dG; simp -implicitDefEqProofs only[go_sem,γ]; rfl)
 have h12:=hF' 12 _ (by unfold dG; simp -implicitDefEqProofs only[go_sem,γ]; rfl)
 have h13:=hF' 13 _ (by unfold dG; simp -implicitDefEqProofs only[go_sem,γ]; rfl)
 have h14:=hF' 14 _ (by unfold dG; simp -implicitDefEqProofs only[go_sem,γ]; rfl)
 have h15:=hF' 15 _ (by unfold dG; simp -implicitDefEqProofs only[go_sem,γ]; rfl)
 have h17:=hF' 17 _ (by unfold dG; simp -implicitDefEqProofs only[go_sem,γ]; rfl)
 have e3:IntKind.i64.wrap (((A.length+(m+2):Nat):Int)+1)=((A.length+(m+3):Nat):Int):=by rw[wrap_i64 (by omega) (by omega)]; omega
 have c3:((A.length:Nat):Int)≤((A.length+(m+3):Nat):Int):=by omega
 have c4:((A.length+(m+3):Nat):Int)≤(lu:Nat):=by omega
 have e4:A.length+(m+3)-A.length=v.length+1:=by omega
 have hvl:v.length+1=m+3:=by omega
 have hdm:val v*(val W/val v)+val W%val v=val W:=bdH _ _
 have hWlt:=dY hW
 rw[hlW] at hWlt
 have hmodlt:val W%val v<val v:=bbM _ hVpos
 have hvlt:=dY hv
 rw[hlv] at hvlt
 have hpow:4294967296 ^ (m+3)=4294967296 ^ (m+2)*4294967296:=bbS _ _
 generalize hQd:val W/val v=qd at *
 generalize hRd:val W%val v=rd at *
 have hfin:∀ (F2:PF) (H2:PH),F2 8=some (.int .u64 s)→F2 9=some (.osl o 1 0 lu)→F2 10=some (aF v)→F2 11=some (.int .i64 ((m+2:Nat):Int))→F2 12=some (.osl oq 1 0 Q.length)→F2 13=some (.int .u64 top)→F2 14=some (.int .u64 next)→F2 15=some (.int .i64 A.length)→F2 17=some (.int .u64 qd) →
   H2 o=some (.rows 1 (aE (A++cS (m+3) rd++Z)))→H2 oq=some (.rows 1 (aE Q))→aC.wp C (.region qQ) (eO 3 K) F2 H2:=by
  intro F2 H2 k8 k9 k10 k11 k12 k13 k14 k15 k17 kH kQ
  have hqr:(aE Q)[A.length]?=some [.int .u32 ((Q[A.length]:Nat):Int)]:=bJ Q hjq
  have hlq:((A.length:Nat):Int)<(Q.length:Nat):=by omega
  have eq:IntKind.u32.wrap ((qd:Nat):Int)=((qd:Nat):Int):=by rw[bV,bbH hq]
  have hrow:=eM Q A.length qd
  have hne':¬ o=oq:=fun h=>hne h.symm
  simp -implicitDefEqProofs only[go_sem,γ,qQ,k12,k15,k17,eq,hlq,kQ,hqr,hrow]
  refine hK _ _ ?_ (by simp -implicitDefEqProofs only[go_sem,hne',kH]) (by simp -implicitDefEqProofs only[go_sem])
  unfold dF
  refine PF.aA (PF.aA (PF.aA (PF.aA (PF.aA (PF.aA (PF.aA (PF.aA PF.nil_le ?_) ?_) ?_) ?_) ?_) ?_) ?_) ?_<;>simp -implicitDefEqProofs only[go_sem,γ,k8,k9,k10,k11,k12,k13,k14,k15]
 have hle:(PH.nil.set o (.rows 1 (aE (A++W++Z)))).le H:=PH.aA PH.nil_le hH
 have hfit:val v*g≤val W+4294967296 ^ (v.length+1):=by
  have:val v*g≤val v*(qd+1):=bcI _ q2
  rw[baO,Nat.mul_one] at this
  rw[hvl,hpow]; omega
 simp -implicitDefEqProofs only[go_sem,γ,reduceCtorEq,wS,h9,h15,h11,e1,e3,c3,c4,e4,h10,h17]
 refine mU (D.subtract A W Z v g o hW hv (by omega) (by omega) q3 hfit) rfl hle ?_
 rintro rr H' ⟨rfl,rfl⟩ -
 rw[PH.pJ]
 by_cases hgq:g=qd
 ·subst hgq
  have hneg:¬ val W<val v*g:=by omega
  have hN:CC (v.length+1) (val W) (val v*g)=rd:=by unfold CC; rw[if_neg hneg]; omega
  rw[hN,hvl]
  simp -implicitDefEqProofs only[go_sem,γ,hneg]
  have:=hfin
  simp -implicitDefEqProofs only[go_sem] at this
  refine this _ _ ?_ ?_ ?_ ?_ ?_ ?_ ?_ ?_ ?_ ?_ ?_<;>simp -implicitDefEqProofs only[go_sem,γ,h8,h9,h10,h11,h12,h13,h14,h15,h17,hne,hHq]
 ·have hg1:g=qd+1:=by omega
  subst hg1
  rw[baO,Nat.mul_one]
  have hneg:val W<val v*qd+val v:=by omega
  have hN:CC (v.length+1) (val W) (val v*qd+val v)=rd+4294967296 ^ (m+3)-val v:=by unfold CC; rw[if_pos hneg,hvl]; omega
  rw[hN]
  have w1:IntKind.u64.wrap (((qd+1:Nat):Int)-1)=((qd:Nat):Int):=by rw[wrap_u64 (by omega) (by omega)]; omega
  simp -implicitDefEqProofs only[go_sem,γ,reduceCtorEq,hneg,wT,h17,w1,wU,h9,h15,h11,e1,e3,c3,c4,e4,h10]
  have hD':val (cS (v.length+1) (rd+4294967296 ^ (m+3)-val v))=rd+4294967296 ^ (m+3)-val v:=kX (by rw[hvl]; omega)
  refine mU (D.restore A (cS (v.length+1) (rd+4294967296 ^ (m+3)-val v)) Z v o (jP _ _) hv (iQ _ _) (by omega)) rfl (PH.aA PH.nil_le (by simp -implicitDefEqProofs only[go_sem])) ?_
  rintro rr H' ⟨rfl,rfl⟩ -
  rw[PH.pJ,PH.set_set,hD']
  have hfinal:cS (v.length+1) (rd+4294967296 ^ (m+3)-val v+val v)=cS (m+3) rd:=by
   rw[hvl,← aiY (m+3) (rd+4294967296 ^ (m+3)-val v+val v)]
   rw[show rd+4294967296 ^ (m+3)-val v+val v=rd+4294967296 ^ (m+3) by omega,Nat.add_mod_right,aiY]
  rw[hfinal]
  simp -implicitDefEqProofs only[go_sem]
  have:=hfin
  simp -implicitDefEqProofs only[go_sem] at this
  refine this _ _ ?_ ?_ ?_ ?_ ?_ ?_ ?_ ?_ ?_ ?_ ?_<;>simp -implicitDefEqProofs only[go_sem,γ,h8,h9,h10,h11,h12,h13,h14,h15,hne,hHq]
end Go.PM
namespace Go.PM
open Go
section
variable {C:Ctx} {K:cD} {F:PF} {H Hs:PH} {S:Spec}
theorem axE {name:Nat} {vs:List PV} {R:PV→PH→Prop} {args:List aM} {st:Bool} {d:Option Nat} {K:PF→PH→Prop} (hS:S name vs=some ([],fun _=>R)) (h:aJ C name vs .nil R) (ha:aM.evs F args=some vs)
  (hex:∀ G:PH,∃ r H',R r H'∧kZ G .nil H') (hk:∀ r H',R r H'→kZ H .nil H'→Hs.le (H.over .nil H')∧K (F.put d r) (H.over .nil H')):dOp C Hs S st (.call name args) d K F H:=by
 refine⟨vs,[],fun _=>R,ha,hS,fun o ho=>by simp at ho,by rw[BR]; exact h,fun G=>?_,fun r H' hr ha=>?_⟩
 ·obtain⟨r,H',h1,h2⟩:=hex G
  exact⟨r,H',h1,fun o x hx hn=>h2 o x hx (by simp[PH.nil])⟩
 ·rw[BR] at ha ⊢
  exact hk r H' hr ha
theorem PH.over_self (H0:PH) (h:H0.le H):H.over H0 H0=H:=PH.ext fun q=>by
 rw[kV]
 cases e:H0 q with
 | none=>rfl
 | some x=>exact (h q x e).symm
theorem arE {o:Nat} {x:bX} (h:H o=some x):H.only [o]=PH.nil.set o x:=PH.ext fun q=>by
 rw[oF,aU]
 by_cases e:q=o
 ·subst e; simp[h]
 ·simp[e,XK]
theorem NJ {name o:Nat} {x:bX} {vs:List PV} {v:PV} {R:PH→PV→PH→Prop} {args:List aM} {st:Bool} {d:Option Nat} {K:PF→PH→Prop} (hS:S name vs=some ([o],R)) (ho:H o=some x)
  (h:aJ C name vs (PH.nil.set o x) (fun r H'=>r=v∧H'=PH.nil.set o x)) (hR1:R (PH.nil.set o x) v (PH.nil.set o x)) (hR2:∀ r H',R (PH.nil.set o x) r H'→r=v∧H'=PH.nil.set o x) (ha:aM.evs F args=some vs) (hle:Hs.le H) (hk:K (F.put d v) H) :
  dOp C Hs S st (.call name args) d K F H:=by
 have e:=arE ho
 refine⟨vs,[o],_,ha,hS,fun q hq=>?_,?_,fun G=>⟨v,_,by rw[e]; exact hR1,fun q y hy hn=>?_⟩,fun r H' hr _=>?_⟩
 ·simp at hq; subst hq; exact⟨x,ho⟩
 ·rw[e]
  exact h.post fun r H' hr=>⟨r,.refl _,by rw[hr.1,hr.2]; exact hR1⟩
 ·rw[e] at hn; rw[hy] at hn; cases hn
 ·rw[e] at hr
  obtain⟨rfl,rfl⟩:=hR2 r H' hr
  rw[e,PH.over_self _ (by rw[← e]; exact YO H [o])]
  exact⟨hle,hk⟩
theorem awV {c:aC} {α:Type} (Fs:α→PF) (Hs:α→PH) (Pr:α→Prop) (m:α→Nat) (a0:α) (o:Nat) {s:Nat} {rs:List (List PV)} (ho:H o=some (.rows s rs)) (h0:Pr a0) (hF:(Fs a0).le (F.frz o s rs)) (hH:(Hs a0).le (H.frz o s rs))
  (hb:∀ a,Pr a→c.wp C (fV Fs Hs Pr m (m a) K) (Fs a) (Hs a)):aC.wp C (.loop c) K F H :=
 ⟨α,Fs,Hs,Pr,m,a0,_,_,.step o ho (.refl _ _),h0,hF,hH,hb⟩
@[go_sem] theorem JX (o s:Nat) (rs:List (List PV)) (q:Nat):(H.frz o s rs) q=if q=o then none else (H q).map (bX.frz o s rs):=rfl
theorem aLM {t u o1 o2 s1 s2 k1 k2:Nat} {rs1 rs2:List (List PV)} {R:PV→PH→Prop} {e:kG} (he:e=.normal∨e=.ret) (hne:o1≠o2) (h1:F t=some (.osl o1 s1 0 k1)) (h2:F u=some (.osl o2 s2 0 k2)) (ho1:H o1=some (.rows s1 rs1)) (ho2:H o2=some (.rows s2 rs2))
  (hk1:k1≤rs1.length) (hk2:k2≤rs2.length) (hp2:rs2.map (fun r=>r.map (PV.cZ o1 s1 rs1))=rs2) (hp1:(rs1.take k1)=rs1.take k1) (hR:R (.tup [.sl s1 (rs1.take k1),.sl s2 (rs2.take k2)]) .nil):aZ [.tmp t,.tmp u] R e F H:=by
 have key:∃ vs,eA.evs F H [.tmp t,.tmp u]=some vs∧∃ F1 H1 H2,gV (PF.nil.set 0 (cU vs)) H F1 H1∧H2.le H1∧∃ w,F1 0=some w∧R w H2:=by
  have hne':o2≠o1:=fun h=>hne h.symm
  have e2:(H.frz o1 s1 rs1) o2=some (.rows s2 rs2):=by rw[JX,if_neg hne',ho2]; simp only[bbN,bX.frz,hp2]
  refine⟨[.osl o1 s1 0 k1,.osl o2 s2 0 k2],by rw[jR,kW,h1,jR,kW,h2,mQ],_,_,.nil,.step o1 ho1 (.step o2 e2 (.refl _ _)),PH.nil_le,_,?_,hR⟩
  have a1:0+k1≤rs1.length:=by omega
  have a2:0+k2≤rs2.length:=by omega
  simp only[PF.frz,kP,if_true,cU,bbN,PV.frz,PV.pA,PV.cZ,bbK,bcM,true_and,if_pos a1,if_pos a2,bbG,if_neg hne']
 rcases he with rfl | rfl<;>exact key
end
end Go.PM
namespace Go.Na
structure lJ (U0 V n lu lq:Nat) (k:Nat) (U Q:List Nat):Prop where
 lu':U.length=lu
 lq':Q.length=lq
 limU:Lim U
 limQ:Lim Q
 v:val U+val Q*V=U0
 r:val (U.drop k)<V
 z:∀ i x,i<k→Q[i]?=some x→x=0
theorem aiZ {U0 V n lu lq j:Nat} {U Q:List Nat} (h:lJ U0 V n lu lq (j+1) U Q) (hV:V<4294967296 ^ n) (hj:j<lq) (hl:lu=lq+n) :
  val ((U.drop j).take (n+1))<V*4294967296∧lJ U0 V n lu lq j (U.take j++cS (n+1) (val ((U.drop j).take (n+1))%V)++U.drop (j+(n+1))) (Q.set j (val ((U.drop j).take (n+1))/V)):=by
 have hlu:=h.lu'
 have hlq:=h.lq'
 have hVpos:0<V:=by have:=h.r; omega
 have hju:j<U.length:=by omega
 have e1:val (U.drop j)=U[j]+4294967296*val (U.drop (j+1)):=by rw[bcD hju]; rfl
 have hUj:=h.limU _ (baN hju)
 have hlt:val (U.drop j)<V*4294967296:=by have:=h.r; omega
 have hlW:((U.drop j).take (n+1)).length=n+1:=by rw[baV,bbZ]; omega
 have e2:val (U.drop j)=val ((U.drop j).take (n+1))+4294967296 ^ (n+1)*val (U.drop (j+(n+1))):=by
  conv=>lhs; rw[← bcT (n+1) (U.drop j),eW,hlW,List.drop_drop]
 have hpow:4294967296 ^ (n+1)=4294967296 ^ n*4294967296:=bbS _ _
 have hVB:V*4294967296≤4294967296 ^ n*4294967296:=bbE _ (Nat.le_of_lt hV)
 have hZ:val (U.drop (j+(n+1)))=0:=by
  rcases bcB (val (U.drop (j+(n+1)))) with h0 | h0
  ·exact h0
  ·have:=bcI (4294967296 ^ (n+1)) h0
   omega
 rw[hZ,Nat.mul_zero,bcH] at e2
 generalize hW:val ((U.drop j).take (n+1))=W at *
 have e3:val U=val (U.take j)+4294967296 ^ j*W:=by
  conv=>lhs; rw[← bcT j U,eW,baV,bcC (by omega),e2]
 have hmod:W%V<V:=bbM _ hVpos
 have hdm:V*(W/V)+W%V=W:=bdH _ _
 have hqB:W/V<4294967296:=by rw[bcV hVpos,bbA]; omega
 have hD:val (cS (n+1) (W%V))=W%V:=kX (by omega)
 have hQj:Q[j]=0:=h.z j _ (by omega) (baQ (by omega))
 have hset:=yZ (show j<Q.length by omega) (W/V)
 rw[hQj,Nat.mul_zero,bcH] at hset
 have hlt':(U.take j).length=j:=by rw[baV]; omega
 refine⟨by omega,?_,?_,?_,?_,?_,?_,?_⟩
 ·simp only[baI,iQ,bbZ,baV]; omega
 ·rw[bdB]; exact hlq
 ·exact ((h.limU.take j).app (jP _ _)).app (h.limU.drop _)
 ·exact h.limQ.set _ hqB
 ·rw[bbJ,eW,eW,hlt',hD,iQ,hZ,Nat.mul_zero,bcH,hset]
  have:=h.v
  have h5:(val Q+4294967296 ^ j*(W/V))*V=val Q*V+4294967296 ^ j*(V*(W/V)):=by
   rw[bbD,baX,bbA (W/V) V]
  have h6:4294967296 ^ j*W=4294967296 ^ j*(V*(W/V))+4294967296 ^ j*(W%V):=by rw[← baO,hdm]
  omega
 ·rw[bbJ,List.drop_append_of_le_length (by omega),bdL (by omega),List.nil_append,eW,hD,hZ,Nat.mul_zero,bcH]
  exact hmod
 ·intro i x hi hx
  rw[List.getElem?_set_ne (by omega)] at hx
  exact h.z i x (by omega) hx
end Go.Na
namespace Go.PM
open Go Go.Na
def dI (u v:PV) (n:Nat) (q:PV) (top next s:Nat) (j:Int):PF:=((((((((PF.nil.set 8 (.int .u64 s)).set 9 (u)).set 10 (v)).set 11 (.int .i64 n)).set 12 (q)).set 13 (.int .u64 top)).set 14 (.int .u64 next)).set 15 (.int .i64 j))
theorem nZ (o s:Nat) (rs:List (List PV)) (L:List Nat):(aE L).map (fun r=>r.map (PV.cZ o s rs))=aE L:=by
 unfold aE
 rw[List.map_map]
 rfl
theorem aqB {C:Ctx} (D:ahO C) (U0 m lu lq o o2 oq s:Nat) (v vfull:List Nat) (h2:o2≠o) (h3:oq≠o) (h4:oq≠o2) (hv:Lim v) (hlv:v.length=m+2) (hvf:(aE vfull).take (m+2)=aE v) (hvl:m+2≤vfull.length) (ht:2147483648≤v[m+1])
  (hlu:lu=lq+(m+2)) (hmax:lu≤10000) (U:List Nat) (hI:lJ U0 (val v) (m+2) lu lq lq U (baH lq 0)) (K:cD) (F:PF) (H:PH)
  (hF:(dI (.osl o 1 0 lu) (.osl o2 1 0 (m+2)) (m+2) (.osl oq 1 0 lq) (v[m+1]) (v[m]) s ((lq:Int)-1)).le F) (hH:H o=some (.rows 1 (aE U))) (hHv:H o2=some (.rows 1 (aE vfull))) (hHq:H oq=some (.rows 1 (aE (baH lq 0))))
  (hK:∀ U' Q' F',lJ U0 (val v) (m+2) lu lq 0 U' Q'→(dI (.osl o 1 0 lu) (aF v) (m+2) (.osl oq 1 0 lq) (v[m+1]) (v[m]) s (-1)).le F'→K .normal F' ((PH.nil.set o (.rows 1 (aE U'))).set oq (.rows 1 (aE Q')))) :
  aC.wp C (.block 2 (.loop wL)) K F H:=by
 have f8:=hF 8 _ (by unfold dI; simp -implicitDefEqProofs only[go_sem,γ]; rfl)
 have f9:=hF 9 _ (by unfold dI; simp -implicitDefEqProofs only[go_sem,γ]; rfl)
 have f10:=hF 10 _ (by unfold dI; simp -implicitDefEqProofs only[go_sem,γ]; rfl)
 have f11:=hF 11 _ (by unfold dI; simp -implicitDefEqProofs only[go_sem,γ]; rfl)
 have f12:=hF 12 _ (by unfold dI; simp -implicitDefEqProofs only[go_sem,γ]; rfl)
 have f13:=hF 13 _ (by unfold dI; simp -implicitDefEqProofs only[go_sem,γ]; rfl)
 have f14:=hF 14 _ (by unfold dI; simp -implicitDefEqProofs only[go_sem,γ]; rfl)
 have f15:=hF 15 _ (by unfold dI; simp -implicitDefEqProofs only[go_sem,γ]; rfl)
 have hne2:¬ o=o2:=fun h=>h2 h.symm
 have hne4:¬ oq=o2:=h4
 have hne3:¬ o=oq:=fun h=>h3 h.symm
 have hfi:∀ (k:IntKind) (n:Int),PV.frz o2 1 (aE vfull) (.int k n)=.int k n:=fun _ _=>rfl
 have hfu:∀ l,PV.frz o2 1 (aE vfull) (.osl o 1 0 l)=.osl o 1 0 l:=fun l=>by simp only[PV.frz,PV.pA,PV.cZ,if_neg hne2]
 have hfq:∀ l,PV.frz o2 1 (aE vfull) (.osl oq 1 0 l)=.osl oq 1 0 l:=fun l=>by simp only[PV.frz,PV.pA,PV.cZ,if_neg hne4]
 have hfv:PV.frz o2 1 (aE vfull) (.osl o2 1 0 (m+2))=aF v:=by
  have:0+(m+2)≤(aE vfull).length:=by rw[bN]; omega
  simp only[PV.frz,PV.pA,PV.cZ,if_true,true_and,if_pos this,bbG,hvf]
 simp -implicitDefEqProofs only[go_sem]
 refine awV (α:=Nat × List Nat × List Nat) (fun t=>dI (.osl o 1 0 lu) (aF v) (m+2) (.osl oq 1 0 lq) (v[m+1]) (v[m]) s ((t.1:Int)-1)) (fun t=>(PH.nil.set o (.rows 1 (aE t.2.1))).set oq (.rows 1 (aE t.2.2)))
  (fun t=>t.1≤lq∧lJ U0 (val v) (m+2) lu lq t.1 t.2.1 t.2.2) (fun t=>t.1) (lq,U,baH lq 0) o2 hHv ⟨baJ _,hI⟩ ?_ ?_ ?_
 ·unfold dI
  refine PF.aA (PF.aA (PF.aA (PF.aA (PF.aA (PF.aA (PF.aA (PF.aA PF.nil_le ?_) ?_) ?_) ?_) ?_) ?_) ?_) ?_<;>simp -implicitDefEqProofs only[go_sem,f8,f9,f10,f11,f12,f13,f14,f15,hfi,hfu,hfq,hfv]
 ·refine PH.aA (PH.aA PH.nil_le ?_) ?_
  ·simp -implicitDefEqProofs only[go_sem,hne2,hH,bX.frz,nZ]
  ·simp -implicitDefEqProofs only[go_sem,hne4,hHq,bX.frz,nZ]
 rintro⟨k,U,Q⟩ ⟨hk,hI⟩
 simp only at hk hI
 simp -implicitDefEqProofs only[go_sem,γ,wL,LL,dI]
 by_cases h0:0<k
 ·obtain⟨j,rfl⟩:∃ j,k=j+1:=⟨k-1,by omega⟩
  have hz:((j+1:Nat):Int)-1=(j:Int):=by omega
  have hge:(j:Int)≥0:=by omega
  have hVlt:val v<4294967296 ^ (m+2):=by have:=dY hv; rw[hlv] at this; exact this
  obtain⟨hlt,hI'⟩:=aiZ hI hVlt (by omega) hlu
  have hUl:=hI.lu'
  have hQl:=hI.lq'
  have hA:(U.take j).length=j:=by rw[baV]; omega
  have hWl:((U.drop j).take (m+3)).length=m+3:=by rw[baV,bbZ]; omega
  have hsplit:U.take j++(U.drop j).take (m+3)++U.drop (j+(m+3))=U:=by
   rw[bbJ,← List.drop_drop,bcT,bcT]
  have hZl:(U.drop (j+(m+3))).length=lu-(j+(m+3)):=by rw[bbZ,hUl]
  have key:=ahD (C:=C) D (U.take j) ((U.drop j).take (m+3)) (U.drop (j+(m+3))) v Q m o oq lu s h3 ((hI.limU.drop _).take _) hv hlv hWl ht hlt (by rw[hA,hZl]; omega) hmax (by rw[hA]; omega)
  rw[hA,hsplit,hQl] at key
  have e15:IntKind.i64.wrap ((j:Int)-1)=(j:Int)-1:=wrap_i64 (by omega) (by omega)
  simp -implicitDefEqProofs only[go_sem,hz,hge]
  simp -implicitDefEqProofs only[go_sem] at key
  refine key _ _ _ ?_ (by simp -implicitDefEqProofs only[go_sem,hne3]) (by simp -implicitDefEqProofs only[go_sem]) ?_
  ·unfold dF
   (repeat' (first|exact PF.nil_le|refine PF.aA ?_ ?_))<;>first|(simp -implicitDefEqProofs only[go_sem,γ]<;>rfl)|rfl
  ·intro F' H' hF' hH' hHq'
   have g8:=hF' 8 _ (by unfold dF; simp -implicitDefEqProofs only[go_sem,γ]; rfl)
   have g9:=hF' 9 _ (by unfold dF; simp -implicitDefEqProofs only[go_sem,γ]; rfl)
   have g10:=hF' 10 _ (by unfold dF; simp -implicitDefEqProofs only[go_sem,γ]; rfl)
   have g11:=hF' 11 _ (by unfold dF; simp -implicitDefEqProofs only[go_sem,γ]; rfl)
   have g12:=hF' 12 _ (by unfold dF; simp -implicitDefEqProofs only[go_sem,γ]; rfl)
   have g13:=hF' 13 _ (by unfold dF; simp -implicitDefEqProofs only[go_sem,γ]; rfl)
   have g14:=hF' 14 _ (by unfold dF; simp -implicitDefEqProofs only[go_sem,γ]; rfl)
   have g15:=hF' 15 _ (by unfold dF; simp -implicitDefEqProofs only[go_sem,γ]; rfl)
   simp -implicitDefEqProofs only[go_sem,γ,LN,g15,e15]
   refine aH (j,_,_) ⟨by simp only; omega,hI'⟩ (by simp only; omega) ?_ (PH.aA (PH.aA PH.nil_le hH') hHq')
   refine PF.aA (PF.aA (PF.aA (PF.aA (PF.aA (PF.aA (PF.aA (PF.aA PF.nil_le ?_) ?_) ?_) ?_) ?_) ?_) ?_) ?_<;>simp -implicitDefEqProofs only[go_sem,γ,g8,g9,g10,g11,g12,g13,g14]
 ·have:k=0:=by omega
  subst this
  have hz:¬ ((0:Nat):Int)-1≥0:=by decide
  simp -implicitDefEqProofs only[go_sem,hz]
  refine hK U Q _ hI ?_
  unfold dI
  (repeat' (first|exact PF.nil_le|refine PF.aA ?_ ?_))<;>first|(simp -implicitDefEqProofs only[go_sem,ο,γ,show ((0:Nat):Int)-1=-1 from rfl]<;>rfl)|rfl
end Go.PM
namespace Go.PM
open Go Go.Na
def rFr (o lu oq lq or n s i:Nat):PF:=((((((PF.nil.set 8 (.int .u64 s)).set 9 (.osl o 1 0 lu)).set 12 (.osl oq 1 0 lq)).set 19 (.osl or 1 0 n)).set 166 (.int .i64 n)).set 167 (.int .i64 i))
theorem aZA {x s:Nat} (hs:s≤64):shift .shr .u64 (x:Int) (s:Int)=some (.int .u64 ((x/2 ^ s:Nat):Int)):=by
 unfold shift
 rw[if_neg (by omega)]
 simp only
 have:min (Int.toNat (s:Int)) IntKind.u64.bits=s:=by
  rw[show IntKind.u64.bits=64 from rfl]; omega
 rw[this,Int.fdiv_eq_ediv_of_nonneg _ (by exact_mod_cast baR _)]
 norm_cast
theorem aqC {C:Ctx} (o lu oq lq n s:Nat) (U Q:List Nat) (hs:s<32) (h3:oq≠o) (hU:Lim U) (hl:U.length=lu) (hn:n<lu) (hmax:lu≤10000) (K:cD) (F:PF)
  (f8:F 8=some (.int .u64 s)) (f9:F 9=some (.osl o 1 0 lu)) (f11:F 11=some (.int .i64 n)) (f12:F 12=some (.osl oq 1 0 lq))
  (hK:∀ or F' H',or≠o→or≠oq→(rFr o lu oq lq or n s n).le F'→H' oq=some (.rows 1 (aE Q))→H' or=some (.rows 1 (aE (cS n (val U/2 ^ s))))→K .normal F' H') :
  aC.wp C (.seq (.region wV) (.seq (.region wW) (.block 6 (.loop wM)))) K F ((PH.nil.set o (.rows 1 (aE U))).set oq (.rows 1 (aE Q))):=by
 have hm1:((n:Nat):Int)*((4:Nat):Int)≤140737488355328:=by omega
 have hm2:((n:Nat):Int)≤9223372036854775807:=by omega
 have hz:baH n [PV.int .u32 0]=aE ([]++baH n 0):=by
  simp[aE]
 simp -implicitDefEqProofs only[go_sem,wV,f11,hm1,hm2,hz]
 refine aP fun or hor=>?_
 have n1:¬ or=oq:=(fN.1 hor).1
 have n2:¬ or=o:=(fN.1 (fN.1 hor).2).1
 have n1':¬ oq=or:=fun h=>n1 h.symm
 have n2':¬ o=or:=fun h=>n2 h.symm
 have n3:¬ oq=o:=h3
 have n3':¬ o=oq:=fun h=>n3 h.symm
 simp -implicitDefEqProofs only[go_sem,γ,wW]
 refine wp_loop (α:=List Nat) (fun P=>rFr o lu oq lq or n s P.length) (fun P=>((PH.nil.set o (.rows 1 (aE U))).set oq (.rows 1 (aE Q))).set or (.rows 1 (aE (P++baH (n-P.length) 0)))) (fun P=>P.length≤n∧P=cS P.length (val U/2 ^ s)) (fun P=>n-P.length) []
  ⟨by simp,rfl⟩ ?_ ?_ ?_
 ·unfold rFr
  repeat' first|exact PF.nil_le|refine PF.aA ?_ ?_|rfl|assumption
 ·refine PH.aA (PH.aA (PH.aA PH.nil_le ?_) ?_) ?_<;>simp -implicitDefEqProofs only[go_sem,n1,n1',n2,n2',n3,n3',bcL]
 rintro P ⟨hP,hD⟩
 simp -implicitDefEqProofs only[go_sem,γ,wM,LO,rFr]
 by_cases c1:P.length<n
 ·have c1':(P.length:Int)<(n:Nat):=by omega
  obtain⟨k,hk⟩:∃ k,n-P.length=k+1:=⟨n-P.length-1,by omega⟩
  have hin:(aE (P++baH (k+1) 0))[P.length]?=some [.int .u32 ((0:Nat):Int)]:=by
   rw[bJ _ (by simp)]; simp
  have a0:P.length<U.length:=by omega
  have a1:P.length+1<U.length:=by omega
  have b0:(P.length:Int)<(lu:Nat):=by omega
  have b1:((P.length+1:Nat):Int)<(lu:Nat):=by omega
  have hu0:=hU _ (baN a0)
  have hu1:=hU _ (baN a1)
  have e:val U/4294967296 ^ P.length=U[P.length]+4294967296*(U[P.length+1]+4294967296*val (U.drop (P.length+2))):=by
   rw[← qI hU (by omega),bcD a0,bcD a1]
   rfl
  have hdig:=MK hs e
  have g0:=bJ U a0
  have g1:=bJ U a1
  generalize hx0:U[P.length]=u0 at *
  generalize hx1:U[P.length+1]=u1 at *
  have e1:IntKind.i64.wrap ((P.length:Int)+1)=((P.length+1:Nat):Int):=aL (by omega)
  have eu0:IntKind.u64.wrap ((u0:Nat):Int)=((u0:Nat):Int):=aW (by omega)
  have eu1:IntKind.u64.wrap ((u1:Nat):Int)=((u1:Nat):Int):=aW (by omega)
  have esh:shift .shl .u64 (u1:Int) 32=some (.int .u64 ((2 ^ 32*u1:Nat):Int)):=CB (s:=32) (by omega) (by omega)
  have e32:(2:Nat) ^ 32=4294967296:=by decide
  have eor:=orI (a:=2 ^ 32*u1) (b:=u0) (n:=2 ^ 32*u1+u0) (by omega) (by omega) (Nat.two_pow_add_eq_or_of_lt (by omega) u1).symm (by omega)
  rw[e32] at esh eor
  have eshr:=aZA (x:=4294967296*u1+u0) (s:=s) (by omega)
  have hrow:(aE (P++baH (k+1) 0)).set P.length [.int .u32 (((4294967296*u1+u0)/2 ^ s%4294967296:Nat):Int)]=aE ((P++[(4294967296*u1+u0)/2 ^ s%4294967296])++baH k 0):=by
   rw[eM,tF]
  simp -implicitDefEqProofs only[go_sem,γ,c1',LP]
  refine cC .nil eE PH.nil_le ?_
  simp -implicitDefEqProofs only[go_sem,γ,reduceCtorEq,LQ,c1',e1,b0,b1,n2',n3',g0,g1,eu0,eu1,esh,eor,eshr,bV,hk,hin,hrow]
  refine⟨PH.nil_le,?_⟩
  simp -implicitDefEqProofs only[go_sem,γ,LS,e1]
  refine aH (P++[(4294967296*u1+u0)/2 ^ s%4294967296]) ⟨by simp; omega,?_⟩ (by simp; omega) ?_ (PH.aA (PH.aA (PH.aA PH.nil_le ?_) ?_) ?_)
  ·rw[baI,baL,rB,← hD,hdig]
  ·rw[baI,baL]
   (repeat' (first|exact PF.nil_le|refine PF.aA ?_ ?_))<;>first|(simp -implicitDefEqProofs only[go_sem,γ]<;>rfl)|rfl
  ·simp -implicitDefEqProofs only[go_sem,n2',n3']
  ·simp -implicitDefEqProofs only[go_sem,n1']
  ·rw[baI,baL,show n-(P.length+1)=k by omega]
   simp -implicitDefEqProofs only[go_sem]
 ·have e:P.length=n:=by omega
  have c1':¬ (P.length:Int)<(n:Nat):=by omega
  have hrep:baH (n-P.length) 0=[]:=by rw[show n-P.length=0 by omega]; rfl
  rw[e] at hD
  simp -implicitDefEqProofs only[go_sem,c1',hrep,bbY]
  refine hK or _ _ n2 n1 ?_ (by simp -implicitDefEqProofs only[go_sem,n1']) (by simp -implicitDefEqProofs only[go_sem]; rw[← hD])
  unfold rFr
  rw[e]
  (repeat' (first|exact PF.nil_le|refine PF.aA ?_ ?_))<;>first|(simp -implicitDefEqProofs only[go_sem,γ]<;>rfl)|rfl
end Go.PM
namespace Go.PM
open Go Go.Na
structure aiD (C:Ctx):Prop where
 L:nE C
 D:ahO C
 up:∀ (a:List Nat) (s:Nat),Lim a→s<32→a.length≤1000→aJ C 143 [aF a,.int .u64 s] .nil (upR a s)
 short:∀ (a:List Nat) (d:Nat),Lim a→0<d→d<4294967296→a.length≤1000→aJ C 140 [aF a,.int .u32 d] .nil (aK (.tup [aF (aG (val a/d)),.int .u32 ((val a%d:Nat):Int)]))
 lengthO:∀ (xs:List Nat) (o:Nat),Lim xs→xs.length≤16777216→aJ C 138 [.osl o 1 0 xs.length] (PH.nil.set o (.rows 1 (aE xs))) (fun r H'=>r=.int .i64 (nl (val xs):Nat)∧H'=PH.nil.set o (.rows 1 (aE xs)))
def aOI:Spec:=fun name vs=>match name,vs with
 | 143,[x,.int _ s]=>some ([],fun _=>upR (iP x) s.toNat)
 | 138,[.osl q _ _ _]=>some ([q],fun H0 r H'=>H'=H0∧∀ xs,Lim xs→H0 q=some (.rows 1 (aE xs))→r=.int .i64 (nl (val xs):Nat))
 | _,_=>none
theorem axF (a:List Nat) (s:Nat):aOI 143 [aF a,.int .u64 s]=some ([],fun _=>upR a s):=by
 show some _=_; rw[eF,bdD]
theorem auU (a:List Nat) (s:Nat):∀ G:PH,∃ r H',upR a s r H'∧kZ G .nil H':=fun G=>by
 obtain⟨o,ho⟩:=G.fresh
 refine⟨_,_,⟨o,rfl,rfl⟩,fun q x hx _=>?_⟩
 rw[aU] at hx
 split at hx
 ·rename_i e; subst e; exact ho
 ·cases hx
theorem GO {xs ys:List Nat} (h:aE xs=aE ys):xs=ys:=by
 have:=congrArg iP (show aF xs=aF ys by show PV.sl 1 (aE xs)=PV.sl 1 (aE ys); rw[h])
 rwa [eF,eF] at this
theorem adD (q:Nat) (L:List Nat):(PH.nil.set q (.rows 1 (aE L)))=(PH.nil.set q (.rows 1 (aE L)))∧∀ xs,Lim xs→(PH.nil.set q (.rows 1 (aE L))) q=some (.rows 1 (aE xs))→(PV.int .i64 (nl (val L):Nat))=.int .i64 (nl (val xs):Nat):=by
 refine⟨rfl,fun xs hx e=>?_⟩
 rw[jK] at e
 have:aE L=aE xs:=(bX.rows.inj (bcJ.inj e)).2
 rw[GO this]
def mW (A B:Nat):PV:=.tup [aF (aG (A/B)),aF (aG (A%B))]
def aGE (a b:List Nat) (s:Nat):PF:=(((PF.nil.set 0 (aF a)).set 1 (aF b)).set 8 (.int .u64 s))
theorem aWB {x s:Nat} (hs:s≤31) (h:x*2 ^ s<4294967296):shift .shl .u32 (x:Int) (s:Int)=some (.int .u32 ((x*2 ^ s:Nat):Int)):=by
 unfold shift
 rw[if_neg (by omega)]
 simp only
 have:min (Int.toNat (s:Int)) IntKind.u32.bits=s:=by
  rw[show IntKind.u32.bits=32 from rfl]; omega
 rw[this,show (x:Int)*2 ^ s=((x*2 ^ s:Nat):Int) by simp,bV,bbH h]
theorem avR {n i x:Nat} (hx:(baH n 0)[i]?=some x):x=0:=by
 have:=bcS hx
 rw[List.mem_replicate] at this
 exact this.2
theorem aGG {C:Ctx} (Lb:aiD C) (A B:Nat) (hB:B≠0) (hA:nl A≤900) (hBl:nl B≤900) :
  tU.wp C (aZ yO.res (bW (mW A B))) (PF.args [aF (aG A),aF (aG B)]) .nil:=by
 have LA:=bB A
 have LB:=bB B
 have vA:=aV A
 have vB:=aV B
 have lA:(aG A).length=nl A:=rfl
 have lB:(aG B).length=nl B:=rfl
 simp -implicitDefEqProofs only[go_sem,γ,reduceCtorEq,tU,TR,TS,yO]
 refine aB (Lb.L.cmp _ _ LA LB (by omega) (by omega)) rfl ?_
 rw[vA,vB]
 by_cases c1:A<B
 ·have hc:dB A B<0:=by simp[dB,c1]
  simp -implicitDefEqProofs only[go_sem,γ,reduceCtorEq,hc,TT]
  refine aB (Lb.L.trim _ LA (by omega)) rfl ?_
  rw[vA]
  simp -implicitDefEqProofs only[go_sem,γ]
  refine aY (vs:=[.nils,aF (aG A)]) (.inr rfl) .nil rfl PH.nil_le ⟨?_,rfl⟩
  rw[mW,bdI c1,bbH c1,eU]
  refine .tup rfl fun j p q hp hq=>?_
  match j with
  | 0=>simp at hp hq; subst hp; subst hq; exact .nil 1
  | 1=>simp at hp hq; subst hp; subst hq; exact .refl _
  | j+2=>simp at hp
 have hc:¬ dB A B<0:=by
  unfold dB
  rw[if_neg c1]
  split<;>decide
 have hB0:0<B:=bcQ hB
 have hnB:nl B≠0:=fun h=>hB (gZ.1 h)
 simp -implicitDefEqProofs only[go_sem,γ,hc,TU]
 by_cases c2:nl B=1
 ·have hBB:B<4294967296:=by have:=(gB B 1).1 (by omega); simpa using this
  have hlb:aG B=[B]:=kT hB hBB
  have hr:A%B<B:=bbM _ hB0
  have ew:IntKind.u64.wrap ((A%B:Nat):Int)=((A%B:Nat):Int):=aW (by omega)
  rw[hlb]
  have hsh:=Lb.short (aG A) B LA hB0 hBB (by omega)
  rw[vA] at hsh
  simp -implicitDefEqProofs only[go_sem,ν,γ,reduceCtorEq,show (((1:Nat):Int)==1)=true from rfl,TV]
  refine aB hsh rfl ?_
  simp -implicitDefEqProofs only[go_sem,γ,TW,ew]
  refine aB (Lb.L.make (A%B) (by omega)) rfl ?_
  simp -implicitDefEqProofs only[go_sem,γ]
  exact aY (vs:=[aF (aG (A/B)),aF (aG (A%B))]) (.inr rfl) .nil rfl PH.nil_le ⟨.refl _,rfl⟩
 obtain⟨m,hm⟩:∃ m,nl B=m+2:=⟨nl B-2,by omega⟩
 have hAB:nl B≤nl A:=fZ (by omega)
 obtain⟨bt,hbt,hbt0⟩:=asL LB (n:=m+1) (by rw[vB]; exact hm)
 have hml:m+1<(aG B).length:=by omega
 have hbtl:bt<4294967296:=LB bt (bcS hbt)
 have hBv:B=val ((aG B).take (m+1))+4294967296 ^ (m+1)*bt:=by
  have h1:=bQ (aG B) hml
  rw[baS (by omega),vB] at h1
  rw[baQ hml] at hbt
  rw[bcJ.inj hbt] at h1
  exact h1
 have hBlow:=dY (LB.take (m+1))
 rw[baV,bcC (by omega)] at hBlow
 have hrow:(aE (aG B))[m+1]?=some [.int .u32 ((bt:Nat):Int)]:=by
  rw[bJ _ hml]
  rw[baQ hml] at hbt
  rw[bcJ.inj hbt]
 have i1:IntKind.i64.wrap ((((aG B).length:Nat):Int)-1)=((m+1:Nat):Int):=by rw[wrap_i64 (by omega) (by omega)]; omega
 have hne1:¬ (((aG B).length:Nat):Int)=1:=by omega
 simp -implicitDefEqProofs only[go_sem,bE hne1,TX]
 refine wp_loop (α:=Nat) (fun s=>aGE (aG A) (aG B) s) (fun _=>.nil) (fun s=>s≤31∧bt*2 ^ s<4294967296) (fun s=>32-s) 0 ⟨by omega,by simpa using hbtl⟩ ?_ PH.nil_le ?_
 ·unfold aGE
  (repeat' (first|exact PF.nil_le|refine PF.aA ?_ ?_))<;>first|(simp -implicitDefEqProofs only[go_sem,γ,reduceCtorEq]<;>rfl)|rfl
 rintro s ⟨hs,hbs⟩
 have esh:=aWB hs hbs
 simp -implicitDefEqProofs only[go_sem,γ,reduceCtorEq,TQ,TY,aGE,i1,hrow,esh]
 refine aOE ?_ ?_
 ·intro c3
  have c3':=of_decide_eq_true c3
  have hs30:s<31:=by
   rcases baU s 31 with h | h
   ·exact h
   ·exfalso
    have h1:2147483648≤2 ^ s:=Nat.pow_le_pow_right (show 0<2 by decide) h
    have h2:1*2 ^ s≤bt*2 ^ s:=bbE _ (by omega)
    omega
  have es:IntKind.u64.wrap ((s:Int)+1)=((s+1:Nat):Int):=by rw[wrap_u64 (by omega) (by omega)]; omega
  simp -implicitDefEqProofs only[go_sem,γ,reduceCtorEq,TZ,es]
  refine aH (s+1) ⟨by omega,by rw[bbS,← baX]; omega⟩ (by omega) ?_ PH.nil_le
  (repeat' (first|exact PF.nil_le|refine PF.aA ?_ ?_))<;>first|(simp -implicitDefEqProofs only[go_sem,γ,reduceCtorEq]<;>rfl)|rfl
 intro c3
 have c3':=of_decide_eq_false c3
 have hs32:s<32:=by omega
 have hp2:0<2 ^ s:=bcR (by decide)
 have hVlo:2147483648*4294967296 ^ (m+1)≤B*2 ^ s:=by
  have h1:2147483648*4294967296 ^ (m+1)≤(bt*2 ^ s)*4294967296 ^ (m+1):=bbE _ (by omega)
  have h2:(4294967296 ^ (m+1)*bt)*2 ^ s≤B*2 ^ s:=bbE _ (by omega)
  have h3:(4294967296 ^ (m+1)*bt)*2 ^ s=(bt*2 ^ s)*4294967296 ^ (m+1):=by rw[baX,bbA]
  omega
 have hVhi:B*2 ^ s<4294967296 ^ (m+2):=by
  have h0:(bt+1)*2 ^ s≤4294967296:=by
   have e32:(4294967296:Nat)=2 ^ (32-s)*2 ^ s:=by rw[← Nat.pow_add,show 32-s+s=32 by omega]
   have:bt<2 ^ (32-s):=by
    rcases baU bt (2 ^ (32-s)) with h | h
    ·exact h
    ·have:=bbE (2 ^ s) h
     omega
   have:=bbE (2 ^ s) (show bt+1≤2 ^ (32-s) from this)
   omega
  have h1:B<(bt+1)*4294967296 ^ (m+1):=by rw[bbD,Nat.one_mul,bbA bt]; omega
  have h2:B*2 ^ s<(bt+1)*4294967296 ^ (m+1)*2 ^ s:=Nat.mul_lt_mul_of_pos_right h1 hp2
  have h3:(bt+1)*4294967296 ^ (m+1)*2 ^ s=(bt+1)*2 ^ s*4294967296 ^ (m+1):=Nat.mul_right_comm _ _ _
  have h4:(bt+1)*2 ^ s*4294967296 ^ (m+1)≤4294967296*4294967296 ^ (m+1):=bbE _ h0
  have h5:4294967296 ^ (m+2)=4294967296*4294967296 ^ (m+1):=by rw[bbS,bbA]
  omega
 have hAlt:A<4294967296 ^ nl A:=(gB A _).1 (baJ _)
 simp -implicitDefEqProofs only[go_sem]
 refine cC .nil aOI PH.nil_le ?_
 simp -implicitDefEqProofs only[go_sem,γ,reduceCtorEq,LF]
 have ua:=Lb.up (aG A) s LA hs32 (by omega)
 have ub:=Lb.up (aG B) s LB hs32 (by omega)
 refine axE (axF (aG A) s) ua rfl (auU _ _) ?_
 rintro r H' ⟨o,rfl,rfl⟩ -
 rw[PH.lT,lA,vA]
 refine⟨PH.nil_le,?_⟩
 simp -implicitDefEqProofs only[go_sem,γ,reduceCtorEq]
 refine axE (axF (aG B) s) ub rfl (auU _ _) ?_
 rintro r H' ⟨o2,rfl,rfl⟩ hap
 rw[PH.lT,lB,vB,hm]
 refine⟨PH.nil_le,?_⟩
 have hfr:=hap o2 _ (by rw[aU,if_pos rfl]) (by rfl)
 have n21:¬ o2=o:=(fN.1 hfr).1
 have n12:¬ o=o2:=fun h=>n21 h.symm
 have k1:((m+2:Nat):Int)≤((m+2+1:Nat):Int):=by omega
 have k2:IntKind.i64.wrap (((nl A+1:Nat):Int)-((m+2:Nat):Int))=((nl A+1-(m+2):Nat):Int):=by rw[wrap_i64 (by omega) (by omega)]; omega
 obtain⟨lq,hlq⟩:∃ lq,nl A+1-(m+2)=lq:=⟨_,rfl⟩
 have hlu:nl A+1=lq+(m+2):=by omega
 rw[hlq] at k2
 have k3:((lq:Nat):Int)*((4:Nat):Int)≤140737488355328:=by omega
 have k4:((lq:Nat):Int)≤9223372036854775807:=by omega
 have hz:baH lq [PV.int .u32 0]=aE (baH lq 0):=by simp[aE]
 have k5:m+2-0=m+2:=by omega
 simp -implicitDefEqProofs only[go_sem,ν,γ,reduceCtorEq,lB,hm,k1,k5,LG,LH,k2,k3,k4,hz]
 refine aP fun oq hoq=>?_
 have q2:¬ oq=o2:=(fN.1 hoq).1
 have q1:¬ oq=o:=(fN.1 (fN.1 hoq).2).1
 have q2':¬ o2=oq:=fun h=>q2 h.symm
 have q1':¬ o=oq:=fun h=>q1 h.symm
 have hsn:cS (m+2+1) (B*2 ^ s)=cS (m+2) (B*2 ^ s)++[B*2 ^ s/4294967296 ^ (m+2)%4294967296]:=rB _ _
 have Lv:=jP (m+2) (B*2 ^ s)
 have lv:=iQ (m+2) (B*2 ^ s)
 have vv:val (cS (m+2) (B*2 ^ s))=B*2 ^ s:=kX hVhi
 have hvf:(aE (cS (m+2+1) (B*2 ^ s))).take (m+2)=aE (cS (m+2) (B*2 ^ s)):=by
  unfold aE
  rw[← List.map_take,hsn,List.take_append_of_le_length (by omega),baS (by omega)]
 generalize hvv:cS (m+2) (B*2 ^ s)=v at *
 have lvf:(cS (m+2+1) (B*2 ^ s)).length=m+2+1:=iQ _ _
 have gtop:∀ i (h:i<v.length),(aE (cS (m+2+1) (B*2 ^ s)))[i]?=some [.int .u32 ((v[i]:Nat):Int)]:=by
  intro i h
  have h1:(aE v)[i]?=some [.int .u32 ((v[i]:Nat):Int)]:=bJ v h
  rw[← hvf,List.getElem?_take_of_lt (by omega)] at h1
  exact h1
 have g1:=gtop (m+1) (by omega)
 have g0:=gtop m (by omega)
 have htop:2147483648≤v[m+1]:=by
  have h1:=bQ v (show m+1<v.length by omega)
  rw[baS (by omega),vv] at h1
  have h2:=dY (Lv.take (m+1))
  rw[baV,bcC (by omega)] at h2
  rcases baU v[m+1] 2147483648 with h | h
  ·exfalso
   have h3:4294967296 ^ (m+1)*(v[m+1]+1)≤4294967296 ^ (m+1)*2147483648:=bcI _ h
   rw[baO,Nat.mul_one] at h3
   rw[bbA 2147483648] at hVlo
   omega
  ·exact h
 have ht1:=Lv _ (baN (show m+1<v.length by omega))
 have ht0:=Lv _ (baN (show m<v.length by omega))
 have w1:IntKind.u64.wrap ((v[m+1]:Nat):Int)=((v[m+1]:Nat):Int):=aW (by omega)
 have w0:IntKind.u64.wrap ((v[m]:Nat):Int)=((v[m]:Nat):Int):=aW (by omega)
 have j1:IntKind.i64.wrap (((m+2:Nat):Int)-1)=((m+1:Nat):Int):=by rw[wrap_i64 (by omega) (by omega)]; omega
 have j0:IntKind.i64.wrap (((m+2:Nat):Int)-2)=((m:Nat):Int):=by rw[wrap_i64 (by omega) (by omega)]; omega
 have d1:((m+1:Nat):Int)<((m+2:Nat):Int):=by omega
 have d0:((m:Nat):Int)<((m+2:Nat):Int):=by omega
 have jq:IntKind.i64.wrap ((lq:Int)-1)=(lq:Int)-1:=wrap_i64 (by omega) (by omega)
 simp -implicitDefEqProofs only[go_sem,γ,reduceCtorEq]
 refine cC .nil eE PH.nil_le ?_
 simp -implicitDefEqProofs only[go_sem,γ,reduceCtorEq,LJ,j1,j0,d1,d0,q2',g1,g0,w1,w0,LK,jq]
 have hUlt:A*2 ^ s<4294967296 ^ (nl A+1):=by
  have h0:2 ^ s≤4294967296:=by
   have:(2:Nat) ^ s≤2 ^ 32:=Nat.pow_le_pow_right (by decide) (by omega)
   simpa using this
  have h1:A*2 ^ s<4294967296 ^ nl A*2 ^ s:=Nat.mul_lt_mul_of_pos_right hAlt hp2
  have h2:4294967296 ^ nl A*2 ^ s≤4294967296 ^ nl A*4294967296:=bcI _ h0
  rw[bbS]; omega
 have LU:=jP (nl A+1) (A*2 ^ s)
 have lU:=iQ (nl A+1) (A*2 ^ s)
 have vU:val (cS (nl A+1) (A*2 ^ s))=A*2 ^ s:=kX hUlt
 have hI:lJ (A*2 ^ s) (val v) (m+2) (nl A+1) lq lq (cS (nl A+1) (A*2 ^ s)) (baH lq 0):=by
  refine⟨lU,List.length_replicate,LU,rG _,by rw[vU,oL]; omega,?_,fun i x _ hx=>avR hx⟩
  ·rw[qI LU (by omega),vU,vv,bcV (bcR (by decide))]
   have h1:A*2 ^ s<4294967296 ^ nl A*2 ^ s:=Nat.mul_lt_mul_of_pos_right hAlt hp2
   have hx:nl A=m+1+lq:=by omega
   have h2:4294967296 ^ nl A=4294967296 ^ (m+1)*4294967296 ^ lq:=by rw[hx,Nat.pow_add]
   have h3:2 ^ s≤2147483648:=by
    have:(2:Nat) ^ s≤2 ^ 31:=Nat.pow_le_pow_right (by decide) hs
    simpa using this
   have h4:4294967296 ^ nl A*2 ^ s≤(2147483648*4294967296 ^ (m+1))*4294967296 ^ lq:=by
    rw[h2,bbA (4294967296 ^ (m+1)*4294967296 ^ lq),← baX]
    exact bbE _ (bbE _ h3)
   have h5:(2147483648*4294967296 ^ (m+1))*4294967296 ^ lq≤B*2 ^ s*4294967296 ^ lq:=bbE _ hVlo
   omega
 have key:=aqB (C:=C) Lb.D (A*2 ^ s) m (nl A+1) lq o o2 oq s v (cS (m+2+1) (B*2 ^ s)) n21 q1 q2 Lv lv hvf (by omega) htop hlu (by omega) _ hI
 simp -implicitDefEqProofs only[go_sem,ο] at key
 refine key _ _ _ ?_ (by simp -implicitDefEqProofs only[go_sem,n12,q1']) (by simp -implicitDefEqProofs only[go_sem,q2']) (by simp -implicitDefEqProofs only[go_sem]) ?_
 ·unfold dI
  (repeat' (first|exact PF.nil_le|refine PF.aA ?_ ?_))<;>first|(simp -implicitDefEqProofs only[go_sem,γ,reduceCtorEq]<;>rfl)|rfl
 clear key
 intro U' Q' F' hI' hF'
 have hu:val U'<val v:=by have:=hI'.r; rwa [bbG] at this
 have hv':=hI'.v
 rw[vv] at hu hv'
 have hVp:0<B*2 ^ s:=by omega
 have hQv:val Q'=A/B:=by
  have:A*2 ^ s/(B*2 ^ s)=val Q':=by
   rw[← hv',Nat.add_mul_div_right _ _ hVp,bdI hu,bbF]
  rw[← this,Nat.mul_div_mul_right _ _ hp2]
 have hUv:val U'/2 ^ s=A%B:=by
  have:A*2 ^ s%(B*2 ^ s)=val U':=by rw[← hv',Nat.add_mul_mod_self_right,bbH hu]
  rw[← this,Nat.mul_mod_mul_right,Nat.mul_div_cancel _ hp2]
 have g8:=hF' 8 _ (by unfold dI; simp -implicitDefEqProofs only[go_sem,ο,γ]; rfl)
 have g9:=hF' 9 _ (by unfold dI; simp -implicitDefEqProofs only[go_sem,ο,γ]; rfl)
 have g11:=hF' 11 _ (by unfold dI; simp -implicitDefEqProofs only[go_sem,ο,γ]; rfl)
 have g12:=hF' 12 _ (by unfold dI; simp -implicitDefEqProofs only[go_sem,ο,γ]; rfl)
 have rest:=aqC (C:=C) o (nl A+1) oq lq (m+2) s U' Q' hs32 q1 hI'.limU hI'.lu' (by omega) (by omega)
 simp -implicitDefEqProofs only[go_sem] at rest
 simp -implicitDefEqProofs only[go_sem]
 refine rest _ _ g8 g9 g11 g12 ?_
 clear rest
 intro or F2 H2 r1 r2 hF2 hQ2 hR2
 rw[hUv] at hR2
 have k12:=hF2 12 _ (by unfold rFr; simp -implicitDefEqProofs only[go_sem,γ]; rfl)
 have k19:=hF2 19 _ (by unfold rFr; simp -implicitDefEqProofs only[go_sem,γ]; rfl)
 have hRlt:A%B<4294967296 ^ (m+2):=by
  have h1:A%B<B:=bbM _ hB0
  have h2:B<4294967296 ^ nl B:=(gB B _).1 (baJ _)
  rw[hm] at h2; omega
 have LR:=jP (m+2) (A%B)
 have lR:=iQ (m+2) (A%B)
 have vR:val (cS (m+2) (A%B))=A%B:=kX hRlt
 have nQ:=eK hI'.limQ
 have nR:=eK LR
 have e1:=hI'.lq'
 generalize hRR:cS (m+2) (A%B)=R at *
 simp -implicitDefEqProofs only[go_sem]
 refine cC .nil aOI PH.nil_le ?_
 simp -implicitDefEqProofs only[go_sem,γ,LT,k12]
 have LOq:=Lb.lengthO Q' oq hI'.limQ (by omega)
 rw[e1] at LOq
 have LOr:=Lb.lengthO R or LR (by omega)
 rw[lR] at LOr
 refine NJ (o:=oq) (x:=.rows 1 (aE Q')) (v:=.int .i64 (nl (val Q'):Nat)) rfl hQ2 LOq (adD oq Q') (fun r H' hr=>⟨hr.2 Q' hI'.limQ (by rw[jK]),hr.1⟩) rfl PH.nil_le ?_
 have c4:((nl (val Q'):Nat):Int)≤(lq:Nat):=by omega
 simp -implicitDefEqProofs only[go_sem,ν,γ,reduceCtorEq,c4,k19,Nat.sub_zero]
 refine NJ (o:=or) (x:=.rows 1 (aE R)) (v:=.int .i64 (nl (val R):Nat)) rfl hR2 LOr (adD or R) (fun r H' hr=>⟨hr.2 R LR (by rw[jK]),hr.1⟩) rfl PH.nil_le ?_
 have c5:((nl (val R):Nat):Int)≤((m+2:Nat):Int):=by omega
 simp -implicitDefEqProofs only[go_sem,ν,γ,reduceCtorEq,c5]
 refine aLM (o1:=oq) (o2:=or) (s1:=1) (s2:=1) (k1:=nl (val Q')) (k2:=nl (val R)) (rs1:=aE Q') (rs2:=aE R) (.inr rfl) (fun h=>r2 h.symm) rfl rfl hQ2 hR2 (by rw[bN]; exact nQ) (by rw[bN]; exact nR) (nZ _ _ _ _) rfl ⟨?_,rfl⟩
 have t1:(aE Q').take (nl (val Q'))=aE (aG (A/B)):=by
  have:=fU hI'.limQ
  rw[hQv] at this ⊢
  exact this
 have t2:(aE R).take (nl (val R))=aE (aG (A%B)):=by
  have:=fU LR
  rw[vR] at this ⊢
  exact this
 rw[t1,t2]
 exact .refl _
end Go.PM
namespace Go.PM
open Go Go.Na
def aOZ (a b:Nat):PF:=((PF.nil.set 0 (aF (aG a))).set 1 (aF (aG b)))
theorem aVP {C:Ctx} (L:nE C) (hdiv:∀ A B:Nat,B≠0→nl A≤900→nl B≤900→aJ C 136 [aF (aG A),aF (aG B)] .nil (aK (mW A B))) (a b:List Nat) (ha:Lim a) (hb:Lim b) (la:a.length≤16777216) (lb:b.length≤16777216) :
  GK.wp C (aZ aqD.res (bW (if eI (val a) (val b) then .tup [aF [],.int .i64 2] else .tup [aF (aG (baG (val a) (val b))),.int .i64 0]))) (PF.args [aF a,aF b]) .nil:=by
 simp -implicitDefEqProofs only[go_sem,reduceCtorEq,GK,aBR,aBS,aqD]
 refine aB (L.large a ha la) rfl ?_
 by_cases c1:nl (val a)>512
 ·simp -implicitDefEqProofs only[go_sem,γ,c1,YB]
  rw[if_pos (by simp[eI,c1])]
  exact gJ rfl
 simp -implicitDefEqProofs only[go_sem,γ,c1]
 refine aB (L.large b hb lb) rfl ?_
 by_cases c2:nl (val b)>512
 ·simp -implicitDefEqProofs only[go_sem,γ,reduceCtorEq,c2,YB]
  rw[if_pos (by simp[eI,c2])]
  exact gJ rfl
 rw[if_neg (by simp[eI,c1,c2])]
 simp -implicitDefEqProofs only[go_sem,γ,reduceCtorEq,c2,aBT]
 refine aB (L.trim a ha la) rfl ?_
 simp -implicitDefEqProofs only[go_sem,γ]
 refine aB (L.trim b hb lb) rfl ?_
 simp -implicitDefEqProofs only[go_sem,γ,reduceCtorEq]
 refine wp_loop (α:=Nat × Nat) (fun t=>aOZ t.1 t.2) (fun _=>.nil) (fun t=>baG t.1 t.2=baG (val a) (val b)∧nl t.1≤512∧nl t.2≤512) (fun t=>t.2) (val a,val b) ⟨rfl,by simp only; omega,by simp only; omega⟩ ?_ PH.nil_le ?_
 ·unfold aOZ
  (repeat' (first|exact PF.nil_le|refine PF.aA ?_ ?_))<;>first|(simp -implicitDefEqProofs only[go_sem,γ,reduceCtorEq]<;>rfl)|rfl
 rintro⟨x,y⟩ ⟨hg,hx,hy⟩
 simp only at hg hx hy
 simp -implicitDefEqProofs only[go_sem,γ,reduceCtorEq,aBQ,aBU,aOZ,bG]
 by_cases c3:y=0
 ·subst c3
  have:¬ ((nl 0:Nat):Int)>0:=by rw[tD]; decide
  simp -implicitDefEqProofs only[go_sem,γ,reduceCtorEq,this,aBX]
  refine aY (vs:=[aF (aG x),.int .i64 0]) (.inr rfl) .nil rfl PH.nil_le ⟨?_,rfl⟩
  rw[← hg,Nat.gcd_zero_right]
  exact .refl _
 ·have h0:nl y≠0:=fun h=>c3 (gZ.1 h)
  have:((nl y:Nat):Int)>0:=by omega
  simp -implicitDefEqProofs only[go_sem,γ,reduceCtorEq,this,aBV]
  refine aB (hdiv x y c3 (by omega) (by omega)) rfl ?_
  simp -implicitDefEqProofs only[go_sem,γ,reduceCtorEq,mW,aBW]
  have hlt:x%y<y:=bbM _ (bcQ c3)
  refine aH (y,x%y) ⟨?_,hy,?_⟩ hlt ?_ PH.nil_le
  ·simp only
   rw[← hg,Nat.gcd_comm y,← Nat.gcd_rec y x,Nat.gcd_comm]
  ·have:=fZ (Nat.le_of_lt hlt)
   simp only; omega
  ·(repeat' (first|exact PF.nil_le|refine PF.aA ?_ ?_))<;>first|(simp -implicitDefEqProofs only[go_sem,γ,reduceCtorEq]<;>rfl)|rfl
def jU (A B:Nat):PV:=if eI A B then .tup [aF [],aF [],.int .i64 2] else if B=0 then .tup [aF [],aF [],.int .i64 3] else .tup [aF (aG (A/B)),aF (aG (A%B)),.int .i64 0]
def aGF:Spec:=fun name vs=>match name,vs with
 | 138,[x]=>some ([],fun _=>aK (.int .i64 (nl (val (iP x)):Nat)))
 | 136,[x,y]=>some ([],fun _=>aK (mW (val (iP x)) (val (iP y))))
 | _,_=>none
theorem GI (xs:List Nat):aGF 138 [aF xs]=some ([],fun _=>aK (.int .i64 (nl (val xs):Nat))):=by
 show some _=_; rw[eF]
theorem aqA (A B:Nat):aGF 136 [aF (aG A),aF (aG B)]=some ([],fun _=>aK (mW A B)):=by
 show some _=_; rw[eF,eF,aV,aV]
theorem oE {res:List eA} {F:PF} {H:PH} {e:Int} (h:eA.evs F H res=some [.nils,.nils,.int .i64 e]):aZ res (bW (.tup [aF [],aF [],.int .i64 e])) .ret F H:=by
 refine aY (.inr rfl) .nil h PH.nil_le ⟨?_,rfl⟩
 refine .tup rfl fun j p q hp hq=>?_
 match j with
 | 0=>simp at hp hq; subst hp; subst hq; exact .nil 1
 | 1=>simp at hp hq; subst hp; subst hq; exact .nil 1
 | 2=>simp at hp hq; subst hp; subst hq; exact .refl _
 | j+3=>simp at hp
theorem aVN {C:Ctx} (L:nE C) (hdiv:∀ A B:Nat,B≠0→nl A≤900→nl B≤900→aJ C 136 [aF (aG A),aF (aG B)] .nil (aK (mW A B))) (a b:List Nat) (ha:Lim a) (hb:Lim b) (la:a.length≤16777216) (lb:b.length≤16777216) :
  GJ.wp C (aZ apZ.res (bW (jU (val a) (val b)))) (PF.args [aF a,aF b]) .nil:=by
 simp -implicitDefEqProofs only[go_sem,reduceCtorEq,GJ,aBK,aBL,apZ]
 refine aB (L.large a ha la) rfl ?_
 by_cases c1:nl (val a)>512
 ·simp -implicitDefEqProofs only[go_sem,γ,c1,YA]
  rw[show jU (val a) (val b)=.tup [aF [],aF [],.int .i64 2] by simp[jU,eI,c1]]
  exact oE rfl
 simp -implicitDefEqProofs only[go_sem,γ,c1]
 refine aB (L.large b hb lb) rfl ?_
 by_cases c2:nl (val b)>512
 ·simp -implicitDefEqProofs only[go_sem,γ,reduceCtorEq,c2,YA]
  rw[show jU (val a) (val b)=.tup [aF [],aF [],.int .i64 2] by simp[jU,eI,c2]]
  exact oE rfl
 simp -implicitDefEqProofs only[go_sem,γ,reduceCtorEq,c2,aBM]
 refine aB (L.length b hb lb) rfl ?_
 by_cases c3:val b=0
 ·have:((nl (val b):Nat):Int)=0:=by rw[c3,tD]; rfl
  simp -implicitDefEqProofs only[go_sem,γ,bS this,aBN]
  rw[show jU (val a) (val b)=.tup [aF [],aF [],.int .i64 3] by simp[jU,eI,c1,c3,tD]]
  exact oE rfl
 have h0:nl (val b)≠0:=fun h=>c3 (gZ.1 h)
 rw[show jU (val a) (val b)=.tup [aF (aG (val a/val b)),aF (aG (val a%val b)),.int .i64 0] by simp[jU,eI,c1,c2,c3]]
 simp -implicitDefEqProofs only[go_sem,γ,bE (show ((nl (val b):Nat):Int)≠0 by omega)]
 refine cC .nil aGF PH.nil_le ?_
 simp -implicitDefEqProofs only[go_sem,reduceCtorEq,aBO]
 have h1:=eK ha
 have h2:=eK hb
 have h1':((nl (val a):Nat):Int)≤(a.length:Nat):=by omega
 have h2':((nl (val b):Nat):Int)≤(b.length:Nat):=by omega
 refine cN (GI a) (L.length a ha la) rfl PH.nil_le ?_
 simp -implicitDefEqProofs only[go_sem,ν,γ,reduceCtorEq,h1',or_true,bbG,fU ha]
 refine cN (GI b) (L.length b hb lb) rfl PH.nil_le ?_
 simp -implicitDefEqProofs only[go_sem,ν,γ,reduceCtorEq,h2',or_true,bbG,fU hb]
 refine cN (aqA (val a) (val b)) (hdiv _ _ c3 (by omega) (by omega)) rfl PH.nil_le ?_
 simp -implicitDefEqProofs only[go_sem,γ,mW,aBP]
 exact aY (.inr rfl) .nil rfl PH.nil_le ⟨.refl _,rfl⟩
end Go.PM
namespace Go.PM
open Go
def RM:Rg:=[iA 6 (.alloc [(.bool false),.nils,.nils]),iI 7 0]
def RN:Rg:=[iM 11 1,iM 12 2,iA 13 (.call 131 [(Tm 11),(Tm 12)]),iM 10 13,iA 14 (.extract (Tm 10) 0),iA 15 (.extract (Tm 10) 1),iM 8 14,iM 9 15]
def RO:Rg:=[iM 16 8,iA 17 (.call 128 [(Tm 16)]),iC 18 .gtr 17 1]
def RP:Rg:=[iM 20 1,iM 21 8,iA 22 (.call 130 [(Tm 20),(Tm 21)]),iM 19 22,iA 23 (.extract (Tm 19) 0),iA 24 (.extract (Tm 19) 1),iA 25 (.extract (Tm 19) 2),iM 1 23]
def RQ:Rg:=[iM 27 2,iM 28 8,iA 29 (.call 130 [(Tm 27),(Tm 28)]),iM 26 29,iA 30 (.extract (Tm 26) 0),iA 31 (.extract (Tm 26) 1),iA 32 (.extract (Tm 26) 2),iM 2 30]
def zO:Rg:=[iM 33 1,iA 34 (.call 128 [(Tm 33)]),iC 35 .gtr 34 4096,iM 36 35,iG 37 (.mv (Tm 2)) 36 false,iG 38 (.call 128 [(Tm 37)]) 36 false,iG 39 (.bin .gtr (Tm 38) (Ci 4096)) 36 false,iA 40 (.pick (Tm 36) (.const (.bool true)) (Tm 39))]
def rY:Rg:=[iA 41 (.build [(.bool false),.nils,.nils] []),iS 3 6 41,iI 7 2]
def zP:Rg:=[iM 42 0,iM 43 42,iG 44 (.mv (Tm 1)) 43 true,iG 45 (.call 128 [(Tm 44)]) 43 true,iG 46 (.bin .gtr (Tm 45) (Ci 0)) 43 true,iA 47 (.pick (Tm 43) (Tm 46) (.const (.bool false))),iM 48 1,iA 49 (.call 135 [(Tm 48)]),iM 50 2,iA 51 (.call 135 [(Tm 50)]),iA 52 (.build [(.bool false),.nils,.nils] [(0,1,(Tm 47)),(1,1,(Tm 49)),(2,1,(Tm 51))]),iS 3 6 52,iI 7 0]
def tK:aC:=(.seq (.region RM) (.seq (.seq (.region RN) (.seq (.region RO) (.cond (Tm 18) (.seq (.region RP) (.region RQ)) .skip))) (.seq (.seq (.region zO) (.cond (Tm 40) (.seq (.region rY) .ret) .skip)) (.seq (.region zP) .ret))))
def aEY:List Nat:=[]
def mH:bD:=⟨3,53,tK,[.cell 6 (some 3),.tmp 7]⟩
def ZH:Rg:=[iA 4 (.mv (.const .nils))]
def ZI:Rg:=[iM 8 0,iM 9 1,iA 10 (.call 133 [(Tm 8),(Tm 9)]),iM 7 10,iA 11 (.extract (Tm 7) 0),iA 12 (.extract (Tm 7) 1),iM 5 11,iM 6 12]
def ZJ:Rg:=[iM 13 5,iM 4 13]
def vZ:aC:=(.seq (.region ZH) (.seq (.region ZI) (.seq (.region ZJ) .ret)))
def aIV:List Nat:=[]
def EQ:bD:=⟨2,14,vZ,[.tmp 4]⟩
def ajP:Rg:=[iA 1 (.box true (Tm 0)),iA 2 (.mv (.const (.bool false)))]
def ajQ:Rg:=[iF 3 1 1,iL 4 3,iA 5 (.call 128 [(Tm 4)]),iC 6 .eql 5 0,iM 2 6]
def zS:aC:=(.seq (.region ajP) (.seq (.region ajQ) .ret))
def aOS:List Nat:=[1]
def RX:bD:=⟨1,7,zS,[.tmp 2]⟩
def ajJ:Rg:=[iA 4 (.alloc [(.bool false),.nils,.nils]),iI 5 0]
def ajK:Rg:=[iM 6 1,iC 7 .eql 6 0]
def ajL:Rg:=[iA 8 (.build [(.bool false),.nils,.nils] []),iS 3 4 8,iI 5 3]
def ajM:Rg:=[iM 9 0,iC 10 .lss 9 0,iM 11 1,iC 12 .lss 11 0,iA 13 (.eqb true (Tm 10) (Tm 12)),iM 14 0,iA 15 (.call 119 [(Tm 14)]),iM 16 1,iA 17 (.call 119 [(Tm 16)]),iA 18 (.call 120 [(Tm 13),(Tm 15),(Tm 17)]),iA 19 (.extract (Tm 18) 0),iA 20 (.extract (Tm 18) 1),iS 3 4 19,iM 5 20]
def zQ:aC:=(.seq (.region ajJ) (.seq (.seq (.region ajK) (.cond (Tm 7) (.seq (.region ajL) .ret) .skip)) (.seq (.region ajM) .ret)))
def aOQ:List Nat:=[]
def JQ:bD:=⟨2,21,zQ,[.cell 4 (some 3),.tmp 5]⟩
def axK:Rg:=[iA 2 (.mv (.const .nils))]
def axL:Rg:=[iM 3 0,iC 4 .lss 3 0]
def axM:Rg:=[iM 5 0,iA 6 (.conv .u64 (Tm 5)),iA 7 (.un .neg (Tm 6)),iA 8 (.call 132 [(Tm 7)]),iM 2 8]
def axN:Rg:=[iM 9 0,iA 10 (.conv .u64 (Tm 9)),iA 11 (.call 132 [(Tm 10)]),iM 2 11]
def EG:aC:=(.seq (.region axK) (.seq (.seq (.region axL) (.cond (Tm 4) (.seq (.region axM) .ret) .skip)) (.seq (.region axN) .ret)))
def aTM:List Nat:=[]
def ajD:bD:=⟨1,12,EG,[.tmp 2]⟩
def ZK:Rg:=[iA 1 (.box true (Tm 0)),iA 2 (.mv (.const (.bool false)))]
def ZL:Rg:=[iF 4 2 1,iL 5 4,iA 6 (.call 128 [(Tm 5)]),iM 3 6]
def uO:Rg:=[iM 7 3,iC 8 .gtr 7 0,iM 9 8,iG 10 (.mv (Tm 3)) 9 true,iG 11 (.bin .leq (Tm 10) (Ci 4096)) 9 true,iA 12 (.pick (Tm 9) (Tm 11) (.const (.bool false))),iM 13 12,iG 14 (.fieldA 1 (Tm 1)) 13 true,iG 15 (.load none (Tm 14)) 13 true,iG 16 (.call 128 [(Tm 15)]) 13 true,iG 17 (.bin .leq (Tm 16) (Ci 4096)) 13 true,iA 18 (.pick (Tm 13) (Tm 17) (.const (.bool false))),iM 2 18]
def wA:aC:=(.seq (.region ZK) (.seq (.region ZL) (.seq (.region uO) .ret)))
def aIX:List Nat:=[1]
def ER:bD:=⟨1,19,wA,[.tmp 2]⟩
def RR:Rg:=[iA 1 (.box true (Tm 0)),iA 2 (.alloc [(.bool false),.nils,.nils]),iI 3 0]
def RS:Rg:=[iA 4 (.load (some 3) (Tm 1)),iA 5 (.call 118 [(Tm 4)]),iA 6 (.un .not (Tm 5))]
def RT:Rg:=[iA 7 (.build [(.bool false),.nils,.nils] []),iS 3 2 7,iI 3 1]
def RU:Rg:=[iF 8 0 1,iL 9 8,iF 10 1 1,iL 11 10,iF 12 2 1,iL 13 12,iA 14 (.call 120 [(Tm 9),(Tm 11),(Tm 13)]),iA 15 (.extract (Tm 14) 0),iA 16 (.extract (Tm 14) 1),iS 3 2 15,iM 3 16]
def tL:aC:=(.seq (.region RR) (.seq (.seq (.region RS) (.cond (Tm 6) (.seq (.region RT) .ret) .skip)) (.seq (.region RU) .ret)))
def aFC:List Nat:=[1]
def sX:bD:=⟨1,17,tL,[.cell 2 (some 3),.tmp 3]⟩
def axX:Rg:=[iA 2 (.box true (Tm 0)),iA 3 (.box true (Tm 1)),iI 4 0,iI 5 0]
def axY:Rg:=[iA 9 (.load (some 3) (Tm 2)),iA 10 (.call 118 [(Tm 9)]),iA 11 (.un .not (Tm 10)),iM 12 11,iG 13 (.load (some 3) (Tm 3)) 12 false,iG 14 (.call 118 [(Tm 13)]) 12 false,iG 15 (.un .not (Tm 14)) 12 false,iA 16 (.pick (Tm 12) (.const (.bool true)) (Tm 15))]
def WY:Rg:=[iI 4 0,iI 5 1]
def axZ:Rd:=[(iF 17 1 2,false),(iL 18 17,false),(iF 19 2 3,false),(iL 20 19,false),(iA 21 (.call 121 [(Tm 18),(Tm 20)]),true),(iF 22 1 3,true),(iL 23 22,true),(iF 24 2 2,true),(iL 25 24,true),(iA 26 (.call 121 [(Tm 23),(Tm 25)]),true),(iA 27 (.call 129 [(Tm 21),(Tm 26)]),true),(iM 6 27,false)]
def ayA:Rd:=[(iF 28 0 2,false),(iL 29 28,false),(iM 30 29,false),(iG 31 (.load (some 3) (Tm 2)) 30 true,false),(iG 32 (.call 122 [(Tm 31)]) 30 true,true),(iG 33 (.un .not (Tm 32)) 30 true,true),(iA 34 (.pick (Tm 30) (Tm 33) (.const (.bool false))),true),(iF 35 0 3,true),(iL 36 35,true),(iM 37 36,false),(iG 38 (.load (some 3) (Tm 3)) 37 true,false),(iG 39 (.call 122 [(Tm 38)]) 37 true,true),(iG 40 (.un .not (Tm 39)) 37 true,false),(iA 41 (.pick (Tm 37) (Tm 40) (.const (.bool false))),false),(iM 7 34,false),(iM 8 41,false)]
def sW:Rg:=[iM 43 7,iM 44 43,iG 45 (.mv (Tm 8)) 44 true,iA 46 (.pick (Tm 44) (Tm 45) (.const (.bool false))),iM 42 46]
def WZ:Rg:=[iM 47 6,iA 48 (.un .neg (Tm 47)),iM 4 48,iI 5 0]
def yF:Rg:=[iM 50 7,iM 49 50]
def XA:Rg:=[iI 4 (-1),iI 5 0]
def JO:Rg:=[iM 52 8,iM 51 52]
def NM:Rg:=[iI 4 1,iI 5 0]
def NN:Rg:=[iM 53 6,iM 4 53,iI 5 0]
def EJ:aC:=(.seq (.region axX) (.seq (.seq (.region axY) (.cond (Tm 16) (.seq (.region WY) .ret) .skip)) (.seq (.draw axZ) (.seq (.draw ayA) (.seq (.block 0 (.seq (.region sW) (.cond (Tm 42) (.seq (.region WZ) .ret) (.seq (.region yF) (.cond (Tm 49) (.seq (.region XA) .ret) (.seq (.region JO) (.cond (Tm 51) (.seq (.region NM) .ret) .skip))))))) (.seq (.region NN) .ret))))))
def aTQ:List Nat:=[2,3]
def ajG:bD:=⟨2,54,EJ,[.tmp 4,.tmp 5]⟩
def axO:Rg:=[iA 2 (.box true (Tm 0)),iA 3 (.box true (Tm 1)),iA 4 (.alloc [(.bool false),.nils,.nils]),iI 5 0]
def axP:Rg:=[iA 15 (.load (some 3) (Tm 2)),iA 16 (.call 118 [(Tm 15)]),iA 17 (.un .not (Tm 16)),iM 18 17,iG 19 (.load (some 3) (Tm 3)) 18 false,iG 20 (.call 118 [(Tm 19)]) 18 false,iG 21 (.un .not (Tm 20)) 18 false,iA 22 (.pick (Tm 18) (.const (.bool true)) (Tm 21))]
def WX:Rg:=[iA 23 (.build [(.bool false),.nils,.nils] []),iS 3 4 23,iI 5 1]
def axQ:Rd:=[(iF 24 1 2,false),(iL 25 24,false),(iF 26 2 3,false),(iL 27 26,false),(iA 28 (.call 121 [(Tm 25),(Tm 27)]),true),(iF 29 1 3,true),(iL 30 29,true),(iF 31 2 2,true),(iL 32 31,true),(iA 33 (.call 121 [(Tm 30),(Tm 32)]),true),(iF 34 2 2,true),(iL 35 34,true),(iF 36 2 3,true),(iL 37 36,true),(iA 38 (.call 121 [(Tm 35),(Tm 37)]),true),(iM 6 28,false),(iM 7 33,false),(iM 8 38,false)]
def axR:Rg:=[iF 39 0 2,iL 40 39,iF 41 0 3,iL 42 41,iA 43 (.eqb false (Tm 40) (Tm 42))]
def axS:Rg:=[iM 45 6,iM 46 7,iA 47 (.call 127 [(Tm 45),(Tm 46)]),iM 44 47,iA 48 (.extract (Tm 44) 0),iA 49 (.extract (Tm 44) 1),iM 9 48,iM 10 49]
def axT:Rg:=[iF 50 0 2,iL 51 50,iM 52 9,iM 53 8,iA 54 (.call 120 [(Tm 51),(Tm 52),(Tm 53)]),iA 55 (.extract (Tm 54) 0),iA 56 (.extract (Tm 54) 1),iS 3 4 55,iM 5 56]
def axU:Rg:=[iM 57 6,iM 58 7,iA 59 (.call 129 [(Tm 57),(Tm 58)]),iC 60 .geq 59 0]
def axV:Rg:=[iM 62 6,iM 63 7,iA 64 (.call 134 [(Tm 62),(Tm 63)]),iM 61 64,iA 65 (.extract (Tm 61) 0),iA 66 (.extract (Tm 61) 1),iM 11 65,iM 12 66]
def axW:Rg:=[iF 67 0 2,iL 68 67,iM 69 11,iM 70 8,iA 71 (.call 120 [(Tm 68),(Tm 69),(Tm 70)]),iA 72 (.extract (Tm 71) 0),iA 73 (.extract (Tm 71) 1),iS 3 4 72,iM 5 73]
def ajE:Rg:=[iM 75 7,iM 76 6,iA 77 (.call 134 [(Tm 75),(Tm 76)]),iM 74 77,iA 78 (.extract (Tm 74) 0),iA 79 (.extract (Tm 74) 1),iM 13 78,iM 14 79]
def ajF:Rg:=[iF 80 0 3,iL 81 80,iM 82 13,iM 83 8,iA 84 (.call 120 [(Tm 81),(Tm 82),(Tm 83)]),iA 85 (.extract (Tm 84) 0),iA 86 (.extract (Tm 84) 1),iS 3 4 85,iM 5 86]
def EI:aC:=(.seq (.region axO) (.seq (.seq (.region axP) (.cond (Tm 22) (.seq (.region WX) .ret) .skip)) (.seq (.draw axQ) (.seq (.seq (.region axR) (.cond (Tm 43) (.seq (.region axS) (.seq (.region axT) .ret)) .skip)) (.seq (.seq (.region axU) (.cond (Tm 60) (.seq (.region axV) (.seq (.region axW) .ret)) .skip)) (.seq (.region ajE) (.seq (.region ajF) .ret)))))))
def aTO:List Nat:=[2,3]
def EH:bD:=⟨2,87,EI,[.cell 4 (some 3),.tmp 5]⟩
def ayC:Rg:=[iA 2 (.alloc [(.bool false),.nils,.nils]),iI 3 0]
def ayD:Rg:=[iA 9 (.call 132 [(.const (.int .u64 1))]),iA 10 (.build [(.bool false),.nils,.nils] [(2,1,(Tm 9))]),iA 4 (.alloc [(.bool false),.nils,.nils]),iS 3 4 10]
def ayE:Rg:=[iM 11 0,iN 12 11,iI 13 0]
def ayF:Rg:=[iB 14 .lss 13 12]
def ayG:Rg:=[iX 15 3 11 13,iA 16 (.load (some 3) (Tm 15)),iA 6 (.alloc [(.bool false),.nils,.nils]),iS 3 6 16]
def ayH:Rg:=[iA 18 (.load (some 3) (Tm 4)),iA 19 (.load (some 3) (Tm 6)),iA 20 (.call 113 [(Tm 18),(Tm 19)]),iM 17 20,iA 21 (.extract (Tm 17) 0),iA 22 (.extract (Tm 17) 1),iA 7 (.alloc [(.bool false),.nils,.nils]),iS 3 7 21,iM 8 22]
def XC:Rg:=[iM 23 8,iC 24 .neq 23 0]
def ayI:Rg:=[iA 25 (.build [(.bool false),.nils,.nils] []),iM 26 8,iS 3 2 25,iM 3 26]
def ayJ:Rg:=[iA 27 (.load (some 3) (Tm 7)),iS 3 4 27]
def ayK:Rg:=[iC 28 .add 13 1,iM 13 28]
def ajO:aC:=(.seq (.region ayF) (.seq (.cond (Tm 14) .skip (.exit 0)) (.seq (.block 1 (.seq (.region ayG) (.seq (.region ayH) (.seq (.seq (.region XC) (.cond (Tm 24) (.seq (.region ayI) .ret) .skip)) (.region ayJ))))) (.region ayK))))
def NS:Rg:=[iA 29 (.load (some 3) (Tm 4)),iS 3 2 29,iI 3 0]
def EP:aC:=(.seq (.region ayC) (.seq (.region ayD) (.seq (.seq (.region ayE) (.block 0 (.loop ajO))) (.seq (.region NS) .ret))))
def aTW:List Nat:=[]
def NR:bD:=⟨1,30,EP,[.cell 2 (some 3),.tmp 3]⟩
end Go.PM
namespace Go.PM
open Go Go.Na
theorem CoL.nil:CoL [] []:=.refl _
theorem CoL.cons {p q:PV} {ps qs:List PV} (h:Co p q) (hs:CoL ps qs):CoL (p::ps) (q::qs) :=
 ⟨by simp[hs.len],fun j a b ha hb=>by
  cases j with
  | zero=>simp at ha hb; subst ha; subst hb; exact h
  | succ j=>exact hs.at_ j a b (by simpa using ha) (by simpa using hb)⟩
theorem CoL.agg {ps qs:List PV} (h:CoL ps qs):Co (.agg ps) (.agg qs):=.agg h.len h.at_
theorem CoL.tup {ps qs:List PV} (h:CoL ps qs):Co (.tup ps) (.tup qs):=.tup h.len h.at_
structure oR (C:Ctx):Prop extends nE C where
 bits:∀ xs,Lim xs→xs.length≤16777216→aJ C 128 [aF xs] .nil (aK (.int .i64 (bY (val xs):Nat)))
 add:∀ xs ys,Lim xs→Lim ys→xs.length≤16777216→ys.length≤16777216→aJ C 127 [aF xs,aF ys] .nil (aK (opV (eI (val xs) (val ys)) (val xs+val ys)))
 sub:∀ xs ys,Lim xs→Lim ys→xs.length≤16777216→ys.length≤16777216→aJ C 134 [aF xs,aF ys] .nil (aK (uC (val xs) (val ys)))
 mul:∀ xs ys,Lim xs→Lim ys→xs.length≤16777216→ys.length≤16777216→aJ C 133 [aF xs,aF ys] .nil (aK (opV (eI (val xs) (val ys)) (val xs*val ys)))
 gcd:∀ xs ys,Lim xs→Lim ys→xs.length≤16777216→ys.length≤16777216→aJ C 131 [aF xs,aF ys] .nil (aK (if eI (val xs) (val ys) then .tup [aF [],.int .i64 2] else .tup [aF (aG (baG (val xs) (val ys))),.int .i64 0]))
 div:∀ xs ys,Lim xs→Lim ys→xs.length≤16777216→ys.length≤16777216→aJ C 130 [aF xs,aF ys] .nil (aK (jU (val xs) (val ys)))
theorem gY {a b:Nat} (ha:nl a≤512) (hb:nl b≤512):eI a b=false:=by
 simp[eI]; omega
theorem rJ {a b m n:Nat} (ha:nl a≤m) (hb:nl b≤n):nl (a*b)≤m+n:=by
 rw[gB] at ha hb ⊢
 rw[Nat.pow_add]
 by_cases h:b=0
 ·subst h; exact Nat.mul_pos (bcR (by decide)) (bcR (by decide))
 ·calc a*b<4294967296 ^ m*b:=Nat.mul_lt_mul_of_pos_right ha (bcQ h)
   _≤4294967296 ^ m*4294967296 ^ n:=bcI _ (Nat.le_of_lt hb)
theorem asH {n:Nat} (h:nl n≤512):szV n=.tup [aF (aG n),.int .i64 0]:=by
 have:¬ nl n>512:=by omega
 simp[szV,szL,szE,this]
theorem aIU {C:Ctx} (L:oR C) (a b:List Nat) (ha:Lim a) (hb:Lim b) (la:a.length≤16777216) (lb:b.length≤16777216) (na:nl (val a)≤256) (nb:nl (val b)≤256) :
  vZ.wp C (aZ EQ.res (aK (aF (aG (val a*val b))))) (PF.args [aF a,aF b]) .nil:=by
 simp -implicitDefEqProofs only[go_sem,γ,reduceCtorEq,vZ,ZH,ZI,EQ]
 refine aB (L.mul a b ha hb la lb) rfl ?_
 have:=rJ na nb
 rw[gY (by omega) (by omega),opV,asH (by omega)]
 simp -implicitDefEqProofs only[go_sem,γ,reduceCtorEq,ZJ]
 refine bZ (.inr rfl) rfl ?_
 rfl
abbrev eS (neg:Bool) (a b:List Nat):List PV:=[.bool neg,aF a,aF b]
theorem aOR {C:Ctx} (L:oR C) (neg:Bool) (a b:List Nat) (ha:Lim a) (la:a.length≤16777216) :
  zS.wp C (aZ RX.res (aK (.bool (decide (val a=0))))) (PF.args [.agg (eS neg a b)]) .nil:=by
 simp -implicitDefEqProofs only[go_sem,δ,γ,θ,zS,ajP,ajQ,RX]
 refine aB (L.bits a ha la) rfl ?_
 simp -implicitDefEqProofs only[go_sem,γ]
 refine bZ (.inr rfl) rfl ?_
 have:=@gG (val a)
 by_cases c:val a=0
 ·rw[bS (by omega),decide_eq_true c]; rfl
 ·rw[bE (by omega),decide_eq_false c]; rfl
def dC (a b:Nat):Bool:=decide (0<bY b)&&decide (bY b≤4096)&&decide (bY a≤4096)
theorem aIW {C:Ctx} (L:oR C) (neg:Bool) (a b:List Nat) (ha:Lim a) (hb:Lim b) (la:a.length≤16777216) (lb:b.length≤16777216) :
  wA.wp C (aZ ER.res (aK (.bool (dC (val a) (val b))))) (PF.args [.agg (eS neg a b)]) .nil:=by
 simp -implicitDefEqProofs only[go_sem,γ,wA,ZK,ZL,ER]
 refine aB (L.bits b hb lb) rfl ?_
 by_cases c1:0<bY (val b)
 ·have c1':((bY (val b):Nat):Int)>0:=by omega
  by_cases c2:bY (val b)≤4096
  ·have c2':((bY (val b):Nat):Int)≤4096:=by omega
   simp -implicitDefEqProofs only[go_sem,δ,γ,θ,uO,c1',c2']
   refine aB (L.bits a ha la) rfl ?_
   simp -implicitDefEqProofs only[go_sem,γ]
   refine bZ (.inr rfl) rfl ?_
   show PV.bool (decide _)=_
   rw[dC,decide_eq_true c1,decide_eq_true c2,bbC,bbC]
   congr 1
   rw[decide_eq_decide]
   omega
  ·have c2':¬ ((bY (val b):Nat):Int)≤4096:=by omega
   simp -implicitDefEqProofs only[go_sem,γ,reduceCtorEq,uO,c1',c2']
   refine bZ (.inr rfl) rfl ?_
   show PV.bool _=_
   simp[dC,c1,c2]
 ·have c1':¬ ((bY (val b):Nat):Int)>0:=by omega
  simp -implicitDefEqProofs only[go_sem,γ,reduceCtorEq,uO,c1']
  refine bZ (.inr rfl) rfl ?_
  show PV.bool _=_
  simp[dC,c1]
theorem aTL {C:Ctx} (L:oR C) (v:Int) (h1:-9223372036854775808≤v) (h2:v≤9223372036854775807) :
  EG.wp C (aZ ajD.res (aK (aF (aG v.natAbs)))) (PF.args [.int .i64 v]) .nil:=by
 simp -implicitDefEqProofs only[go_sem,γ,reduceCtorEq,EG,axK,axL,ajD]
 by_cases c:v<0
 ·have e:IntKind.u64.wrap (0-IntKind.u64.wrap v)=((v.natAbs:Nat):Int):=by
   rw[eQ,eQ]; omega
  simp -implicitDefEqProofs only[go_sem,γ,reduceCtorEq,c,axM,e]
  refine aB (L.make v.natAbs (by omega)) rfl ?_
  simp -implicitDefEqProofs only[go_sem,γ]
  refine bZ (.inr rfl) rfl ?_
  rfl
 ·have e:IntKind.u64.wrap v=((v.natAbs:Nat):Int):=by
   rw[eQ]; omega
  simp -implicitDefEqProofs only[go_sem,γ,reduceCtorEq,c,axN,e]
  refine aB (L.make v.natAbs (by omega)) rfl ?_
  simp -implicitDefEqProofs only[go_sem,γ]
  refine bZ (.inr rfl) rfl ?_
  rfl
end Go.PM
namespace Go.PM
open Go Go.Na
abbrev uN (e:Int):PV:=.tup [.agg (eS false [] []),.int .i64 e]
abbrev aFD (neg:Bool) (a b:Nat):PV:=.tup [.agg (eS neg (aG a) (aG b)),.int .i64 0]
def AP (neg:Bool) (a b:Nat):PV :=
 if bY (a/baG a b)>4096∨bY (b/baG a b)>4096 then uN 2 else aFD (neg&&decide (a/baG a b≠0)) (a/baG a b) (b/baG a b)
theorem kK {res:List eA} {F:PF} {H:PH} {e:Int} (h:eA.evs F H res=some [.agg [.bool false,.nils,.nils],.int .i64 e]):aZ res (bW (uN e)) .ret F H :=
 aY (.inr rfl) .nil h PH.nil_le ⟨CoL.tup (.cons (CoL.agg (.cons (.refl _) (.cons (.nil 1) (.cons (.nil 1) .nil)))) (.cons (.refl _) .nil)),rfl⟩
theorem aiR {n:Nat}:bY n>1↔n>1:=by
 have:=jE n 1
 omega
theorem aKH {a n:Nat} (g:Nat) (h:nl a≤n):nl (a/g)≤n:=bcP (fZ (bdC _ _)) h
theorem EO {C:Ctx} (L:oR C) (neg:Bool) (a b:List Nat) (ha:Lim a) (hb:Lim b) (la:a.length≤16777216) (lb:b.length≤16777216) (o:Nat) (F:PF) (H:PH)
  (f0:F 0=some (.bool neg)) (f1:F 1=some (aF a)) (f2:F 2=some (aF b)) (f6:F 6=some (.ptr o 3 0 0)) (f7:F 7=some (.int .i64 0)) (hH:H o=some (.rows 3 [[.bool false,.nils,.nils]])) :
  aC.wp C (.seq (.seq (.region zO) (.cond (.tmp 40) (.seq (.region rY) .ret) .skip)) (.seq (.region zP) .ret)) (aZ mH.res (bW (if bY (val a)>4096∨bY (val b)>4096 then uN 2 else aFD (neg&&decide (val a≠0)) (val a) (val b)))) F H:=by
 have fin:∀ (r:List (List PV)) F H,F 6=some (.ptr o 3 0 0)→F 7=some (.int .i64 2)→H o=some (.rows 3 [[.bool false,.nils,.nils]])→aZ mH.res (bW (uN 2)) .ret F H:=by
  intro r F H h6 h7 h
  refine kK ?_
  simp -implicitDefEqProofs only[go_sem,δ,mH,h6,h7,h]
 simp -implicitDefEqProofs only[go_sem,zO,f1]
 refine aB (L.bits a ha la) rfl ?_
 by_cases c1:bY (val a)>4096
 ·have c1':((bY (val a):Nat):Int)>4096:=by omega
  rw[if_pos (.inl c1)]
  simp -implicitDefEqProofs only[go_sem,δ,γ,c1',rY,f6,hH]
  exact fin [] _ _ (by simp -implicitDefEqProofs only[go_sem,γ,f6]) rfl (by simp -implicitDefEqProofs only[go_sem])
 ·have c1':¬ ((bY (val a):Nat):Int)>4096:=by omega
  simp -implicitDefEqProofs only[go_sem,γ,c1',f2]
  refine aB (L.bits b hb lb) rfl ?_
  by_cases c2:bY (val b)>4096
  ·have c2':((bY (val b):Nat):Int)>4096:=by omega
   rw[if_pos (.inr c2)]
   simp -implicitDefEqProofs only[go_sem,δ,γ,reduceCtorEq,c2',rY,f6,hH]
   exact fin [] _ _ (by simp -implicitDefEqProofs only[go_sem,γ,f6]) rfl (by simp -implicitDefEqProofs only[go_sem])
  ·have c2':¬ ((bY (val b):Nat):Int)>4096:=by omega
   rw[if_neg (by omega)]
   have last:∀ F:PF,F 1=some (aF a)→F 2=some (aF b)→F 6=some (.ptr o 3 0 0)→∀ (q:Bool),q=(neg&&decide (val a≠0))→F 47=some (.bool q) →
     True:=fun _ _ _ _ _ _ _=>trivial
   simp -implicitDefEqProofs only[go_sem,γ,reduceCtorEq,c2',zP,f0,f1,f2,f6,hH]
   cases neg with
   | false =>
    simp -implicitDefEqProofs only[go_sem,γ,reduceCtorEq,f0,f1,f2,f6,hH]
    refine aB (L.trim a ha la) rfl ?_
    simp -implicitDefEqProofs only[go_sem,γ,f0,f1,f2,f6,hH]
    refine aB (L.trim b hb lb) rfl ?_
    simp -implicitDefEqProofs only[go_sem,δ,γ,θ,f0,f1,f2,f6,hH,baT]
    refine aY (.inr rfl) .nil (vs:=[.agg (eS false (aG (val a)) (aG (val b))),.int .i64 0]) ?_ PH.nil_le ⟨.refl _,rfl⟩
    simp -implicitDefEqProofs only[go_sem,δ,γ,mH,f6,hH]
   | true =>
    simp -implicitDefEqProofs only[go_sem,γ,f0,f1,f2,f6,hH]
    refine aB (L.bits a ha la) rfl ?_
    have e:decide (((bY (val a):Nat):Int)>0)=decide (val a≠0):=by
     have:=@gG (val a)
     rw[decide_eq_decide]; omega
    simp -implicitDefEqProofs only[go_sem,γ,f0,f1,f2,f6,hH,e]
    refine aB (L.trim a ha la) rfl ?_
    simp -implicitDefEqProofs only[go_sem,γ,f0,f1,f2,f6,hH]
    refine aB (L.trim b hb lb) rfl ?_
    simp -implicitDefEqProofs only[go_sem,δ,γ,θ,f0,f1,f2,f6,hH,bbC]
    refine aY (.inr rfl) .nil (vs:=[.agg (eS (decide (val a≠0)) (aG (val a)) (aG (val b))),.int .i64 0]) ?_ PH.nil_le ⟨.refl _,rfl⟩
    simp -implicitDefEqProofs only[go_sem,δ,γ,mH,f6,hH]
theorem aEX {C:Ctx} (L:oR C) (neg:Bool) (a b:List Nat) (ha:Lim a) (hb:Lim b) (la:a.length≤16777216) (lb:b.length≤16777216) (na:nl (val a)≤512) (nb:nl (val b)≤512) (h0:val b≠0) :
  tK.wp C (aZ mH.res (bW (AP neg (val a) (val b)))) (PF.args [.bool neg,aF a,aF b]) .nil:=by
 simp -implicitDefEqProofs only[go_sem,δ,tK,RM,RN]
 refine aP fun o ho=>?_
 simp -implicitDefEqProofs only[go_sem,γ]
 refine aB (L.gcd a b ha hb la lb) rfl ?_
 rw[gY na nb]
 simp -implicitDefEqProofs only[go_sem,γ,reduceCtorEq,RO]
 have hg0:baG (val a) (val b)≠0:=by
  intro h; exact h0 (Nat.gcd_eq_zero_iff.1 h).2
 have hgl:nl (baG (val a) (val b))≤512:=bcP (fZ (Nat.gcd_le_right _ (bcQ h0))) nb
 have hll:(aG (baG (val a) (val b))).length≤16777216:=by rw[bG]; omega
 refine aB (L.bits _ (bB _) hll) rfl ?_
 rw[aV]
 by_cases c:baG (val a) (val b)>1
 ·have c':((bY (baG (val a) (val b)):Nat):Int)>1:=by have:=aiR.2 c; omega
  simp -implicitDefEqProofs only[go_sem,γ,c',RP]
  refine aB (L.div a _ ha (bB _) la hll) rfl ?_
  rw[aV,jU,gY na hgl,if_neg (by decide),if_neg hg0]
  simp -implicitDefEqProofs only[go_sem,γ,RQ]
  refine aB (L.div b _ hb (bB _) lb hll) rfl ?_
  rw[aV,jU,gY nb hgl,if_neg (by decide),if_neg hg0]
  simp -implicitDefEqProofs only[go_sem,γ]
  have:=EO L neg (aG (val a/baG (val a) (val b))) (aG (val b/baG (val a) (val b))) (bB _) (bB _) (by rw[bG]; have:=aKH (baG (val a) (val b)) na; omega) (by rw[bG]; have:=aKH (baG (val a) (val b)) nb; omega) o
  rw[aV,aV] at this
  have:=fun F H=>this F H
  simp only[aC.wp,go_sem] at this
  exact this _ _ rfl rfl rfl rfl rfl (by simp -implicitDefEqProofs only[go_sem])
 ·have c':¬ ((bY (baG (val a) (val b)):Nat):Int)>1:=by have:=(@aiR (baG (val a) (val b))); omega
  have e1:baG (val a) (val b)=1:=by omega
  simp -implicitDefEqProofs only[go_sem,γ,c']
  rw[AP,e1,Nat.div_one,Nat.div_one]
  have:=EO L neg a b ha hb la lb o
  simp only[aC.wp,go_sem] at this
  exact this _ _ rfl rfl rfl rfl rfl (by simp -implicitDefEqProofs only[go_sem])
end Go.PM
namespace Go.PM
open Go Go.Na
structure zC (C:Ctx):Prop extends oR C where
 times:∀ a b,Lim a→Lim b→a.length≤16777216→b.length≤16777216→nl (val a)≤256→nl (val b)≤256→aJ C 121 [aF a,aF b] .nil (aK (aF (aG (val a*val b))))
 zero:∀ neg a b,Lim a→a.length≤16777216→aJ C 122 [.agg (eS neg a b)] .nil (aK (.bool (decide (val a=0))))
 valid:∀ neg a b,Lim a→Lim b→a.length≤16777216→b.length≤16777216→aJ C 118 [.agg (eS neg a b)] .nil (aK (.bool (dC (val a) (val b))))
 abs:∀ v:Int,-9223372036854775808≤v→v≤9223372036854775807→aJ C 119 [.int .i64 v] .nil (aK (aF (aG v.natAbs)))
 lowest:∀ neg a b,Lim a→Lim b→a.length≤16777216→b.length≤16777216→nl (val a)≤512→nl (val b)≤512→val b≠0→aJ C 120 [.bool neg,aF a,aF b] .nil (aK (AP neg (val a) (val b)))
def SO (n d:Int):PV:=if d=0 then uN 3 else AP (decide (n<0) != decide (d<0)) n.natAbs d.natAbs
theorem lP {n k:Nat} (h:n<4294967296 ^ k):nl n≤k:=(gB _ _).2 h
theorem anL (neg:Bool) (a b:Nat):∃ neg' x y e,AP neg a b=.tup [.agg (eS neg' x y),.int .i64 e]:=by
 unfold AP
 split
 ·exact⟨_,_,_,_,rfl⟩
 ·exact⟨_,_,_,_,rfl⟩
theorem aOP {C:Ctx} (L:zC C) (n d:Int) (h1:-9223372036854775808≤n) (h2:n≤9223372036854775807) (h3:-9223372036854775808≤d) (h4:d≤9223372036854775807) :
  zQ.wp C (aZ JQ.res (bW (SO n d))) (PF.args [.int .i64 n,.int .i64 d]) .nil:=by
 simp -implicitDefEqProofs only[go_sem,δ,zQ,ajJ,ajK]
 refine aP fun o ho=>?_
 unfold SO
 by_cases c:d=0
 ·subst c
  simp -implicitDefEqProofs only[go_sem,ρ,δ,γ,ajL]
  refine kK ?_
  simp -implicitDefEqProofs only[go_sem,δ,γ,JQ]
 ·rw[if_neg c]
  simp -implicitDefEqProofs only[go_sem,γ,reduceCtorEq,bE c,ajM]
  refine aB (L.abs n h1 h2) rfl ?_
  simp -implicitDefEqProofs only[go_sem,γ]
  refine aB (L.abs d h3 h4) rfl ?_
  simp -implicitDefEqProofs only[go_sem]
  have n1:nl n.natAbs≤2:=lP (by omega)
  have n2:nl d.natAbs≤2:=lP (by omega)
  have low:=L.lowest (decide (n<0) != decide (d<0)) (aG n.natAbs) (aG d.natAbs) (bB _) (bB _) (by rw[bG]; omega) (by rw[bG]; omega)
  rw[aV,aV] at low
  have low:=low (by omega) (by omega) (by omega)
  refine aB low rfl ?_
  obtain⟨neg',x,y,e,hl⟩:=anL (decide (n<0) != decide (d<0)) n.natAbs d.natAbs
  rw[hl]
  simp -implicitDefEqProofs only[go_sem,δ,γ]
  exact aY (.inr rfl) .nil (vs:=[.agg (eS neg' x y),.int .i64 e]) (by simp -implicitDefEqProofs only[go_sem,δ,γ,JQ]) PH.nil_le ⟨.refl _,rfl⟩
theorem kN {a b:Nat}:dC a b=true↔b≠0∧nl b≤128∧nl a≤128:=by
 have h1:=sV b 128
 have h2:=sV a 128
 have h3:=@gG b
 simp only[dC,bbB,decide_eq_true_eq]
 omega
def KK (neg:Bool) (a b:Nat):PV:=if dC a b then AP neg a b else uN 1
theorem aFB {C:Ctx} (L:zC C) (neg:Bool) (a b:List Nat) (ha:Lim a) (hb:Lim b) (la:a.length≤16777216) (lb:b.length≤16777216) :
  tL.wp C (aZ sX.res (bW (KK neg (val a) (val b)))) (PF.args [.agg (eS neg a b)]) .nil:=by
 simp -implicitDefEqProofs only[go_sem,δ,tL,RR,RS]
 refine aP fun o ho=>?_
 simp -implicitDefEqProofs only[go_sem,δ,γ]
 refine aB (L.valid neg a b ha hb la lb) rfl ?_
 unfold KK
 cases hv:dC (val a) (val b) with
 | false =>
  simp -implicitDefEqProofs only[go_sem,δ,γ,reduceCtorEq,RT,baZ]
  refine kK ?_
  simp -implicitDefEqProofs only[go_sem,δ,γ,sX]
 | true =>
  obtain⟨v1,v2,v3⟩:=kN.1 hv
  simp -implicitDefEqProofs only[go_sem,δ,γ,θ,RU,baM]
  refine aB (L.lowest neg a b ha hb la lb (by omega) (by omega) v1) rfl ?_
  obtain⟨neg',x,y,e,hl⟩:=anL neg (val a) (val b)
  rw[hl]
  simp -implicitDefEqProofs only[go_sem,δ,γ]
  exact aY (.inr rfl) .nil (vs:=[.agg (eS neg' x y),.int .i64 e]) (by simp -implicitDefEqProofs only[go_sem,δ,γ,sX]) PH.nil_le ⟨.refl _,rfl⟩
def tW (n1:Bool) (a1 b1:Nat) (n2:Bool) (a2 b2:Nat):Int :=
 match n1&&decide (a1≠0),n2&&decide (a2≠0) with
 | true,true=>- dB (a1*b2) (a2*b1)
 | true,false=>-1
 | false,true=>1
 | false,false=>dB (a1*b2) (a2*b1)
def uL (n1:Bool) (a1 b1:Nat) (n2:Bool) (a2 b2:Nat):PV :=
 if dC a1 b1&&dC a2 b2 then .tup [.int .i64 (tW n1 a1 b1 n2 a2 b2),.int .i64 0] else .tup [.int .i64 0,.int .i64 1]
def fr1:PV→List Nat
 | .agg [_,a,_]=>iP a
 | _=>[]
def frS:Spec:=fun name vs=>match name,vs with
 | 121,[x,y]=>some ([],fun _=>aK (aF (aG (val (iP x)*val (iP y)))))
 | 129,[x,y]=>some ([],fun _=>aK (.int .i64 (dB (val (iP x)) (val (iP y)))))
 | 122,[x]=>some ([],fun _=>aK (.bool (decide (val (fr1 x)=0))))
 | _,_=>none
theorem rE (a b:List Nat):frS 121 [aF a,aF b]=some ([],fun _=>aK (aF (aG (val a*val b)))):=by
 show some _=_; rw[eF,eF]
theorem aTT (a b:List Nat):frS 129 [aF a,aF b]=some ([],fun _=>aK (.int .i64 (dB (val a) (val b)))):=by
 show some _=_; rw[eF,eF]
theorem NP (neg:Bool) (a b:List Nat):frS 122 [.agg (eS neg a b)]=some ([],fun _=>aK (.bool (decide (val a=0)))):=by
 show some _=_; rw[fr1,eF]
theorem aOC (a b:Nat):IntKind.i64.wrap (0-dB a b)=- dB a b:=by
 unfold dB; split
 ·rfl
 ·split<;>rfl
theorem aTP {C:Ctx} (L:zC C) (n1 n2:Bool) (a1 b1 a2 b2:List Nat) (ha1:Lim a1) (hb1:Lim b1) (ha2:Lim a2) (hb2:Lim b2)
  (la1:a1.length≤16777216) (lb1:b1.length≤16777216) (la2:a2.length≤16777216) (lb2:b2.length≤16777216) :
  EJ.wp C (aZ ajG.res (bW (uL n1 (val a1) (val b1) n2 (val a2) (val b2)))) (PF.args [.agg (eS n1 a1 b1),.agg (eS n2 a2 b2)]) .nil:=by
 simp -implicitDefEqProofs only[go_sem,δ,γ,EJ,axX,axY]
 refine aB (L.valid n1 a1 b1 ha1 hb1 la1 lb1) rfl ?_
 unfold uL
 cases hv:dC (val a1) (val b1) with
 | false =>
  simp -implicitDefEqProofs only[go_sem,γ,reduceCtorEq,baZ,WY,baT]
  exact aY (.inr rfl) .nil (vs:=[.int .i64 0,.int .i64 1]) rfl PH.nil_le ⟨.refl _,rfl⟩
 | true =>
  obtain⟨v1,v2,v3⟩:=kN.1 hv
  simp -implicitDefEqProofs only[go_sem,δ,γ,baM]
  refine aB (L.valid n2 a2 b2 ha2 hb2 la2 lb2) rfl ?_
  cases hw:dC (val a2) (val b2) with
  | false =>
   simp -implicitDefEqProofs only[go_sem,γ,reduceCtorEq,baZ,WY,bbV]
   exact aY (.inr rfl) .nil (vs:=[.int .i64 0,.int .i64 1]) rfl PH.nil_le ⟨.refl _,rfl⟩
  | true =>
   obtain⟨w1,w2,w3⟩:=kN.1 hw
   simp -implicitDefEqProofs only[go_sem,γ,reduceCtorEq,baM,bcY]
   refine cC .nil frS PH.nil_le ?_
   simp -implicitDefEqProofs only[go_sem,δ,γ,θ,axZ]
   refine cN (rE a1 b2) (L.times a1 b2 ha1 hb2 la1 lb2 (by omega) (by omega)) rfl PH.nil_le ?_
   simp -implicitDefEqProofs only[go_sem,δ,γ,θ]
   refine cN (rE a2 b1) (L.times a2 b1 ha2 hb1 la2 lb1 (by omega) (by omega)) rfl PH.nil_le ?_
   simp -implicitDefEqProofs only[go_sem]
   have m1:=rJ v3 w2
   have m2:=rJ w3 v2
   have hc:=L.cmp (aG (val a1*val b2)) (aG (val a2*val b1)) (bB _) (bB _) (by rw[bG]; omega) (by rw[bG]; omega)
   have hs:=aTT (aG (val a1*val b2)) (aG (val a2*val b1))
   rw[aV,aV] at hc hs
   refine cN hs hc rfl PH.nil_le ?_
   simp -implicitDefEqProofs only[go_sem,γ]
   refine cC .nil frS PH.nil_le ?_
   have z1:(!decide (val a1=0))=decide (val a1≠0):=by by_cases h:val a1=0<;>simp[h]
   have z2:(!decide (val a2=0))=decide (val a2≠0):=by by_cases h:val a2=0<;>simp[h]
   have fin:∀ (F:PF) (A B:Bool),F 6=some (.int .i64 (dB (val a1*val b2) (val a2*val b1)))→F 7=some (.bool A)→F 8=some (.bool B)→A=(n1&&decide (val a1≠0))→B=(n2&&decide (val a2≠0)) →
     aC.wp C (.seq (.block 0 (.seq (.region sW) (.cond (.tmp 42) (.seq (.region WZ) .ret) (.seq (.region yF) (.cond (.tmp 49) (.seq (.region XA) .ret) (.seq (.region JO) (.cond (.tmp 51) (.seq (.region NM) .ret) .skip))))))) (.seq (.region NN) .ret)) (aZ ajG.res (bW (.tup [.int .i64 (tW n1 (val a1) (val b1) n2 (val a2) (val b2)),.int .i64 0]))) F .nil:=by
    intro F A B f6 f7 f8 hA hB
    rw[tW,← hA,← hB]
    cases A<;>cases B
    ·simp -implicitDefEqProofs only[go_sem,γ,reduceCtorEq,sW,yF,JO,NN,f6,f7,f8]
     exact aY (.inr rfl) .nil rfl PH.nil_le ⟨.refl _,rfl⟩
    ·simp -implicitDefEqProofs only[go_sem,γ,reduceCtorEq,sW,yF,JO,NM,f6,f7,f8]
     exact aY (.inr rfl) .nil rfl PH.nil_le ⟨.refl _,rfl⟩
    ·simp -implicitDefEqProofs only[go_sem,ο,γ,sW,yF,XA,f6,f7,f8]
     exact aY (.inr rfl) .nil rfl PH.nil_le ⟨.refl _,rfl⟩
    ·simp -implicitDefEqProofs only[go_sem,γ,sW,WZ,f6,f7,f8,aOC]
     exact aY (.inr rfl) .nil rfl PH.nil_le ⟨.refl _,rfl⟩
   simp only[aC.wp,go_sem] at fin
   simp -implicitDefEqProofs only[go_sem,δ,γ,θ,ayA]
   cases n1 with
   | false =>
    simp -implicitDefEqProofs only[go_sem,δ,γ,θ,reduceCtorEq]
    cases n2 with
    | false =>
     simp -implicitDefEqProofs only[go_sem,γ,reduceCtorEq]
     exact fin _ false false rfl rfl rfl rfl rfl
    | true =>
     simp -implicitDefEqProofs only[go_sem,δ,γ]
     refine cN (NP true a2 b2) (L.zero true a2 b2 ha2 la2) rfl PH.nil_le ?_
     simp -implicitDefEqProofs only[go_sem,γ,z2]
     exact fin _ false (decide (val a2≠0)) rfl rfl rfl rfl (by rw[bbC])
   | true =>
    simp -implicitDefEqProofs only[go_sem,δ,γ]
    refine cN (NP true a1 b1) (L.zero true a1 b1 ha1 la1) rfl PH.nil_le ?_
    simp -implicitDefEqProofs only[go_sem,δ,γ,θ,z1]
    cases n2 with
    | false =>
     simp -implicitDefEqProofs only[go_sem,γ,reduceCtorEq]
     exact fin _ (decide (val a1≠0)) false rfl rfl rfl (by rw[bbC]) rfl
    | true =>
     simp -implicitDefEqProofs only[go_sem,δ,γ]
     refine cN (NP true a2 b2) (L.zero true a2 b2 ha2 la2) rfl PH.nil_le ?_
     simp -implicitDefEqProofs only[go_sem,γ,z2]
     exact fin _ (decide (val a1≠0)) (decide (val a2≠0)) rfl rfl rfl (by rw[bbC]) (by rw[bbC])
end Go.PM
