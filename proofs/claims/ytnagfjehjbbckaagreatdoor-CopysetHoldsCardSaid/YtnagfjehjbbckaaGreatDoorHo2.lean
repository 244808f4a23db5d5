/-
  Texts of ours, joined: Pm21 Pm22 Pm23 Pm24 Pm25 Pm26 L11Code NaCode Pm27 Pm29 Pm30 Pm31 NaPlain NaW1 NaW2 NaW3 NaW4 NaW5 NaW6 NaW7 NaW8 NaW9 NaKn NaW10 NaW11 Pm32 NaW12 NaW13 NaW14 NaW15 FrCode FrW1 FrW2 FrW3 FrW4 FlCode Pm. No condition.
-/
import Derived.Test.YtnagfjehjbbckaaGreatDoorHo1
import Derived.ProofKit
import Derived.OpenShut
set_option linter.unusedSimpArgs false
set_option linter.unusedVariables false
open Nat renaming reduceEqDiff → γ, reduceAdd → δ, reduceSub → ε, reduceMul → ζ, reduceLT → η, reduceLeDiff → θ, reduceBEq → τ
open Int renaming reduceLT → ι, reduceLE → κ, reduceEq → μ, reduceToNat → ν, reduceAdd → ξ, reduceNeg → ο, reduceBEq → ρ, reduceBNe → σ
open List renaming reduceReplicate → υ
open List renaming length_map → aUN, range → aUO, getElem_mem → aUQ, replicate → aUR, length_append → aUS, length_singleton → aUX, getD_eq_getElem?_getD → aUY, getElem?_eq_getElem → aVB, mem_cons → aVC, all_eq_true → aVD, take_of_length_le → aVI, length_take → aVJ, not_mem_nil → aVK, mem_range → aVM, getElem?_map → aVN, take_length → aVP, mem_map → aVQ, append_assoc → aVS, map_append → aVT, getElem?_eq_some_iff → aVW, getElem_of_mem → aVX, drop_zero → aVY, map_cons → aVZ, getElem_map → aWD, append_nil → aWF, getElem?_eq_none → aWG, length_cons → aWH, mem_append → aWI, drop_eq_getElem_cons → aWM, take_succ_eq_append_getElem → aWN, range' → aWP, length_drop → aWR, map_nil → aWS, Sublist → aWT, length_set → aWU, mem_singleton → aWV, length_nil → aXD, ext_getElem → aXE, getElem?_append_right → aXF, take_append_drop → aXG, getElem?_append_left → aXI, nodup_append → aXJ, mem_of_getElem? → aXL, set_append_right → aXO, range_succ → aXV, take_zero → aXW, countP_cons → aXZ, getElem?_take → aYA, set_cons_zero → aYB, countP_append → aYH, drop_of_length_le → aYI, map_congr_left → aYJ, getElem_append_right → aYL, getElem_append_left → aYM
open Nat renaming gcd → aUP, zero_le → aUT, le_refl → aUU, mul_add → aVF, zero_add → aVH, lt_or_ge → aVL, mul_assoc → aVO, mul_comm → aVR, add_mul → aVU, mul_le_mul_right → aVV, mod_eq_of_lt → aWA, le_trans → aWE, mod_lt → aWJ, pow_succ → aWL, min_eq_left → aWW, add_assoc → aWX, add_zero → aWY, eq_zero_or_pos → aWZ, mul_le_mul_left → aXA, pos_of_ne_zero → aXB, pow_pos → aXK, div_le_self → aXM, div_lt_iff_lt_mul → aXP, sub_self → aXQ, succ_mul → aXR, mul_le_mul → aXX, div_add_mod → aYC, div_eq_of_lt → aYD, pow_le_pow_right → aYK
open Bool renaming false_and → aUV, not_true → aUW, true_and → aVA, and_eq_true → aVE, not_false → aVG, and_false → aWB, and_true → aWQ, and_assoc → aXN, false_eq_true → aXU
open Option renaming map_eq_some_iff → aUZ, map_some → aWC, some → aXC, getD_some → aXH, bind_eq_some_iff → aYE, bind_some → aYF
open Int renaming toNat_natCast → aWK
open Array renaming replicate → aWO, length_toList → aXS, getElem?_eq_some_iff → aXT, getElem?_eq_getElem → aXY, getD_eq_getD_getElem? → aYG
namespace Go.PM
open Go
attribute [go_sem] List.getElem?_cons_succ List.getElem?_cons_zero and_self and_true true_and or_true true_or or_false false_or aUW aVG aWC aYF if_true if_false aWH aXD List.drop_succ_cons aVY List.take_succ_cons aXW aVZ aWS aXC.injEq PV.bool.injEq PV.int.injEq aP PV.bin
@[go_sem] theorem aMM (k:IntKind) (a b:Int):lM .add k a b=some (.int k (k.wrap (a+b))):=(rfl)
@[go_sem] theorem aMW (k:IntKind) (a b:Int):lM .sub k a b=some (.int k (k.wrap (a-b))):=(rfl)
@[go_sem] theorem aMS (k:IntKind) (a b:Int):lM .mul k a b=some (.int k (k.wrap (a*b))):=(rfl)
@[go_sem] theorem aMU (k:IntKind) (a b:Int):lM .quo k a b=if b=0 then none else some (.int k (k.wrap (a.tdiv b))):=(rfl)
@[go_sem] theorem aMV (k:IntKind) (a b:Int):lM .rem k a b=if b=0 then none else some (.int k (a.tmod b)):=(rfl)
@[go_sem] theorem aMN (k:IntKind) (a b:Int):lM .eql k a b=some (.bool (a==b)):=(rfl)
@[go_sem] theorem aMT (k:IntKind) (a b:Int):lM .neq k a b=some (.bool (a != b)):=(rfl)
@[go_sem] theorem aMR (k:IntKind) (a b:Int):lM .lss k a b=some (.bool (decide (a<b))):=(rfl)
@[go_sem] theorem aMQ (k:IntKind) (a b:Int):lM .leq k a b=some (.bool (decide (a≤b))):=(rfl)
@[go_sem] theorem aMP (k:IntKind) (a b:Int):lM .gtr k a b=some (.bool (decide (a>b))):=(rfl)
@[go_sem] theorem aMO (k:IntKind) (a b:Int):lM .geq k a b=some (.bool (decide (a≥b))):=(rfl)
section
variable {C:Ctx} {K:bR} {F:PF} {H:PH}
@[go_sem] theorem aRF:aC.wp C .skip K F H=K .normal F H:=(rfl)
@[go_sem] theorem aOH (ops:List aS):aC.wp C (.region ops) K F H=wpOps C ops (K .normal) F H:=(rfl)
@[go_sem] theorem wx (a b:aC):aC.wp C (.seq a b) K F H=a.wp C (gD C (b.wp C) K) F H:=(rfl)
@[go_sem] theorem aPR (id:Nat) (c:aC):aC.wp C (.block id c) K F H=c.wp C (eQ id K) F H:=(rfl)
@[go_sem] theorem aRE (id:Nat):aC.wp C (.exit id) K F H=K (.exit id) F H:=(rfl)
@[go_sem] theorem aRQ:aC.wp C .ret K F H=K .ret F H:=(rfl)
def WB (C:Ctx) (v:Option PV) (a b:aC) (K:bR) (F:PF) (H:PH):Prop :=
 match v with
 | some (.bool t)=>if t then a.wp C K F H else b.wp C K F H
 | _=>False
@[go_sem] theorem aCZ (c:aQ) (a b:aC):aC.wp C (.cond c a b) K F H=WB C (c.ev F) a b K F H:=(rfl)
@[go_sem] theorem aNB (a b:aC):WB C (some (.bool true)) a b K F H=a.wp C K F H:=(rfl)
@[go_sem] theorem aLP (a b:aC):WB C (some (.bool false)) a b K F H=b.wp C K F H:=(rfl)
theorem avS {t:Bool} {a b:aC} (c:t=true→a.wp C K F H) (d:t=false→b.wp C K F H):WB C (some (.bool t)) a b K F H:=by
 cases t
 ·exact d rfl
 ·exact c rfl
@[go_sem] theorem aLX (w:bR→PF→PH→Prop):gD C w K .normal F H=w K F H:=(rfl)
@[go_sem] theorem aLB (w:bR→PF→PH→Prop):gD C w K .normal=w K:=(rfl)
@[go_sem] theorem aPE (w:bR→PF→PH→Prop) (id:Nat):gD C w K (.exit id)=K (.exit id):=(rfl)
@[go_sem] theorem aQT (w:bR→PF→PH→Prop):gD C w K .ret=K .ret:=(rfl)
@[go_sem] theorem aJJ (id:Nat):eQ id K .normal=K .normal:=(rfl)
@[go_sem] theorem aMZ (id:Nat):eQ id K .ret=K .ret:=(rfl)
@[go_sem] theorem DU (id c:Nat):eQ id K (.exit c) F H=if c=id then K .normal F H else K (.exit c) F H:=(rfl)
@[go_sem] theorem aOF (K:PF→PH→Prop):wpOps C [] K F H=K F H:=(rfl)
@[go_sem] theorem aOG (d:Option Nat) (op:POp) (rest:List aS) (K:PF→PH→Prop):wpOps C (⟨d,op,none⟩::rest) K F H=wpOp C op d (wpOps C rest K) F H:=(rfl)
def wY (C:Ctx) (v:Option PV) (c:Bool) (op:POp) (d:Option Nat) (rest:List aS) (K:PF→PH→Prop) (F:PF) (H:PH):Prop :=
 match v with
 | some (.bool b)=>if b=c then wpOp C op d (wpOps C rest K) F H else wpOps C rest K (F.put d (.tup [])) H
 | some (.tup [])=>wpOps C rest K (F.put d (.tup [])) H
 | _=>False
@[go_sem] theorem Xg (d:Option Nat) (op:POp) (t:Nat) (c:Bool) (rest:List aS) (K:PF→PH→Prop) :
  wpOps C (⟨d,op,some (t,c)⟩::rest) K F H=wY C (F t) c op d rest K F H:=(rfl)
@[go_sem] theorem aPA (op:POp) (d:Option Nat) (rest:List aS) (K:PF→PH→Prop):wY C (some (.bool true)) true op d rest K F H=wpOp C op d (wpOps C rest K) F H:=(rfl)
@[go_sem] theorem aOX (op:POp) (d:Option Nat) (rest:List aS) (K:PF→PH→Prop):wY C (some (.bool false)) false op d rest K F H=wpOp C op d (wpOps C rest K) F H:=(rfl)
@[go_sem] theorem aOZ (op:POp) (d:Option Nat) (rest:List aS) (K:PF→PH→Prop):wY C (some (.bool true)) false op d rest K F H=wpOps C rest K (F.put d (.tup [])) H:=(rfl)
@[go_sem] theorem aOY (op:POp) (d:Option Nat) (rest:List aS) (K:PF→PH→Prop):wY C (some (.bool false)) true op d rest K F H=wpOps C rest K (F.put d (.tup [])) H:=(rfl)
@[go_sem] theorem aLU (c:Bool) (op:POp) (d:Option Nat) (rest:List aS) (K:PF→PH→Prop):wY C (some (.tup [])) c op d rest K F H=wpOps C rest K (F.put d (.tup [])) H:=(rfl)
@[go_sem] theorem aQR (d:Nat) (v:PV):F.put (some d) v=F.set d v:=(rfl)
@[go_sem] theorem aQQ (v:PV):F.put none v=F:=(rfl)
@[go_sem] theorem kY (i j:Nat) (v:PV):(F.set i v) j=if j=i then some v else F j:=(rfl)
@[go_sem] theorem args_at (vs:List PV) (i:Nat):PF.args vs i=vs[i]?:=(rfl)
@[go_sem] theorem aRV (i:Nat):PF.nil i=none:=(rfl)
@[go_sem] theorem jl (t:Nat):(aQ.tmp t).ev F=F t:=(rfl)
@[go_sem] theorem aQG (v:PV):(aQ.const v).ev F=some v:=(rfl)
@[go_sem] theorem aN (i j:Nat) (x:cB):(H.set i x) j=if j=i then some x else H j:=(rfl)
@[go_sem] theorem WJ (i:Nat):PH.nil i=none:=(rfl)
@[go_sem] theorem WD:aQ.evs F []=some []:=(rfl)
@[go_sem] theorem AM (x:aQ) (xs:List aQ):aQ.evs F (x::xs)=(match x.ev F,aQ.evs F xs with | some v,some vs=>some (v::vs) | _,_=>none):=(rfl)
theorem jF {i j:Nat} {x:cB}:(H.set i x) j=none↔j≠i∧H j=none:=by
 rw[aN];split<;>simp_all
@[go_sem] theorem aLY (v:PV) (d:Option Nat) (K:PF→PH→Prop):bW (some v) d K F H=K (F.put d v) H:=by
 simp[bW]
theorem aO {c:Nat→PV} {x:cB} {d:Option Nat} {K:PF→PH→Prop} (h:∀ o,H o=none→K (F.put d (c o)) (H.set o x)):nA (some (c,x)) d K F H:=⟨c,x,rfl,h⟩
@[go_sem] theorem aRO (x:aQ) (d:Option Nat) (K:PF→PH→Prop):wpOp C (.mv x) d K F H=bW (aP (.mv x) F H) d K F H:=(rfl)
@[go_sem] theorem aPQ (x:aQ) (d:Option Nat) (K:PF→PH→Prop):wpOp C (.same x) d K F H=bW (aP (.same x) F H) d K F H:=(rfl)
@[go_sem] theorem aPP (c a b:aQ) (d:Option Nat) (K:PF→PH→Prop):wpOp C (.pick c a b) d K F H=bW (aP (.pick c a b) F H) d K F H:=(rfl)
@[go_sem] theorem aQZ (o:BinOp) (x y:aQ) (d:Option Nat) (K:PF→PH→Prop):wpOp C (.bin o x y) d K F H=bW (aP (.bin o x y) F H) d K F H:=(rfl)
@[go_sem] theorem aRB (n:Bool) (x y:aQ) (d:Option Nat) (K:PF→PH→Prop):wpOp C (.eqb n x y) d K F H=bW (aP (.eqb n x y) F H) d K F H:=(rfl)
@[go_sem] theorem aRC (n:Bool) (c:List Sc) (x y:aQ) (d:Option Nat) (K:PF→PH→Prop):wpOp C (.eqs n c x y) d K F H=bW (aP (.eqs n c x y) F H) d K F H:=(rfl)
@[go_sem] theorem aRP (o:UnOp) (x:aQ) (d:Option Nat) (K:PF→PH→Prop):wpOp C (.un o x) d K F H=bW (aP (.un o x) F H) d K F H:=(rfl)
@[go_sem] theorem aPI (k:IntKind) (x:aQ) (d:Option Nat) (K:PF→PH→Prop):wpOp C (.conv k x) d K F H=bW (aP (.conv k x) F H) d K F H:=(rfl)
@[go_sem] theorem aNY (z:List PV) (ps:List (Nat × Nat × aQ)) (d:Option Nat) (K:PF→PH→Prop):wpOp C (.build z ps) d K F H=bW (aP (.build z ps) F H) d K F H:=(rfl)
@[go_sem] theorem aPN (n:Option Nat) (p:aQ) (d:Option Nat) (K:PF→PH→Prop):wpOp C (.load n p) d K F H=bW (aP (.load n p) F H) d K F H:=(rfl)
@[go_sem] theorem aMJ (x:aQ) (d:Option Nat) (K:PF→PH→Prop):wpOp C (.aTP x) d K F H=bW (aP (.aTP x) F H) d K F H:=(rfl)
@[go_sem] theorem aMC (c:Nat) (x:aQ) (d:Option Nat) (K:PF→PH→Prop):wpOp C (.aUF c x) d K F H=bW (aP (.aUF c x) F H) d K F H:=(rfl)
@[go_sem] theorem aOA (c:Nat) (n:Option Nat) (x:aQ) (d:Option Nat) (K:PF→PH→Prop):wpOp C (.field c n x) d K F H=bW (aP (.field c n x) F H) d K F H:=(rfl)
@[go_sem] theorem aPK (s:Nat) (x i:aQ) (d:Option Nat) (K:PF→PH→Prop):wpOp C (.aTT s x i) d K F H=bW (aP (.aTT s x i) F H) d K F H:=(rfl)
@[go_sem] theorem aPJ (n s:Nat) (x i:aQ) (d:Option Nat) (K:PF→PH→Prop):wpOp C (.idxA n s x i) d K F H=bW (aP (.idxA n s x i) F H) d K F H:=(rfl)
@[go_sem] theorem aPL (n s:Nat) (g:Bool) (x i:aQ) (d:Option Nat) (K:PF→PH→Prop):wpOp C (.idxV n s g x i) d K F H=bW (aP (.idxV n s g x i) F H) d K F H:=(rfl)
@[go_sem] theorem aMD (x i:aQ) (d:Option Nat) (K:PF→PH→Prop):wpOp C (.aUD x i) d K F H=bW (aP (.aUD x i) F H) d K F H:=(rfl)
@[go_sem] theorem aOD (s:Nat) (x:aQ) (lo hi mx:Option aQ) (d:Option Nat) (K:PF→PH→Prop):wpOp C (.slice s x lo hi mx) d K F H=bW (aP (.slice s x lo hi mx) F H) d K F H:=(rfl)
@[go_sem] theorem aMK (n s:Nat) (x:aQ) (lo hi mx:Option aQ) (d:Option Nat) (K:PF→PH→Prop):wpOp C (.sliceA n s x lo hi mx) d K F H=bW (aP (.sliceA n s x lo hi mx) F H) d K F H:=(rfl)
@[go_sem] theorem aJM (x:aQ) (lo hi:Option aQ) (d:Option Nat) (K:PF→PH→Prop):wpOp C (.aTZ x lo hi) d K F H=bW (aP (.aTZ x lo hi) F H) d K F H:=(rfl)
@[go_sem] theorem aPB:PV.tT .aB=some (.int .i64 0):=(rfl)
@[go_sem] theorem aRN (s:Nat) (rows:List (List PV)):PV.tT (.sl s rows)=some (.int .i64 rows.length):=(rfl)
@[go_sem] theorem aQO (o s c n:Nat):PV.tT (.osl o s c n)=some (.int .i64 n):=(rfl)
@[go_sem] theorem aRD (x:aQ) (d:Option Nat) (K:PF→PH→Prop):wpOp C (.len x) d K F H=bW (aP (.len x) F H) d K F H:=(rfl)
@[go_sem] theorem aMF (x:aQ) (d:Option Nat) (K:PF→PH→Prop):wpOp C (.aUC x) d K F H=bW (aP (.aUC x) F H) d K F H:=(rfl)
@[go_sem] theorem aPM (x:aQ) (d:Option Nat) (K:PF→PH→Prop):wpOp C (.lenM x) d K F H=bW (aP (.lenM x) F H) d K F H:=(rfl)
@[go_sem] theorem aOB (n:Bool) (x:aQ) (d:Option Nat) (K:PF→PH→Prop):wpOp C (.isNil n x) d K F H=bW (aP (.isNil n x) F H) d K F H:=(rfl)
@[go_sem] theorem aLW:PV.HL .aB=some true:=(rfl)
@[go_sem] theorem aNQ (o s c len:Nat):PV.HL (.osl o s c len)=some false:=(rfl)
@[go_sem] theorem aLV (s:Nat) (r:List PV) (rs:List (List PV)):PV.HL (.sl s (r::rs))=some false:=(rfl)
@[go_sem] theorem aMB (x:aQ) (d:Option Nat) (K:PF→PH→Prop):wpOp C (.aUM x) d K F H=bW (aP (.aUM x) F H) d K F H:=(rfl)
@[go_sem] theorem aLL (x:aQ) (i:Nat) (d:Option Nat) (K:PF→PH→Prop):wpOp C (.extract x i) d K F H=bW (aP (.extract x i) F H) d K F H:=(rfl)
@[go_sem] theorem aMI (m:Bool) (x y:aQ) (d:Option Nat) (K:PF→PH→Prop):wpOp C (.aTX m x y) d K F H=bW (aP (.aTX m x y) F H) d K F H:=(rfl)
@[go_sem] theorem aPO (n:Nat) (cs:List aQ) (d:Option Nat) (K:PF→PH→Prop):wpOp C (.mkfn n cs) d K F H=bW (aP (.mkfn n cs) F H) d K F H:=(rfl)
@[go_sem] theorem aMG (sh:MSh) (z:PV) (x k:aQ) (ok:Bool) (d:Option Nat) (K:PF→PH→Prop):wpOp C (.lookup sh z x k ok) d K F H=bW (aP (.lookup sh z x k ok) F H) d K F H:=(rfl)
@[go_sem] theorem aIX (x:aQ) (d:Option Nat) (K:PF→PH→Prop):wpOp C (.aTQ x) d K F H=bW (aP (.aTQ x) F H) d K F H:=(rfl)
@[go_sem] theorem aPG (x:aQ) (d:Option Nat) (K:PF→PH→Prop):wpOp C (.box true x) d K F H=bW (aP (.box true x) F H) d K F H:=(rfl)
@[go_sem] theorem aLK (s l:Nat) (z:List PV) (ps:List (Nat × aQ)) (d:Option Nat) (K:PF→PH→Prop):wpOp C (.aTI true s l z ps) d K F H=bW (aP (.aTI true s l z ps) F H) d K F H:=(rfl)
@[go_sem] theorem aNX (cs:List PV) (d:Option Nat) (K:PF→PH→Prop):wpOp C (.alloc cs) d K F H=nA (dD (.alloc cs) F) d K F H:=(rfl)
@[go_sem] theorem aLM (s b:Nat) (z:List PV) (l c:aQ) (d:Option Nat) (K:PF→PH→Prop):wpOp C (.aTK s b z l c) d K F H=nA (dD (.aTK s b z l c) F) d K F H:=(rfl)
@[go_sem] theorem aOC (sh:MSh) (d:Option Nat) (K:PF→PH→Prop):wpOp C (.aUI sh) d K F H=nA (dD (.aUI sh) F) d K F H:=(rfl)
@[go_sem] theorem aRA (x:aQ) (d:Option Nat) (K:PF→PH→Prop):wpOp C (.box false x) d K F H=nA (dD (.box false x) F) d K F H:=(rfl)
@[go_sem] theorem aMA (s l:Nat) (z:List PV) (ps:List (Nat × aQ)) (d:Option Nat) (K:PF→PH→Prop):wpOp C (.aTI false s l z ps) d K F H=nA (dD (.aTI false s l z ps) F) d K F H:=(rfl)
@[go_sem] theorem aOE (n:Nat) (p x:aQ) (d:Option Nat) (K:PF→PH→Prop):wpOp C (.store n p x) d K F H=cE (.store n p x) F H (fun r H'=>K (F.put d r) H'):=(rfl)
@[go_sem] theorem aLZ (s b:Nat) (x y:aQ) (d:Option Nat) (K:PF→PH→Prop):wpOp C (.append s b x y) d K F H=cE (.append s b x y) F H (fun r H'=>K (F.put d r) H'):=(rfl)
@[go_sem] theorem aMH (sh:MSh) (x k v:aQ) (d:Option Nat) (K:PF→PH→Prop):wpOp C (.aTU sh x k v) d K F H=cE (.aTU sh x k v) F H (fun r H'=>K (F.put d r) H'):=(rfl)
@[go_sem] theorem aME (sh:MSh) (x k v:aQ) (d:Option Nat) (K:PF→PH→Prop):wpOp C (.insert sh x k v) d K F H=cE (.insert sh x k v) F H (fun r H'=>K (F.put d r) H'):=(rfl)
@[go_sem] theorem aPH (n:Nat) (c:List aQ) (d:Option Nat) (K:PF→PH→Prop):wpOp C (.call n c) d K F H=iU C n c [] d K F H:=(rfl)
@[go_sem] theorem aNZ (x:aQ) (c:List aQ) (d:Option Nat) (K:PF→PH→Prop):wpOp C (.aUE x c) d K F H=vY C (x.ev F) c d K F H:=(rfl)
@[go_sem] theorem aNW (n:Nat) (cs:List PV) (c:List aQ) (d:Option Nat) (K:PF→PH→Prop):vY C (some (.fn n cs)) c d K F H=iU C n c cs d K F H:=(rfl)
theorem PF.nil_le:PF.nil.le F:=fun _ _ h=>(by cases h)
abbrev d_:=@PF.nil_le
theorem PF.aF {i:Nat} {v:PV} {G:PF} (d:F.le G) (l:G i=some v):(F.set i v).le G:=by
 intro j u c;rw[kY] at c;split at c
 ·rename_i e; subst e; cases c; exact l
 ·exact d _ _ c
abbrev c_:=@PF.aF
theorem PF.le_refl:F.le F:=fun _ _ h=>h
theorem PH.nil_le:PH.nil.le H:=fun _ _ h=>(by cases h)
abbrev a_:=@PH.nil_le
theorem PH.aF {i:Nat} {x:cB} {G:PH} (d:H.le G) (l:G i=some x):(H.set i x).le G:=by
 intro j u c;rw[aN] at c;split at c
 ·rename_i e; subst e; cases c; exact l
 ·exact d _ _ c
abbrev e_:=@PH.aF
theorem PH.le_refl:H.le H:=fun _ _ h=>h
abbrev b_:=@PH.le_refl
theorem wp_loop {c:aC} {α:Type} (d:α→PF) (Hs:α→PH) (e:α→Prop) (m:α→Nat) (i:α) (l:e i) (p:(d i).le F) (u:(Hs i).le H)
  (w:∀ a,e a→c.wp C (eY d Hs e m (m a) K) (d a) (Hs a)):aC.wp C (.loop c) K F H :=
 ⟨α,d,Hs,e,m,i,F,H,.refl F H,l,p,u,w⟩
theorem aG {α:Type} {c:α→PF} {Hs:α→PH} {d:α→Prop} {m:α→Nat} {n:Nat} (a:α) (e:d a) (p:m a<n) (i:(c a).le F) (l:(Hs a).le H):eY c Hs d m n K .normal F H :=
 ⟨a,F,H,.refl F H,e,p,i,l⟩
@[go_sem] theorem aNS {α:Type} {c:α→PF} {Hs:α→PH} {d:α→Prop} {m:α→Nat} {n:Nat} (id:Nat):eY c Hs d m n K (.exit id)=K (.exit id):=(rfl)
@[go_sem] theorem aPC {α:Type} {c:α→PF} {Hs:α→PH} {d:α→Prop} {m:α→Nat} {n:Nat}:eY c Hs d m n K .ret=K .ret:=(rfl)
def aI (v:PV) (r:PV) (H:PH):Prop:=r=v∧H=PH.nil
theorem PH.BC:H.over .nil .nil=H:=PH.ext fun o=>rfl
theorem Xf {name:Nat} {vs cs:List PV} {v:PV} {args:List aQ} {d:Option Nat} {K:PF→PH→Prop} (h:aH C name (vs++cs) .nil (aI v)) (c:aQ.evs F args=some vs)
  (e:K (F.put d v) H):iU C name args cs d K F H:=by
 refine .inl ⟨vs++cs,.nil,_,by rw[c]; rfl,a_,h,?_⟩;rintro r H' ⟨rfl,rfl⟩ _;rw[PH.BC];exact e
theorem aA {name:Nat} {vs:List PV} {v:PV} {args:List aQ} {d:Option Nat} {K:PF→PH→Prop} (h:aH C name vs .nil (aI v)) (c:aQ.evs F args=some vs)
  (e:K (F.put d v) H):iU C name args [] d K F H:=Xf (cs:=[]) (by rw[aWF]; exact h) c e
theorem aR {res:List eA} {vs:List PV} {v:PV} {e:mC} (l:e=.normal∨e=.ret) (h:eA.evs F H res=some vs) (p:bQ vs=v):aU res (aI v) e F H:=by
 have c:∃ vs,eA.evs F H res=some vs∧∃ d i H2,jM (PF.nil.set 0 (bQ vs)) H d i∧H2.le i∧∃ u,d 0=some u∧aI v u H2 :=
  ⟨vs,h,_,H,.nil,.refl _ _,a_,v,by rw[kY,if_pos rfl,p],rfl,rfl⟩
 rcases l with rfl | rfl<;>exact c
@[go_sem] theorem oZ:eA.evs F H []=some []:=(rfl)
@[go_sem] theorem kV (x:eA) (xs:List eA):eA.evs F H (x::xs)=(match x.ev F H,eA.evs F H xs with | some v,some vs=>some (v::vs) | _,_=>none):=(rfl)
@[go_sem] theorem nS (t:Nat):eA.ev F H (.tmp t)=F t:=(rfl)
@[go_sem] theorem aQS (t:Nat):eA.ev F H (.cell t none)=(match F t with | some p=>(match loadCells H p 1 with | some [v]=>some v | _=>none) | none=>none):=(rfl)
@[go_sem] theorem aPD (t k:Nat):eA.ev F H (.cell t (some k))=(match F t with | some p=>(loadCells H p k).map .agg | none=>none):=(rfl)
end
section
variable {C:Ctx} {K:bR} {F:PF} {H Hs:PH} {S:Spec}
theorem bS {ops:List (aS × Bool)} (Hs:PH) (S:Spec) (c:Hs.le H) (h:wpD C Hs S ops (K .normal) F H):aC.wp C (.draw ops) K F H:=⟨Hs,S,c,h⟩
def dT:Spec:=fun _ _=>none
def dOp (C:Ctx) (Hs:PH) (S:Spec) (st:Bool) (op:POp) (d:Option Nat) (K:PF→PH→Prop) (F:PF) (H:PH):Prop:=(op.kind F).run C Hs S st (fun v H'=>K (F.put d v) H') H
@[go_sem] theorem aQX (K:PF→PH→Prop):wpD C Hs S [] K F H=K F H:=(rfl)
@[go_sem] theorem aQY (d:Option Nat) (op:POp) (st:Bool) (rest:List (aS × Bool)) (K:PF→PH→Prop):wpD C Hs S ((⟨d,op,none⟩,st)::rest) K F H=dOp C Hs S st op d (wpD C Hs S rest K) F H:=(rfl)
def AR (C:Ctx) (Hs:PH) (S:Spec) (v:Option PV) (c st:Bool) (op:POp) (d:Option Nat) (rest:List (aS × Bool)) (K:PF→PH→Prop) (F:PF) (H:PH):Prop :=
 match v with
 | some (.bool b)=>if b=c then dOp C Hs S st op d (wpD C Hs S rest K) F H else wpD C Hs S rest K (F.put d (.tup [])) H
 | some (.tup [])=>wpD C Hs S rest K (F.put d (.tup [])) H
 | _=>False
@[go_sem] theorem aPF (d:Option Nat) (op:POp) (t:Nat) (c st:Bool) (rest:List (aS × Bool)) (K:PF→PH→Prop) :
  wpD C Hs S ((⟨d,op,some (t,c)⟩,st)::rest) K F H=AR C Hs S (F t) c st op d rest K F H:=by
 have i:wpD C Hs S ((⟨d,op,some (t,c)⟩,st)::rest) K F H=((⟨d,op,some (t,c)⟩:aS).kind F).run C Hs S st (fun v H'=>wpD C Hs S rest K (F.put d v) H') H:=(rfl);rw[i];unfold aS.kind AR;simp only;cases F t with
 | none=>rfl
 | some v =>
  cases v
  case bool b =>
   simp only;by_cases e:b=c
   ·rw[if_pos e,if_pos e]; rfl
   ·rw[if_neg e,if_neg e]; simp[Kind.run]
  case tup vs=>cases vs<;>simp[Kind.run]
  all_goals rfl
@[go_sem] theorem aOW (op:POp) (st:Bool) (d:Option Nat) (rest:List (aS × Bool)) (K:PF→PH→Prop):AR C Hs S (some (.bool true)) true st op d rest K F H=dOp C Hs S st op d (wpD C Hs S rest K) F H:=(rfl)
@[go_sem] theorem aOT (op:POp) (st:Bool) (d:Option Nat) (rest:List (aS × Bool)) (K:PF→PH→Prop):AR C Hs S (some (.bool false)) false st op d rest K F H=dOp C Hs S st op d (wpD C Hs S rest K) F H:=(rfl)
@[go_sem] theorem aOV (op:POp) (st:Bool) (d:Option Nat) (rest:List (aS × Bool)) (K:PF→PH→Prop):AR C Hs S (some (.bool true)) false st op d rest K F H=wpD C Hs S rest K (F.put d (.tup [])) H:=(rfl)
@[go_sem] theorem aOU (op:POp) (st:Bool) (d:Option Nat) (rest:List (aS × Bool)) (K:PF→PH→Prop):AR C Hs S (some (.bool false)) true st op d rest K F H=wpD C Hs S rest K (F.put d (.tup [])) H:=(rfl)
@[go_sem] theorem aLT (c:Bool) (op:POp) (st:Bool) (d:Option Nat) (rest:List (aS × Bool)) (K:PF→PH→Prop):AR C Hs S (some (.tup [])) c st op d rest K F H=wpD C Hs S rest K (F.put d (.tup [])) H:=(rfl)
@[go_sem] theorem aRR (x:aQ) (st:Bool) (d:Option Nat) (K:PF→PH→Prop):dOp C Hs S st (.mv x) d K F H=bW (aP (.mv x) F (if st then Hs else H)) d K F H:=(rfl)
@[go_sem] theorem aQF (x:aQ) (st:Bool) (d:Option Nat) (K:PF→PH→Prop):dOp C Hs S st (.same x) d K F H=bW (aP (.same x) F (if st then Hs else H)) d K F H:=(rfl)
@[go_sem] theorem aQE (c a b:aQ) (st:Bool) (d:Option Nat) (K:PF→PH→Prop):dOp C Hs S st (.pick c a b) d K F H=bW (aP (.pick c a b) F (if st then Hs else H)) d K F H:=(rfl)
@[go_sem] theorem aRG (o:BinOp) (x y:aQ) (st:Bool) (d:Option Nat) (K:PF→PH→Prop):dOp C Hs S st (.bin o x y) d K F H=bW (aP (.bin o x y) F (if st then Hs else H)) d K F H:=(rfl)
@[go_sem] theorem aRI (n:Bool) (x y:aQ) (st:Bool) (d:Option Nat) (K:PF→PH→Prop):dOp C Hs S st (.eqb n x y) d K F H=bW (aP (.eqb n x y) F (if st then Hs else H)) d K F H:=(rfl)
@[go_sem] theorem aRJ (n:Bool) (c:List Sc) (x y:aQ) (st:Bool) (d:Option Nat) (K:PF→PH→Prop):dOp C Hs S st (.eqs n c x y) d K F H=bW (aP (.eqs n c x y) F (if st then Hs else H)) d K F H:=(rfl)
@[go_sem] theorem aRS (o:UnOp) (x:aQ) (st:Bool) (d:Option Nat) (K:PF→PH→Prop):dOp C Hs S st (.un o x) d K F H=bW (aP (.un o x) F (if st then Hs else H)) d K F H:=(rfl)
@[go_sem] theorem aPX (k:IntKind) (x:aQ) (st:Bool) (d:Option Nat) (K:PF→PH→Prop):dOp C Hs S st (.conv k x) d K F H=bW (aP (.conv k x) F (if st then Hs else H)) d K F H:=(rfl)
@[go_sem] theorem aOK (z:List PV) (ps:List (Nat × Nat × aQ)) (st:Bool) (d:Option Nat) (K:PF→PH→Prop):dOp C Hs S st (.build z ps) d K F H=bW (aP (.build z ps) F (if st then Hs else H)) d K F H:=(rfl)
@[go_sem] theorem aQC (n:Option Nat) (p:aQ) (st:Bool) (d:Option Nat) (K:PF→PH→Prop):dOp C Hs S st (.load n p) d K F H=bW (aP (.load n p) F (if st then Hs else H)) d K F H:=(rfl)
@[go_sem] theorem aNL (x:aQ) (st:Bool) (d:Option Nat) (K:PF→PH→Prop):dOp C Hs S st (.aTP x) d K F H=bW (aP (.aTP x) F (if st then Hs else H)) d K F H:=(rfl)
@[go_sem] theorem aNF (c:Nat) (x:aQ) (st:Bool) (d:Option Nat) (K:PF→PH→Prop):dOp C Hs S st (.aUF c x) d K F H=bW (aP (.aUF c x) F (if st then Hs else H)) d K F H:=(rfl)
@[go_sem] theorem aOL (c:Nat) (n:Option Nat) (x:aQ) (st:Bool) (d:Option Nat) (K:PF→PH→Prop):dOp C Hs S st (.field c n x) d K F H=bW (aP (.field c n x) F (if st then Hs else H)) d K F H:=(rfl)
@[go_sem] theorem aPZ (s:Nat) (x i:aQ) (st:Bool) (d:Option Nat) (K:PF→PH→Prop):dOp C Hs S st (.aTT s x i) d K F H=bW (aP (.aTT s x i) F (if st then Hs else H)) d K F H:=(rfl)
@[go_sem] theorem aPY (n s:Nat) (x i:aQ) (st:Bool) (d:Option Nat) (K:PF→PH→Prop):dOp C Hs S st (.idxA n s x i) d K F H=bW (aP (.idxA n s x i) F (if st then Hs else H)) d K F H:=(rfl)
@[go_sem] theorem aQA (n s:Nat) (g:Bool) (x i:aQ) (st:Bool) (d:Option Nat) (K:PF→PH→Prop):dOp C Hs S st (.idxV n s g x i) d K F H=bW (aP (.idxV n s g x i) F (if st then Hs else H)) d K F H:=(rfl)
@[go_sem] theorem aNG (x i:aQ) (st:Bool) (d:Option Nat) (K:PF→PH→Prop):dOp C Hs S st (.aUD x i) d K F H=bW (aP (.aUD x i) F (if st then Hs else H)) d K F H:=(rfl)
@[go_sem] theorem aOO (s:Nat) (x:aQ) (lo hi mx:Option aQ) (st:Bool) (d:Option Nat) (K:PF→PH→Prop):dOp C Hs S st (.slice s x lo hi mx) d K F H=bW (aP (.slice s x lo hi mx) F (if st then Hs else H)) d K F H:=(rfl)
@[go_sem] theorem aKA (x:aQ) (lo hi:Option aQ) (st:Bool) (d:Option Nat) (K:PF→PH→Prop):dOp C Hs S st (.aTZ x lo hi) d K F H=bW (aP (.aTZ x lo hi) F (if st then Hs else H)) d K F H:=(rfl)
@[go_sem] theorem aRK (x:aQ) (st:Bool) (d:Option Nat) (K:PF→PH→Prop):dOp C Hs S st (.len x) d K F H=bW (aP (.len x) F (if st then Hs else H)) d K F H:=(rfl)
@[go_sem] theorem aNH (x:aQ) (st:Bool) (d:Option Nat) (K:PF→PH→Prop):dOp C Hs S st (.aUC x) d K F H=bW (aP (.aUC x) F (if st then Hs else H)) d K F H:=(rfl)
@[go_sem] theorem aQB (x:aQ) (st:Bool) (d:Option Nat) (K:PF→PH→Prop):dOp C Hs S st (.lenM x) d K F H=bW (aP (.lenM x) F (if st then Hs else H)) d K F H:=(rfl)
@[go_sem] theorem aOM (n:Bool) (x:aQ) (st:Bool) (d:Option Nat) (K:PF→PH→Prop):dOp C Hs S st (.isNil n x) d K F H=bW (aP (.isNil n x) F (if st then Hs else H)) d K F H:=(rfl)
@[go_sem] theorem aNE (x:aQ) (st:Bool) (d:Option Nat) (K:PF→PH→Prop):dOp C Hs S st (.aUM x) d K F H=bW (aP (.aUM x) F (if st then Hs else H)) d K F H:=(rfl)
@[go_sem] theorem aLR (x:aQ) (i:Nat) (st:Bool) (d:Option Nat) (K:PF→PH→Prop):dOp C Hs S st (.extract x i) d K F H=bW (aP (.extract x i) F (if st then Hs else H)) d K F H:=(rfl)
@[go_sem] theorem aNK (m:Bool) (x y:aQ) (st:Bool) (d:Option Nat) (K:PF→PH→Prop):dOp C Hs S st (.aTX m x y) d K F H=bW (aP (.aTX m x y) F (if st then Hs else H)) d K F H:=(rfl)
@[go_sem] theorem aQD (n:Nat) (cs:List aQ) (st:Bool) (d:Option Nat) (K:PF→PH→Prop):dOp C Hs S st (.mkfn n cs) d K F H=bW (aP (.mkfn n cs) F (if st then Hs else H)) d K F H:=(rfl)
@[go_sem] theorem aNI (sh:MSh) (z:PV) (x k:aQ) (ok:Bool) (st:Bool) (d:Option Nat) (K:PF→PH→Prop):dOp C Hs S st (.lookup sh z x k ok) d K F H=bW (aP (.lookup sh z x k ok) F (if st then Hs else H)) d K F H:=(rfl)
@[go_sem] theorem aJL (x:aQ) (st:Bool) (d:Option Nat) (K:PF→PH→Prop):dOp C Hs S st (.aTQ x) d K F H=bW (aP (.aTQ x) F (if st then Hs else H)) d K F H:=(rfl)
@[go_sem] theorem aPW (x:aQ) (st:Bool) (d:Option Nat) (K:PF→PH→Prop):dOp C Hs S st (.box true x) d K F H=bW (aP (.box true x) F (if st then Hs else H)) d K F H:=(rfl)
@[go_sem] theorem aLQ (s l:Nat) (z:List PV) (ps:List (Nat × aQ)) (st:Bool) (d:Option Nat) (K:PF→PH→Prop):dOp C Hs S st (.aTI true s l z ps) d K F H=bW (aP (.aTI true s l z ps) F (if st then Hs else H)) d K F H:=(rfl)
@[go_sem] theorem aOJ (cs:List PV) (st:Bool) (d:Option Nat) (K:PF→PH→Prop):dOp C Hs S st (.alloc cs) d K F H=nA (dD (.alloc cs) F) d K F H:=(rfl)
@[go_sem] theorem aLS (s b:Nat) (z:List PV) (l c:aQ) (st:Bool) (d:Option Nat) (K:PF→PH→Prop):dOp C Hs S st (.aTK s b z l c) d K F H=nA (dD (.aTK s b z l c) F) d K F H:=(rfl)
@[go_sem] theorem aON (sh:MSh) (st:Bool) (d:Option Nat) (K:PF→PH→Prop):dOp C Hs S st (.aUI sh) d K F H=nA (dD (.aUI sh) F) d K F H:=(rfl)
@[go_sem] theorem aRH (x:aQ) (st:Bool) (d:Option Nat) (K:PF→PH→Prop):dOp C Hs S st (.box false x) d K F H=nA (dD (.box false x) F) d K F H:=(rfl)
@[go_sem] theorem aND (s l:Nat) (z:List PV) (ps:List (Nat × aQ)) (st:Bool) (d:Option Nat) (K:PF→PH→Prop):dOp C Hs S st (.aTI false s l z ps) d K F H=nA (dD (.aTI false s l z ps) F) d K F H:=(rfl)
@[go_sem] theorem aOP (n:Nat) (p x:aQ) (st:Bool) (d:Option Nat) (K:PF→PH→Prop):dOp C Hs S st (.store n p x) d K F H=cE (.store n p x) F H (fun r H'=>Hs.le H'∧K (F.put d r) H'):=(rfl)
@[go_sem] theorem aNC (s b:Nat) (x y:aQ) (st:Bool) (d:Option Nat) (K:PF→PH→Prop):dOp C Hs S st (.append s b x y) d K F H=cE (.append s b x y) F H (fun r H'=>Hs.le H'∧K (F.put d r) H'):=(rfl)
@[go_sem] theorem aNJ (sh:MSh) (x k v:aQ) (st:Bool) (d:Option Nat) (K:PF→PH→Prop):dOp C Hs S st (.aTU sh x k v) d K F H=cE (.aTU sh x k v) F H (fun r H'=>Hs.le H'∧K (F.put d r) H'):=(rfl)
theorem MQ:H.only []=PH.nil:=PH.ext fun o=>by simp[PH.only,PH.nil]
theorem bY {name:Nat} {vs:List PV} {v:PV} {args:List aQ} {st:Bool} {d:Option Nat} {K:PF→PH→Prop} (e:S name vs=some ([],fun _=>aI v)) (h:aH C name vs .nil (aI v)) (i:aQ.evs F args=some vs)
  (c:Hs.le H) (l:K (F.put d v) H):dOp C Hs S st (.call name args) d K F H:=by
 refine⟨vs,[],fun _=>aI v,i,e,fun o p=>by simp at p,by rw[MQ]; exact h,fun G=>⟨v,.nil,⟨rfl,rfl⟩,fun o x u=>by simp[PH.nil] at u⟩,?_⟩;rintro r H' ⟨rfl,rfl⟩ -;rw[MQ,PH.BC];exact⟨c,l⟩
end
theorem wrap_i64 {n:Int} (c:-9223372036854775808≤n) (d:n≤9223372036854775807):IntKind.i64.wrap n=n:=by
 have e:IntKind.i64.wrap n=if decide (n%18446744073709551616≥9223372036854775808)=true then n%18446744073709551616-18446744073709551616 else n%18446744073709551616:=by simp[IntKind.wrap,IntKind.bits,IntKind.signed]
 rw[e];split
 ·rename_i h; simp only[decide_eq_true_eq] at h; omega
 ·rename_i h; simp only[decide_eq_true_eq] at h; omega
theorem fk {k:Nat} (h:k≤9223372036854775807):IntKind.i64.wrap (k:Int)=k:=wrap_i64 Om Om
theorem dA {k:Nat} (h:k<9223372036854775807):IntKind.i64.wrap ((k:Int)+1)=((k+1:Nat):Int):=by
 rw[wrap_i64 Om Om]; omega
theorem wZz (k:Nat) (h:k<9223372036854775807:=by omega):IntKind.i64.wrap ((k:Int)+1)=((k+1:Nat):Int):=dA h
theorem wrap_u64 {n:Int} (c:0≤n) (d:n<18446744073709551616):IntKind.u64.wrap n=n:=by
 have e:IntKind.u64.wrap n=n%18446744073709551616:=by simp[IntKind.wrap,IntKind.bits,IntKind.signed]
 rw[e]; omega
abbrev ints (xs:List Int):PV:=.sl 1 (xs.map fun n=>[.int .i64 n])
open Go Go.RowKit
inductive CT where
 | int (k:IntKind)
 | bool
 | str
 | sl (es:List CT)
 deriving Inhabited
def rK (P:Program) (rec:TypeId→Option (List CT)):Nat→List Field→Option (List CT)
 | _,[]=>some []
 | k,f::c=>match rec f.type with
  | some cts=>if f.offset=k∧P.cellsOf f.type=cts.length then (rK P rec (k+cts.length) c).map (cts++·) else none
  | none=>none
def gU (P:Program):Nat→TypeId→Option (List CT)
 | 0,_=>none
 | n+1,t=>match P.underlying t with
  | some .bool=>some [.bool]
  | some (.int k)=>some [.int k]
  | some .string=>some [.str]
  | some (.slice e)=>match gU P n e with
   | some cts=>if P.cellsOf e=cts.length∧0<cts.length then some [.sl cts] else none
   | none=>none
  | some (.struct c)=>match rK P (gU P n) 0 c.toList with
   | some cts=>if P.cellsOf t=cts.length then some cts else none
   | none=>none
  | some (.array k e)=>match gU P n e with
   | some cts=>if P.cellsOf e=cts.length∧P.cellsOf t=k*cts.length then some (aUR k cts).flatten else none
   | none=>none
  | _=>none
inductive PV.Ty:CT→PV→Prop
 | int {k:IntKind} {n:Int} (h:(Lit.int k n).wf=true):PV.Ty (.int k) (.int k n)
 | bool (b:Bool):PV.Ty .bool (.bool b)
 | str {s:List UInt8} (h:s.length≤maxLen):PV.Ty .str (.str s)
 | sl {es:List CT} {rows:List (List PV)} (hr:∀ r∈rows,r.length=es.length) (hl:rows.length≤maxLen) (h:∀ (i j:Nat) pv ct,at2 rows i j=some pv→es[j]?=some ct→PV.Ty ct pv):PV.Ty (.sl es) (.sl es.length rows)
def Env.of (W:World) (num:Nat→FuncId):Env:=⟨fun b=>match W.heap[b]? with | some (.cells cs _ _)=>some cs | _=>none,fun _=>none,num⟩
theorem bO.start (W:World) (num:Nat→FuncId):bO (Env.of W num) PH.nil W:=by
 refine⟨fun b cs d=>⟨fun x e=>(by cases e),?_⟩,fun o x e=>(by cases e),fun o n h=>(by cases h)⟩;simp only[Env.of] at d;split at d
 ·rename_i c ty i h;cases d;exact⟨ty,i,h⟩
 ·cases d
structure Reads (E:Env) (cts:List CT) (pvs:List PV) (cs:List Value):Prop where
 lp:pvs.length=cts.length
 lc:cs.length=cts.length
 rep:∀ (j:Nat) pv c,pvs[j]?=some pv→cs[j]?=some c→aY E pv c∧c.oneCell'=true
 ty:∀ (j:Nat) pv ct,pvs[j]?=some pv→cts[j]?=some ct→PV.Ty ct pv
theorem Reads.one {E:Env} {ct:CT} {pv:PV} {c:Value} (h:aY E pv c) (d:c.oneCell'=true) (e:PV.Ty ct pv):Reads E [ct] [pv] [c]:=by
 refine⟨rfl,rfl,fun j p u a b=>?_,fun j p u a b=>?_⟩
 ·cases j with
  | zero=>simp at a b; subst a; subst b; exact⟨h,d⟩
  | succ j=>simp at a
 ·cases j with
  | zero=>simp at a b; subst a; subst b; exact e
  | succ j=>simp at a
theorem Reads.append {E:Env} {c e:List CT} {d w:List PV} {i l:List Value} (h:Reads E c d i) (k:Reads E e w l):Reads E (c++e) (d++w) (i++l):=by
 refine⟨by simp[h.lp,k.lp],by simp[h.lc,k.lc],fun j p u a b=>?_,fun j p u a b=>?_⟩
 ·rcases aVL j d.length with hj | hj
  ·rw[aXI hj] at a;rw[aXI (by rw[h.lc,← h.lp]; exact hj)] at b;exact h.rep j p u a b
  ·rw[aXF hj] at a;rw[aXF (by rw[h.lc,← h.lp]; exact hj)] at b;rw[show j-i.length=j-d.length by rw[h.lc,h.lp]] at b;exact k.rep _ p u a b
 ·rcases aVL j d.length with hj | hj
  ·rw[aXI hj] at a;rw[aXI (by rw[← h.lp]; exact hj)] at b;exact h.ty j p u a b
  ·rw[aXF hj] at a;rw[aXF (by rw[← h.lp]; exact hj)] at b;rw[show j-c.length=j-d.length by rw[h.lp]] at b;exact k.ty _ p u a b
theorem ie {W:World} {num:Nat→FuncId} {a:Addr} {v:Value} (h:W.cell? a=some v):a.spot=none∧(Env.of W num).cell a.block a.off=some v:=by
 unfold World.cell? at h;split at h
 ·rename_i c ty i d;split at h
  ·cases h
  ·rename_i e;refine⟨by simpa using e,?_⟩;simp only[Env.cell,Env.of,d];exact h
 ·cases h
inductive PV.Len (N:Nat):PV→Prop
 | flat {pv:PV} (h1:∀ n rows,pv≠.sl n rows) (h2:∀ vs,pv≠.agg vs):PV.Len N pv
 | sl {n:Nat} {rows:List (List PV)} (h:rows.length≤N) (hr:∀ r∈rows,∀ v∈r,PV.Len N v):PV.Len N (.sl n rows)
 | agg {vs:List PV} (h:∀ v∈vs,PV.Len N v):PV.Len N (.agg vs)
theorem PV.Len.int {N:Nat} (k:IntKind) (n:Int):PV.Len N (.int k n):=.flat (fun _ _ h=>by cases h) fun _ h=>by cases h
theorem PV.Len.bool {N:Nat} (b:Bool):PV.Len N (.bool b):=.flat (fun _ _ h=>by cases h) fun _ h=>by cases h
theorem PV.Len.str {N:Nat} (s:List UInt8):PV.Len N (.str s):=.flat (fun _ _ h=>by cases h) fun _ h=>by cases h
theorem PV.Len.rows {N n:Nat} {rows:List (List PV)} (h:PV.Len N (.sl n rows)):rows.length≤N∧∀ r∈rows,∀ v∈r,PV.Len N v:=by
 cases h with
 | flat c _=>exact absurd rfl (c n rows)
 | sl c d=>exact⟨c,d⟩
theorem PV.Len.parts {N:Nat} {vs:List PV} (h:PV.Len N (.agg vs)):∀ v∈vs,PV.Len N v:=by
 cases h with
 | flat _ c=>exact absurd rfl (c vs)
 | agg h=>exact h
structure ZV {H:Type} (P:Program) (N:Nat) (S:TypeId→DataW H→Prop):Prop where
 sl:∀ t e elems spare,P.underlying t=some (.slice e)→S t (.slice elems spare)→elems.length≤N∧∀ d∈elems,S e d
 st:∀ t fs parts,P.underlying t=some (.struct fs)→S t (.agg parts)→∀ (i:Nat) g d,fs[i]?=some g→parts[i]?=some d→S g.type d
 ar:∀ t n e parts,P.underlying t=some (.array n e)→S t (.agg parts)→∀ d∈parts,S e d
theorem VY {H:Type} {P:Program} {A:(TypeId→DataW H→Prop)→Prop} {pv:PV} (h:∀ {N},PV.Len N pv):∀ N S,ZV P N S→A S→∀ v∈[pv],PV.Len N v:=fun N S _ _ v c=>by
 obtain rfl:=aWV.1 c;exact h
theorem jn {P:Program} {E:Env} {rec:TypeId→Option (List CT)} {H:Type} {f:TypeId→List Value→Option (DataW H × List MemPlace)}
  (F:∀ t cs x cts,f t cs=some x→rec t=some cts→∃ d,Reads E cts d cs∧∀ N S,ZV P N S→S t x.1→∀ v∈d,PV.Len N v) (cs:List Value) :
  ∀ (i:List Field) (k:Nat) (cts:List CT),(∀ g∈i,∃ x,f g.type ((cs.drop g.offset).take (P.cellsOf g.type))=some x)→rK P rec k i=some cts →
   ∃ d,Reads E cts d ((cs.drop k).take cts.length)∧∀ N S,ZV P N S→(∀ g∈i,∀ x,f g.type ((cs.drop g.offset).take (P.cellsOf g.type))=some x→S g.type x.1)→∀ v∈d,PV.Len N v
 | [],k,cts,_,h=>by simp[rK] at h; subst h;exact⟨[],⟨rfl,by simp,fun j p c a=>by simp at a,fun j p c a=>by simp at a⟩,fun _ _ _ _ v hv=>by cases hv⟩
 | g::i,k,cts,A,h=>by
  simp only[rK] at h;split at h
  ·rename_i J M;split at h
   ·rename_i y;simp only[aUZ] at h;obtain⟨K,O,rfl⟩:=h;obtain⟨x,B⟩:=A g (by simp);obtain⟨U,r1,Q⟩:=F _ _ _ _ B M;rw[y.1,y.2] at r1;obtain⟨V,r2,R⟩:=jn F cs i (k+J.length) K (fun l e=>A l (by simp[e])) O;refine⟨U++V,?_,fun N S u w v hv=>?_⟩
    ·have:=r1.append r2;rw[aUS,List.take_add,List.drop_drop];exact this
    ·rcases aWI.1 hv with hv | hv
     ·exact Q N S u (w g (by simp) x B) v hv
     ·exact R N S u (fun l e=>w l (by simp[e])) v hv
   ·cases h
  ·cases h
theorem yy {E:Env} {cts:List CT} {R:List PV→Prop} (e:R []) (l:∀ a b,R a→R b→R (a++b)) (cs:List Value) :
  ∀ n:Nat,(∀ i,i<n→∃ d,Reads E cts d ((cs.drop (i*cts.length)).take cts.length)∧R d)→∃ d,Reads E (aUR n cts).flatten d (cs.take (n*cts.length))∧R d
 | 0,_=>⟨[],⟨rfl,by simp,fun j p c a=>by simp at a,fun j p c a=>by simp at a⟩,e⟩
 | n+1,h=>by obtain⟨u,r1,x⟩:=yy e l cs n fun i hi=>h i Om;obtain⟨w,r2,y⟩:=h n Om;refine⟨u++w,?_,l _ _ x y⟩;rw[List.replicate_succ',List.flatten_append,List.flatten_singleton,aXR,List.take_add];exact r1.append r2
theorem aBC {H:Type} {enc:TypeId × Value→H} {P:Program} {W:World} {base:Nat} {sp:Nat→Bool} {α:Bool} (num:Nat→FuncId) :
  ∀ (fuel m:Nat) (t:TypeId) (cs:List Value) (x:DataW H × List MemPlace) (cts:List CT),DataW.trod enc P W base sp α fuel t cs=some x→gU P m t=some cts→∃ c,Reads (Env.of W num) cts c cs∧∀ N S,ZV P N S→S t x.1→∀ v∈c,PV.Len N v:=by
 intro fuel
 induction fuel with
 | zero=>intro m t cs x cts h; simp[DataW.trod] at h
 | succ fuel ih =>
  intro m t cs x cts h p;cases m with
  | zero=>simp[gU] at p
  | succ m =>
   simp only[gU] at p;split at p
   ·rename_i M;cases p;obtain⟨b,rfl,-⟩:=DataW.trod_bool M h;exact⟨[.bool b],.one (.bool b) rfl (.bool b),VY (.bool b)⟩
   ·rename_i k M;cases p;obtain⟨n,rfl,-,hw⟩:=DataW.trod_int M h;exact⟨[.int k n],.one (.int k n) rfl (.int hw),VY (.int k n)⟩
   ·rename_i M;cases p;obtain⟨s,rfl,-,hs⟩:=DataW.trod_string M h;exact⟨[.str s.data.toList],.one (.str s) rfl (.str (by rw[aXS]; exact hs)),VY (.str _)⟩
   ·rename_i e M;split at p
    ·rename_i l he;split at p
     ·rename_i u;cases p;rcases DataW.trod_slice M h with ⟨rfl,-⟩ | ⟨a,len,cap,elems,rest,n,hn,rfl,V,-,β,hcap,hel,helem,-⟩
      ·refine⟨[.sl l.length []],.one ?_ rfl (.sl (by simp) (by simp) (by simp[at2])),VY (.sl (aUT _) (fun r Q=>by cases Q))⟩;exact .sl (fun _ _=>.bool false) (by simp) (by decide) (by simp) (by simp) (fun _ _=>rfl) (by simp[at2])
      ·cases hn;have each:∀ i,i<len→∃ c X,(Reads (Env.of W num) l c X∧∀ N S,ZV P N S→(∀ d∈elems.map (·.1),S e d)→∀ v∈c,PV.Len N v)∧W.cells? base (a.add (i*l.length)) l.length=some X:=by intro i hi;have Z:=helem i hi;rw[aVB Om,aYE] at Z;obtain⟨X,h2,h3⟩:=Z;obtain⟨c,r,rl⟩:=ih m e X _ l h3 he;rw[u.1] at h2;exact⟨c,X,⟨r,fun N S F J=>rl N S F (J _ (aVQ.2 ⟨_,aUQ _,rfl⟩))⟩,h2⟩
       have γ:∀ i,∃ c,∃ X,i<len→(Reads (Env.of W num) l c X∧∀ N S,ZV P N S→(∀ d∈elems.map (·.1),S e d)→∀ v∈c,PV.Len N v)∧W.cells? base (a.add (i*l.length)) l.length=some X:=by
        intro i;by_cases hi:i<len
        ·obtain⟨c,X,Z⟩:=each i hi;exact⟨c,X,fun _=>Z⟩
        ·exact⟨[],[],fun h=>(hi h).elim⟩
       obtain⟨pf,ν⟩:=Classical.axiomOfChoice γ;obtain⟨uf,K⟩:=Classical.axiomOfChoice ν;have δ:∀ i j pv,at2 ((aUO len).map pf) i j=some pv→i<len∧(pf i)[j]?=some pv:=by
        intro i j pv A;unfold at2 at A;rw[aVN,aYE] at A;obtain⟨r,Q,A⟩:=A;rw[aUZ] at Q;obtain⟨i',O,rfl⟩:=Q;have hi:i<len:=by simpa using (aVW.1 O).1
        have:i'=i:=by simp[hi] at O; exact O.symm
        subst this;exact⟨hi,A⟩
       have hu2:∀ i j pv,at2 ((aUO len).map pf) i j=some pv→∃ v,(uf i)[j]?=some v∧j<l.length∧aY (Env.of W num) pv v∧v.oneCell'=true:=by
        intro i j pv A;obtain⟨hi,U⟩:=δ i j pv A;obtain⟨⟨r,-⟩,-⟩:=K i hi;have hj:j<l.length:=by rw[← r.lp]; exact (aVW.1 U).1
        have B:(uf i)[j]?=some ((uf i)[j]'(by rw[r.lc]; exact hj)):=aVB _;exact⟨_,B,hj,(r.rep j pv _ U B).1,(r.rep j pv _ U B).2⟩
       have Y:((aUO len).map pf).length=len:=by simp
       refine⟨[.sl l.length ((aUO len).map pf)],.one ?_ rfl (.sl (fun r Q=>?_) (by rw[Y]; omega) fun i j pv ct A ι=>?_),fun N S F J v B=>?_⟩
       ·have ζ:=aY.sl (E:=Env.of W num) (size:=l.length) (rows:=(aUO len).map pf) (a:=some a) (cap:=cap)
         (fun i j=>match at2 ((aUO len).map pf) i j with | some _=>((uf i)[j]?).getD (.bool false) | none=>.bool false) (by rw[Y]; exact β) hcap
         (fun r Q=>by simp only[aVQ,aVM] at Q;obtain⟨i,hi,rfl⟩:=Q;exact (K i hi).1.1.lp)
         (fun μ=>by
          have κ:0<len:=by
           rcases aWZ len with h | h
           ·subst h; exact (μ rfl).elim
           ·exact h
          have ε:a.spot=none:=by obtain⟨⟨r,-⟩,p⟩:=K 0 κ;have h3:=(World.cells?_some p).2.2 0 u.2;rw[Nat.zero_mul,Addr.add_zero',Addr.add_zero',aVB (by rw[r.lc]; exact u.2)] at h3;exact (ie (num:=num) h3).1
          refine⟨a,rfl,ε,fun i j pv A=>?_⟩;obtain⟨hi,-⟩:=δ i j pv A;obtain⟨v,B,hj,-⟩:=hu2 i j pv A;have h3:=(World.cells?_some (K i hi).2).2.2 j hj;rw[oH ε,add_plain,add_plain,B] at h3;have h4:=(ie (num:=num) h3).2;simp only[A,B,aXH];exact h4)
         (fun i j=>by
          split
          ·rename_i pv A;obtain⟨v,B,-,-,Z⟩:=hu2 i j pv A;simp[B,Z]
          ·rfl)
         (fun i j pv A=>by obtain⟨v,B,-,Z,-⟩:=hu2 i j pv A;simp only[A,B,aXH];exact Z)
        rw[Y] at ζ;exact ζ
       ·simp only[aVQ,aVM] at Q;obtain⟨i,hi,rfl⟩:=Q;exact (K i hi).1.1.lp
       ·obtain⟨hi,U⟩:=δ i j pv A;exact (K i hi).1.1.ty j pv ct U ι
       ·rw[V] at J;obtain⟨m1,m2⟩:=F.sl t e _ _ M J;obtain rfl:=aWV.1 B;refine .sl (by rw[Y]; simpa [hel] using m1) fun r Q w hw=>?_;simp only[aVQ,aVM] at Q;obtain⟨i,hi,rfl⟩:=Q;exact (K i hi).1.2 N S F m2 w hw
     ·cases p
    ·cases p
   ·rename_i fs M;split at p
    ·rename_i ο η;split at p
     ·rename_i β;cases p;obtain⟨xs,n,hn,V,θ,ξ,hx⟩:=DataW.trod_struct M h;cases hn;have:=jn (f:=DataW.trod enc P W base sp α fuel) (fun t cs x cts a b=>ih m t cs x cts a b) cs fs.toList 0 cts (fun g hg=>by obtain⟨i,hi,rfl⟩:=aVX hg;have:=hx i fs.toList[i] (by simp at hi; simp[hi]);rw[this];exact⟨_,aVB (by simp at hi; omega)⟩) η
      rw[aVY,aVI Om] at this;obtain⟨c,r,rl⟩:=this;refine⟨c,r,fun N S F J=>rl N S F fun g hg y hy=>?_⟩;rw[V] at J;obtain⟨i,hi,rfl⟩:=aVX hg;have O:i<fs.size:=by simpa using hi
      have:=hx i fs.toList[i] (by simp[O]);rw[hy,aVB Om] at this;refine F.st t fs _ M J i fs.toList[i] y.1 (by simp[O]) ?_;rw[aVN,aVB Om,← this]; rfl
     ·cases p
    ·cases p
   ·rename_i k e M;split at p
    ·rename_i l he;split at p
     ·rename_i u;cases p;obtain⟨xs,n,hn,V,θ,ξ,hx⟩:=DataW.trod_array M h;cases hn;obtain⟨c,r,hq⟩:=yy (E:=Env.of W num) (cts:=l) (R:=fun c=>∀ N S,ZV P N S→(∀ d:DataW H,d∈xs.map (fun y:DataW H × List MemPlace=>y.1)→S e d)→∀ v∈c,PV.Len N v) (fun _ _ _ _ v B=>by cases B)
       (fun a b ha hb N S F J v B=>(aWI.1 B).elim (ha N S F J v) (hb N S F J v)) cs k fun i hi=>by have h2:=hx i hi;rw[aVB Om,u.1] at h2;obtain⟨c,r,rl⟩:=ih m e _ _ l h2 he;exact⟨c,r,fun N S F J=>rl N S F (J _ (aVQ.2 ⟨_,aUQ _,rfl⟩))⟩
      rw[aVI Om] at r;exact⟨c,r,fun N S F J=>hq N S F (F.ar t k e _ M (by rw[V] at J; exact J))⟩
     ·cases p
    ·cases p
   ·cases p
theorem ou {H:Type} {enc:TypeId × Value→H} {P:Program} {W:World} {base:Nat} {i:Nat→Bool} {c:Bool} (num:Nat→FuncId)
  (fuel m:Nat) (t:TypeId) (cs:List Value) (x:DataW H × List MemPlace) (cts:List CT) (h:DataW.trod enc P W base i c fuel t cs=some x) (e:gU P m t=some cts):∃ d,Reads (Env.of W num) cts d cs :=
 (aBC num fuel m t cs x cts h e).imp fun _ r=>r.1
open Go Go.RowKit Go.ChangeShapes Go.WideShapes
theorem Ext.below {E d:Env} {H':PH} {w c:World} (h:Ext E PH.nil w d H' c):Below w.heap.size w c :=
 ⟨h.os,h.tape,h.output,h.size,fun k e=>h.block k e rfl⟩
theorem Below.trodAll {H:Type} {enc:TypeId × Value→H} {P:Program} (w:laidOutB P=true) {W e:World} (l:Below W.heap.size W e) :
  ∀ {ts:List TypeId} {vs:List Value} {ds:List (DataW H)} {ps:List MemPlace},(∀ t∈ts,P.readableRec t=true∧t<P.types.size)→DataW.TrodAll enc P W 0 (fun _=>true) true ts vs ds ps →
   DataW.TrodAll enc P e 0 (fun b=>decide (b<W.heap.size)) true ts vs ds ps
 | [],[],[],ps,_,h=>h
 | [],_::_,_,_,_,h=>h.elim
 | [],[],_::_,_,_,h=>h.elim
 | _::_,[],_,_,_,h=>h.elim
 | _::_,_::_,[],_,_,h=>h.elim
 | t::ts,v::vs,d::ds,ps,c,h=>by obtain⟨p,q,i,y,rfl⟩:=h;have hlt:∀ x∈p,x.block<W.heap.size:=fun x B=>DataW.TrodAll.lt (ts:=[t]) (vs:=[v]) (ds:=[d]) ⟨p,[],i,rfl,(aWF p).symm⟩ x B;exact⟨p,q,Below.trod w (c t (by simp)).1 (c t (by simp)).2 i l hlt,Below.trodAll w l (fun u A=>c u (by simp[A])) y,rfl⟩
theorem arJ {H:Type} {enc:TypeId × Value→H} {P:Program} {f:Func} {s:ChangeSpec} {c apart fresh:Bool} {W y:World} {args:Array Value} {ds e:List (DataW H)} {d:List MemPlace} {bt:TypeId}
  (F:laidOutB P=true) (hW:DataW.Whole enc P f.params.toList s.vars apart W args.toList ds e d) (B:Below W.heap.size W y) (u:∀ t∈f.params.toList,P.readableRec t=true∧t<P.types.size)
  (l:f.resultTypes=#[bt]) (i:P.underlying bt=some .bool) (w:s.vars=[]) (K:(s.fn H (ds++e)).results=[.lit (.bool true)]) (E:(s.fn H (ds++e)).args=ds) (x:(s.fn H (ds++e)).vars=[]) :
  s.post enc P f apart fresh c false W args (.bool true) y:=by
 obtain⟨p,q,A,hV,rfl,M,J⟩:=hW;rw[w] at hV;obtain⟨rfl,rfl⟩:=trodVars_none hV;refine⟨ds,[],p++[],[],p,[],⟨p,[],A,by rw[w]; exact hV,rfl,M,J⟩,?_,?_,?_,B.frame _,fun h=>by cases h⟩
 ·rw[K,l];refine⟨[],[],⟨1,?_⟩,rfl,rfl⟩;simp[DataW.trod,i,Value.cells,Value.resultList]
 ·rw[E];exact Below.trodAll F B u A
 ·rw[w,x];exact rfl
theorem apL {C:Ctx} {name:Nat} {W:World} {args:Array Value} {d:List PV} (h:aH C name d PH.nil (aI (.bool true))) (u:eO (Env.of W C.num) d args.toList) :
  Calls C.P (C.num name) args W fun e i=>e=.returned (.bool true)∧Below W.heap.size W i :=
 (h.2 (Env.of W C.num) W args rfl (bO.start W C.num) u).mono fun e i p=>by obtain⟨v,pv,w,H',rfl,-,c,l,rfl,-⟩:=p;cases c;exact⟨rfl,l.below⟩
theorem ahC {H:Type} {enc:TypeId × Value→H} {P:Program} {W:World} {r:Reach} {base:Nat} {E:Nat→Bool} {i:Bool} (num:Nat→FuncId) {t:TypeId} {v:Value} {d:DataW H} {ps:List MemPlace} {x:Array Field} {n:Nat} {cts:List CT}
  (p:P.underlying t=some (.struct x)) (l:Value.okWide P W r base t v) (A:DataW.Trod enc P W 0 E i t v d ps) (y:gU P n t=some cts) :
  ∃ c,aY (Env.of W num) (.agg c) v∧c.length=cts.length∧∀ (j:Nat) pv ct,c[j]?=some pv→cts[j]?=some ct→PV.Ty ct pv:=by
 obtain⟨cs,rfl,-⟩:=okWide_struct p l;obtain⟨fuel,h⟩:=A;obtain⟨c,e⟩:=ou num fuel n t _ _ cts h y;have B:cs.size=c.length:=by have:=e.lc; rw[e.lp,← this]; simp[Value.cells]
 refine⟨c,.agg cs B (fun u p=>?_) (fun j pv u a b=>(e.rep j pv u a (by simpa [Value.cells] using b)).1),e.lp,e.ty⟩;obtain⟨j,w,rfl⟩:=aVX p;simp only[aXS] at w;exact (e.rep j _ _ (aVB Om) (by simp[Value.cells,w])).2
theorem uW {H:Type} {enc:TypeId × Value→H} {P:Program} {W:World} {x:Nat→Bool} {c:Bool} (num:Nat→FuncId) {t:TypeId} {v:Value} {d:DataW H} {ps:List MemPlace} {n:Nat} {ct:CT}
  (w:v.cells=#[v]) (p:DataW.Trod enc P W 0 x c t v d ps) (l:gU P n t=some [ct]):∃ pv,aY (Env.of W num) pv v∧PV.Ty ct pv:=by
 obtain⟨fuel,h⟩:=p;obtain⟨i,e⟩:=ou num fuel n t _ _ [ct] h l;rw[w] at e;have u:=e.lp;cases i with
 | nil=>simp at u
 | cons pv rest=>exact⟨pv,(e.rep 0 pv v rfl rfl).1,e.ty 0 pv ct rfl rfl⟩
def InK (k:IntKind) (n:Int):Prop:=k.min≤n∧n≤k.max
def ajR (k:IntKind) (xs:List Int):PV:=.sl 1 (xs.map fun n=>[.int k n])
theorem Ty.Z7 {k:IntKind} {pv:PV} (h:PV.Ty (.int k) pv):∃ n,pv=.int k n∧InK k n:=by
 cases h with
 | int h=>simp only[Lit.wf,aVE,decide_eq_true_eq] at h; exact⟨_,rfl,h⟩
theorem Ty.aHZ {ct:CT} {pv:PV} (h:PV.Ty (.sl [ct]) pv):∃ vs:List PV,pv=.sl 1 (vs.map fun v=>[v])∧vs.length≤maxLen∧∀ v∈vs,PV.Ty ct v:=by
 cases h with
 | @sl y rows w u h =>
 have c:∀ r∈rows,r=[r.headD .junk]:=fun r d=>by
  have:=w r d
  match r,this with
  | [x],_=>rfl
 have e:rows=(rows.map fun r=>r.headD .junk).map fun v=>[v]:=by rw[List.map_map];apply aXE (by simp);intro n p A;simp only[aWD,Function.comp];exact c _ (aUQ p)
 refine⟨rows.map fun r=>r.headD .junk,by rw[← e]; rfl,by simpa using u,fun v l=>?_⟩;rw[aVQ] at l;obtain⟨r,d,rfl⟩:=l;obtain⟨i,hi,rfl⟩:=aVX d;refine h i 0 _ ct ?_ rfl;have:=c rows[i] d;unfold at2;rw[aVB hi,aYF,this];rfl
theorem Ty.ayC {k:IntKind} {pv:PV} (h:PV.Ty (.sl [.int k]) pv):∃ xs:List Int,pv=ajR k xs∧xs.length≤maxLen∧∀ x∈xs,InK k x:=by
 obtain⟨vs,rfl,u,d⟩:=Ty.aHZ h;have e:vs=(vs.map fun v=>match v with | .int _ n=>n | _=>0).map fun n=>PV.int k n:=by rw[List.map_map];apply aXE (by simp);intro n l w;simp only[aWD,Function.comp];obtain⟨m,c,-⟩:=Ty.Z7 (d _ (aUQ l));rw[c]
 refine⟨vs.map fun v=>match v with | .int _ n=>n | _=>0,?_,by simpa using u,fun x i=>?_⟩
 ·unfold ajR
  conv=>lhs; rw[e]
  rw[List.map_map];rfl
 ·rw[aVQ] at i;obtain⟨v,c,rfl⟩:=i;obtain⟨m,rfl,p⟩:=Ty.Z7 (d v c);exact p
abbrev Rg:=List aS
abbrev Rd:=List (aS×Bool)
def iM (d s:Nat):aS:=⟨some d,.mv (.tmp s),none⟩
def iI (d:Nat) (n:Int):aS:=⟨some d,.mv (.const (.int .i64 n)),none⟩
def iB (d:Nat) (o:BinOp) (x y:Nat):aS:=⟨some d,.bin o (.tmp x) (.tmp y),none⟩
def iC (d:Nat) (o:BinOp) (x:Nat) (n:Int):aS:=⟨some d,.bin o (.tmp x) (.const (.int .i64 n)),none⟩
def iL (d s:Nat):aS:=⟨some d,.load none (.tmp s),none⟩
def iX (d n x y:Nat):aS:=⟨some d,.aTT n (.tmp x) (.tmp y),none⟩
def iN (d x:Nat):aS:=⟨some d,.len (.tmp x),none⟩
def iF (d n x:Nat):aS:=⟨some d,.aUF n (.tmp x),none⟩
def iS (n p x:Nat):aS:=⟨none,.store n (.tmp p) (.tmp x),none⟩
def iA (d:Nat) (o:POp):aS:=⟨some d,o,none⟩
def iG (d:Nat) (o:POp) (g:Nat) (b:Bool):aS:=⟨some d,o,some (g,b)⟩
def iP (d a b:Nat):aS:=⟨some d,.pick (.tmp a) (.tmp b) (.const (.bool false)),none⟩
def iQ (d a b:Nat):aS:=⟨some d,.pick (.tmp a) (.const (.bool true)) (.tmp b),none⟩
def iO (d s a:Nat):aS:=⟨some d,.load (some s) (.tmp a),none⟩
def iE (d a n:Nat):aS:=⟨some d,.extract (.tmp a) n,none⟩
def iK (d f a:Nat):aS:=⟨some d,.call f [.tmp a],none⟩
def iK2 (d f a b:Nat):aS:=⟨some d,.call f [.tmp a,.tmp b],none⟩
def iT (d:Nat) (b:Bool):aS:=⟨some d,.mv (.const (.bool b)),none⟩
def iZ (d:Nat):aS:=⟨some d,.mv (.const .aB),none⟩
def gM (d s g:Nat) (b:Bool):aS:=⟨some d,.mv (.tmp s),some (g,b)⟩
def gL (d s g:Nat) (b:Bool):aS:=⟨some d,.load none (.tmp s),some (g,b)⟩
def gF (d n s g:Nat) (b:Bool):aS:=⟨some d,.aUF n (.tmp s),some (g,b)⟩
def gN (d s g:Nat) (b:Bool):aS:=⟨some d,.len (.tmp s),some (g,b)⟩
def gO (d n s g:Nat) (b:Bool):aS:=⟨some d,.load (some n) (.tmp s),some (g,b)⟩
def gK (d f a g:Nat) (b:Bool):aS:=⟨some d,.call f [.tmp a],some (g,b)⟩
def gK2 (d f a c g:Nat) (b:Bool):aS:=⟨some d,.call f [.tmp a,.tmp c],some (g,b)⟩
def gC (d:Nat) (o:BinOp) (x:Nat) (n:Int) (g:Nat) (b:Bool):aS:=⟨some d,.bin o (.tmp x) (.const (.int .i64 n)),some (g,b)⟩
def gB (d:Nat) (o:BinOp) (x y g:Nat) (b:Bool):aS:=⟨some d,.bin o (.tmp x) (.tmp y),some (g,b)⟩
def zI:PV:=.int .i64 0
def zB:PV:=.bool false
def sq (r:Rg) (c:aC):aC:=.seq (.region r) c
def dq (r:Rd) (c:aC):aC:=.seq (.draw r) c
def Tm (n:Nat):aQ:=.tmp n
def Ci (n:Int):aQ:=.const (.int .i64 n)
@[go_sem] theorem aSQ (d s:Nat):iM d s=⟨some d,.mv (.tmp s),none⟩:=(rfl)
@[go_sem] theorem aSN (d:Nat) (n:Int):iI d n=⟨some d,.mv (.const (.int .i64 n)),none⟩:=(rfl)
@[go_sem] theorem aSI (d:Nat) (o:BinOp) (x y:Nat):iB d o x y=⟨some d,.bin o (.tmp x) (.tmp y),none⟩:=(rfl)
@[go_sem] theorem aSJ (d:Nat) (o:BinOp) (x:Nat) (n:Int):iC d o x n=⟨some d,.bin o (.tmp x) (.const (.int .i64 n)),none⟩:=(rfl)
@[go_sem] theorem aSP (d s:Nat):iL d s=⟨some d,.load none (.tmp s),none⟩:=(rfl)
@[go_sem] theorem aSX (d n x y:Nat):iX d n x y=⟨some d,.aTT n (.tmp x) (.tmp y),none⟩:=(rfl)
@[go_sem] theorem aSR (d x:Nat):iN d x=⟨some d,.len (.tmp x),none⟩:=(rfl)
@[go_sem] theorem aSL (d n x:Nat):iF d n x=⟨some d,.aUF n (.tmp x),none⟩:=(rfl)
@[go_sem] theorem aSV (n p x:Nat):iS n p x=⟨none,.store n (.tmp p) (.tmp x),none⟩:=(rfl)
@[go_sem] theorem aSH (d:Nat) (o:POp):iA d o=⟨some d,o,none⟩:=(rfl)
@[go_sem] theorem aSM (d:Nat) (o:POp) (g:Nat) (b:Bool):iG d o g b=⟨some d,o,some (g,b)⟩:=(rfl)
@[go_sem] theorem aST (d a b:Nat):iP d a b=⟨some d,.pick (.tmp a) (.tmp b) (.const (.bool false)),none⟩:=(rfl)
@[go_sem] theorem aSU (d a b:Nat):iQ d a b=⟨some d,.pick (.tmp a) (.const (.bool true)) (.tmp b),none⟩:=(rfl)
@[go_sem] theorem aSS (d s a:Nat):iO d s a=⟨some d,.load (some s) (.tmp a),none⟩:=(rfl)
@[go_sem] theorem aSK (d a n:Nat):iE d a n=⟨some d,.extract (.tmp a) n,none⟩:=(rfl)
@[go_sem] theorem aSO (d f a:Nat):iK d f a=⟨some d,.call f [.tmp a],none⟩:=(rfl)
@[go_sem] theorem aRU (d f a b:Nat):iK2 d f a b=⟨some d,.call f [.tmp a,.tmp b],none⟩:=(rfl)
@[go_sem] theorem aSW (d:Nat) (b:Bool):iT d b=⟨some d,.mv (.const (.bool b)),none⟩:=(rfl)
@[go_sem] theorem aSY (d:Nat):iZ d=⟨some d,.mv (.const .aB),none⟩:=(rfl)
@[go_sem] theorem aSE (d s g:Nat) (b:Bool):gM d s g b=⟨some d,.mv (.tmp s),some (g,b)⟩:=(rfl)
@[go_sem] theorem aSD (d s g:Nat) (b:Bool):gL d s g b=⟨some d,.load none (.tmp s),some (g,b)⟩:=(rfl)
@[go_sem] theorem aSB (d n s g:Nat) (b:Bool):gF d n s g b=⟨some d,.aUF n (.tmp s),some (g,b)⟩:=(rfl)
@[go_sem] theorem aSF (d s g:Nat) (b:Bool):gN d s g b=⟨some d,.len (.tmp s),some (g,b)⟩:=(rfl)
@[go_sem] theorem aSG (d n s g:Nat) (b:Bool):gO d n s g b=⟨some d,.load (some n) (.tmp s),some (g,b)⟩:=(rfl)
@[go_sem] theorem aSC (d f a g:Nat) (b:Bool):gK d f a g b=⟨some d,.call f [.tmp a],some (g,b)⟩:=(rfl)
@[go_sem] theorem aRT (d f a c g:Nat) (b:Bool):gK2 d f a c g b=⟨some d,.call f [.tmp a,.tmp c],some (g,b)⟩:=(rfl)
@[go_sem] theorem aSA (d:Nat) (o:BinOp) (x:Nat) (n:Int) (g:Nat) (b:Bool):gC d o x n g b=⟨some d,.bin o (.tmp x) (.const (.int .i64 n)),some (g,b)⟩:=(rfl)
@[go_sem] theorem aRZ (d:Nat) (o:BinOp) (x y g:Nat) (b:Bool):gB d o x y g b=⟨some d,.bin o (.tmp x) (.tmp y),some (g,b)⟩:=(rfl)
@[go_sem] theorem aTB:zI=.int .i64 0:=(rfl)
@[go_sem] theorem aTA:zB=.bool false:=(rfl)
@[go_sem] theorem aSZ (r:Rg) (c:aC):sq r c=.seq (.region r) c:=(rfl)
@[go_sem] theorem aRY (r:Rd) (c:aC):dq r c=.seq (.draw r) c:=(rfl)
@[go_sem] theorem aRX (n:Nat):Tm n=.tmp n:=(rfl)
@[go_sem] theorem aRW (n:Int):Ci n=.const (.int .i64 n):=(rfl)
end Go.PM
namespace Go.PM
open Go
def J5:Rg:=[iT 4 false]
def J6:Rg:=[iM 6 0,iN 7 6,iM 8 1,iN 9 8,iB 10 .neq 7 9]
def awI:Rg:=[iT 4 false]
def J7:Rg:=[iI 5 0]
def J8:Rg:=[iM 11 5,iM 12 0,iN 13 12,iB 14 .lss 11 13]
def J9:Rd:=[(iM 17 0,false),(iM 18 5,false),(iX 19 1 17 18,false),(iL 20 19,false),(iM 21 1,false),(iM 22 5,false),(iX 23 1 21 22,false),(iL 24 23,false),(iB 25 .neq 20 24,false)]
def awJ:Rg:=[iT 4 false]
def Ka:Rg:=[iM 15 5,iC 16 .add 15 1,iM 5 16]
def J4:aC:=(.seq (sq J8 (.cond (Tm 14) .skip (.exit 0))) (.seq (.block 1 (dq J9 (.cond (Tm 25) (sq awJ .ret) .skip))) (.region Ka)))
def Kb:Rg:=[iT 4 true]
def JD:aC:=(sq J5 (.seq (sq J6 (.cond (Tm 10) (sq awI .ret) .skip)) (.seq (sq J7 (.block 0 (.loop J4))) (sq Kb .ret))))
def awK:List Nat:=[]
def aiC:aZ:=⟨2,26,JD,[.tmp 4]⟩
def MH:Rg:=[iI 2 0]
def MI:Rg:=[iM 4 0,iN 5 4,iM 3 5]
def MJ:Rg:=[iM 6 3,iC 7 .gtr 6 0,iM 8 7,gM 9 0 8 true,gM 10 3 8 true,gC 11 .sub 10 1 8 true,iG 12 (.aTT 1 (Tm 9) (Tm 11)) 8 true,gL 13 12 8 true,iG 14 (.bin .eql (Tm 13) (.const (.int .u32 0))) 8 true,iP 15 8 14]
def MK:Rg:=[iM 16 3,iC 17 .sub 16 1,iM 3 17]
def MG:aC:=(.seq (sq MJ (.cond (Tm 15) .skip (.exit 0))) (.block 1 (.region MK)))
def tZ:Rg:=[iM 18 3,iM 2 18]
def pU:aC:=(sq MH (sq MI (.seq (.block 0 (.loop MG)) (sq tZ .ret))))
def akU:List Nat:=[]
def HR:aZ:=⟨1,19,pU,[.tmp 2]⟩
def Bc:Rg:=[iT 2 false]
def Bd:Rg:=[iM 3 0,iK 4 138 3,iC 5 .gtr 4 512,iM 2 5]
def FI:aC:=(sq Bc (sq Bd .ret))
def aqJ:List Nat:=[]
def Qf:aZ:=⟨1,6,FI,[.tmp 2]⟩
def Bp:Rg:=[iZ 2,iI 3 0]
def Bq:Rg:=[iM 5 0,iK 6 138 5,iM 4 6]
def Br:Rg:=[iM 7 4,iC 8 .gtr 7 512]
def Bs:Rg:=[iZ 2,iI 3 2]
def Bt:Rg:=[iM 9 0,iM 10 4,iM 11 4,iA 12 (.slice 1 (Tm 9) none (some (Tm 10)) (some (Tm 11))),iM 2 12,iI 3 0]
def FK:aC:=(sq Bp (sq Bq (.seq (sq Br (.cond (Tm 8) (sq Bs .ret) .skip)) (sq Bt .ret))))
def aqO:List Nat:=[]
def Qs:aZ:=⟨1,13,FK,[.tmp 2,.tmp 3]⟩
def Qg:Rg:=[iZ 2]
def Qh:Rg:=[iM 4 0,iA 5 (.conv .u32 (Tm 4)),iM 6 0,iA 7 (.bin .shr (Tm 6) (.const (.int .u64 32))),iA 8 (.conv .u32 (Tm 7)),iA 9 (.aTI true 1 2 [(.int .u32 0)] [(0,(Tm 5)),(1,(Tm 8))]),iM 3 9]
def Qi:Rg:=[iM 10 3,iM 11 3,iK 12 138 11,iA 13 (.slice 1 (Tm 10) none (some (Tm 12)) none),iM 2 13]
def ML:aC:=(sq Qg (sq Qh (sq Qi .ret)))
def azQ:List Nat:=[9]
def akV:aZ:=⟨1,14,ML,[.tmp 2]⟩
def Q1:Rg:=[iZ 2]
def Q2:Rg:=[iM 3 0,iM 4 0,iK 5 138 4,iA 6 (.slice 1 (Tm 3) none (some (Tm 5)) none),iA 7 (.append 1 4 (.const .aB) (Tm 6)),iM 2 7]
def MM:aC:=(sq Q1 (sq Q2 .ret))
def azV:List Nat:=[]
def akX:aZ:=⟨1,8,MM,[.tmp 2]⟩
def abC:Rg:=[iI 4 0]
def abD:Rg:=[iM 8 0,iK 9 138 8,iM 10 1,iK 11 138 10,iM 5 9,iM 6 11]
def abE:Rg:=[iM 13 5,iM 14 6,iB 15 .lss 13 14,iM 12 15]
def abF:Rg:=[iI 4 (-1)]
def abG:Rg:=[iM 17 5,iM 18 6,iB 19 .gtr 17 18,iM 16 19]
def abH:Rg:=[iI 4 1]
def abI:Rg:=[iM 20 5,iC 21 .sub 20 1,iM 7 21]
def abJ:Rg:=[iM 22 7,iC 23 .geq 22 0]
def abK:Rd:=[(iM 27 0,false),(iM 28 7,false),(iX 29 1 27 28,false),(iL 30 29,false),(iM 31 1,false),(iM 32 7,false),(iX 33 1 31 32,false),(iL 34 33,false),(iB 35 .lss 30 34,false),(iM 26 35,false)]
def abL:Rg:=[iI 4 (-1)]
def P6:Rd:=[(iM 37 0,false),(iM 38 7,false),(iX 39 1 37 38,false),(iL 40 39,false),(iM 41 1,false),(iM 42 7,false),(iX 43 1 41 42,false),(iL 44 43,false),(iB 45 .gtr 40 44,false),(iM 36 45,false)]
def P7:Rg:=[iI 4 1]
def P8:Rg:=[iM 24 7,iC 25 .sub 24 1,iM 7 25]
def P5:aC:=(.seq (sq abJ (.cond (Tm 23) .skip (.exit 1))) (.seq (.block 2 (.block 3 (dq abK (.cond (Tm 26) (sq abL .ret) (dq P6 (.cond (Tm 36) (sq P7 .ret) .skip)))))) (.region P8)))
def P9:Rg:=[iI 4 0]
def SX:aC:=(sq abC (sq abD (.seq (.block 0 (sq abE (.cond (Tm 12) (sq abF .ret) (sq abG (.cond (Tm 16) (sq abH .ret) .skip))))) (.seq (sq abI (.block 1 (.loop P5))) (sq P9 .ret)))))
def aGZ:List Nat:=[]
def azL:aZ:=⟨2,46,SX,[.tmp 4]⟩
def aaW:Rg:=[iZ 4,iI 5 0]
def aaX:Rg:=[iM 9 0,iK 10 137 9,iM 11 10,gM 12 1 11 false,gK 13 137 12 11 false,iQ 14 11 13]
def uz:Rg:=[iZ 4,iI 5 2]
def aaY:Rd:=[(iM 15 0,true),(iM 16 0,false),(iK 17 138 16,true),(iA 18 (.slice 1 (Tm 15) none (some (Tm 17)) none),true),(iM 19 1,true),(iM 20 1,true),(iK 21 138 20,true),(iA 22 (.slice 1 (Tm 19) none (some (Tm 21)) none),false),(iM 0 18,false),(iM 1 22,false)]
def aaZ:Rg:=[iM 23 0,iN 24 23,iM 25 1,iN 26 25,iB 27 .lss 24 26]
def abA:Rg:=[iM 28 1,iM 29 0,iM 0 28,iM 1 29]
def u0:Rg:=[iM 30 0,iN 31 30,iC 32 .add 31 1,iA 33 (.aTK 1 4 [(.int .u32 0)] (Tm 32) (Tm 32)),iM 6 33]
def u1:Rg:=[iA 7 (.mv (.const (.int .u64 0)))]
def u5:Rg:=[iM 34 0,iN 35 34,iI 36 0]
def abB:Rg:=[iB 37 .lss 36 35]
def Po:Rg:=[iM 38 36,iM 8 38]
def Pp:Rg:=[iM 39 7,iM 40 0,iM 41 8,iX 42 1 40 41,iL 43 42,iA 44 (.conv .u64 (Tm 43)),iB 45 .add 39 44,iM 7 45]
def Pq:Rg:=[iM 46 8,iM 47 1,iN 48 47,iB 49 .lss 46 48]
def Ps:Rg:=[iM 50 7,iM 51 1,iM 52 8,iX 53 1 51 52,iL 54 53,iA 55 (.conv .u64 (Tm 54)),iB 56 .add 50 55,iM 7 56]
def cx:Rg:=[iM 57 6,iM 58 8,iM 59 7,iA 60 (.conv .u32 (Tm 59)),iX 61 1 57 58,iS 1 61 60]
def cy:Rg:=[iM 62 7,iA 63 (.bin .shr (Tm 62) (.const (.int .u64 32))),iM 7 63]
def cz:Rg:=[iC 64 .add 36 1,iM 36 64]
def cw:aC:=(sq abB (.seq (.cond (Tm 37) .skip (.exit 0)) (.seq (.block 1 (sq Po (sq Pp (.seq (sq Pq (.cond (Tm 49) (.region Ps) .skip)) (sq cx (.region cy)))))) (.region cz))))
def c7:Rg:=[iM 65 6,iM 66 0,iN 67 66,iM 68 7,iA 69 (.conv .u32 (Tm 68)),iX 70 1 65 67,iS 1 70 69]
def c8:Rg:=[iM 71 6,iK 72 141 71,iE 73 72 0,iE 74 72 1,iM 4 73,iM 5 74]
def SW:aC:=(sq aaW (.seq (sq aaX (.cond (Tm 14) (sq uz .ret) .skip)) (dq aaY (.seq (sq aaZ (.cond (Tm 27) (.region abA) .skip)) (sq u0 (sq u1 (.seq (sq u5 (.block 0 (.loop cw))) (sq c7 (sq c8 .ret)))))))))
def aGW:List Nat:=[]
def azH:aZ:=⟨2,75,SW,[.tmp 4,.tmp 5]⟩
def acE:Rg:=[iZ 4,iI 5 0]
def acF:Rg:=[iM 11 0,iK 12 137 11,iM 13 12,gM 14 1 13 false,gK 15 137 14 13 false,iQ 16 13 15,iM 10 16]
def vk:Rg:=[iZ 4,iI 5 2]
def acG:Rg:=[iM 18 0,iM 19 1,iK2 20 129 18 19,iC 21 .lss 20 0,iM 17 21]
def acH:Rg:=[iZ 4,iI 5 4]
def acI:Rd:=[(iM 22 0,true),(iM 23 0,false),(iK 24 138 23,true),(iA 25 (.slice 1 (Tm 22) none (some (Tm 24)) none),true),(iM 26 1,true),(iM 27 1,true),(iK 28 138 27,true),(iA 29 (.slice 1 (Tm 26) none (some (Tm 28)) none),false),(iM 0 25,false),(iM 1 29,false)]
def vm:Rg:=[iM 30 0,iN 31 30,iA 32 (.aTK 1 4 [(.int .u32 0)] (Tm 31) (Tm 31)),iM 6 32]
def vn:Rg:=[iA 7 (.mv (.const (.int .u64 0)))]
def vp:Rg:=[iM 33 0,iN 34 33,iI 35 0]
def acJ:Rg:=[iB 36 .lss 35 34]
def Qt:Rg:=[iM 37 35,iM 8 37]
def Qu:Rg:=[iM 38 0,iM 39 8,iX 40 1 38 39,iL 41 40,iA 42 (.conv .u64 (Tm 41)),iM 43 7,iB 44 .sub 42 43,iM 9 44]
def Qv:Rg:=[iM 45 8,iM 46 1,iN 47 46,iB 48 .lss 45 47]
def Qw:Rg:=[iM 49 9,iM 50 1,iM 51 8,iX 52 1 50 51,iL 53 52,iA 54 (.conv .u64 (Tm 53)),iB 55 .sub 49 54,iM 9 55]
def di:Rg:=[iM 56 6,iM 57 8,iM 58 9,iA 59 (.conv .u32 (Tm 58)),iX 60 1 56 57,iS 1 60 59]
def dj:Rg:=[iM 61 9,iA 62 (.bin .shr (Tm 61) (.const (.int .u64 63))),iM 7 62]
def dk:Rg:=[iC 63 .add 35 1,iM 35 63]
def dh:aC:=(sq acJ (.seq (.cond (Tm 36) .skip (.exit 1)) (.seq (.block 2 (sq Qt (sq Qu (.seq (sq Qv (.cond (Tm 48) (.region Qw) .skip)) (sq di (.region dj)))))) (.region dk))))
def dl:Rg:=[iM 64 6,iK 65 141 64,iE 66 65 0,iE 67 65 1,iM 4 66,iM 5 67]
def TF:aC:=(sq acE (.seq (.block 0 (sq acF (.cond (Tm 10) (sq vk .ret) (sq acG (.cond (Tm 17) (sq acH .ret) .skip))))) (dq acI (sq vm (sq vn (.seq (sq vp (.block 1 (.loop dh))) (sq dl .ret)))))))
def aHI:List Nat:=[]
def azT:aZ:=⟨2,68,TF,[.tmp 4,.tmp 5]⟩
def acA:Rg:=[iZ 4,iI 5 0]
def acB:Rg:=[iM 12 0,iK 13 137 12,iM 14 13,gM 15 1 14 false,gK 16 137 15 14 false,iQ 17 14 16]
def vb:Rg:=[iZ 4,iI 5 2]
def acC:Rd:=[(iM 18 0,true),(iM 19 0,false),(iK 20 138 19,true),(iA 21 (.slice 1 (Tm 18) none (some (Tm 20)) none),true),(iM 22 1,true),(iM 23 1,true),(iK 24 138 23,true),(iA 25 (.slice 1 (Tm 22) none (some (Tm 24)) none),false),(iM 0 21,false),(iM 1 25,false)]
def vd:Rg:=[iM 26 0,iN 27 26,iM 28 1,iN 29 28,iB 30 .add 27 29,iA 31 (.aTK 1 4 [(.int .u32 0)] (Tm 30) (Tm 30)),iM 6 31]
def ve:Rg:=[iM 32 0,iN 33 32,iI 34 0]
def acD:Rg:=[iB 35 .lss 34 33]
def vf:Rg:=[iM 36 34,iX 37 1 32 34,iL 38 37,iM 7 36,iM 8 38]
def vh:Rg:=[iA 9 (.mv (.const (.int .u64 0)))]
def vi:Rg:=[iM 39 1,iN 40 39,iI 41 0]
def Qj:Rg:=[iB 42 .lss 41 40]
def Qk:Rg:=[iM 43 41,iX 44 1 39 41,iL 45 44,iM 10 43,iM 11 45]
def Ql:Rg:=[iM 46 9,iM 47 8,iA 48 (.conv .u64 (Tm 47)),iM 49 11,iA 50 (.conv .u64 (Tm 49)),iB 51 .mul 48 50,iM 52 6,iM 53 7,iM 54 10,iB 55 .add 53 54,iX 56 1 52 55,iL 57 56,iA 58 (.conv .u64 (Tm 57)),iB 59 .add 51 58,iB 60 .add 46 59,iM 9 60]
def Qm:Rg:=[iM 61 6,iM 62 7,iM 63 10,iB 64 .add 62 63,iM 65 9,iA 66 (.conv .u32 (Tm 65)),iX 67 1 61 64,iS 1 67 66]
def Qn:Rg:=[iM 68 9,iA 69 (.bin .shr (Tm 68) (.const (.int .u64 32))),iM 9 69]
def Qo:Rg:=[iC 70 .add 41 1,iM 41 70]
def da:aC:=(sq Qj (.seq (.cond (Tm 42) .skip (.exit 2)) (.seq (.block 3 (sq Qk (sq Ql (sq Qm (.region Qn))))) (.region Qo))))
def dd:Rg:=[iM 71 6,iM 72 7,iM 73 1,iN 74 73,iB 75 .add 72 74,iM 76 9,iA 77 (.conv .u32 (Tm 76)),iX 78 1 71 75,iS 1 78 77]
def Qp:Rg:=[iC 79 .add 34 1,iM 34 79]
def db:aC:=(sq acD (.seq (.cond (Tm 35) .skip (.exit 0)) (.seq (.block 1 (sq vf (sq vh (.seq (sq vi (.block 2 (.loop da))) (.region dd))))) (.region Qp))))
def de:Rg:=[iM 80 6,iK 81 141 80,iE 82 81 0,iE 83 81 1,iM 4 82,iM 5 83]
def TC:aC:=(sq acA (.seq (sq acB (.cond (Tm 17) (sq vb .ret) .skip)) (dq acC (sq vd (.seq (sq ve (.block 0 (.loop db))) (sq de .ret))))))
def aHG:List Nat:=[]
def azR:aZ:=⟨2,84,TC,[.tmp 4,.tmp 5]⟩
def Pw:Rg:=[iI 2 0]
def Px:Rg:=[iM 6 0,iK 7 138 6,iM 3 7]
def Py:Rg:=[iM 8 3,iC 9 .eql 8 0]
def Pz:Rg:=[iI 2 0]
def P0:Rg:=[iM 10 3,iC 11 .sub 10 1,iC 12 .mul 11 32,iM 4 12]
def P1:Rg:=[iM 13 0,iM 14 3,iC 15 .sub 14 1,iX 16 1 13 15,iL 17 16,iM 5 17]
def P2:Rg:=[iM 18 5,iA 19 (.bin .gtr (Tm 18) (.const (.int .u32 0)))]
def P3:Rg:=[iM 22 4,iC 23 .add 22 1,iM 4 23]
def P4:Rg:=[iM 20 5,iA 21 (.bin .shr (Tm 20) (.const (.int .u64 1))),iM 5 21]
def Pv:aC:=(.seq (sq P2 (.cond (Tm 19) .skip (.exit 0))) (.seq (.block 1 (.region P3)) (.region P4)))
def A1:Rg:=[iM 24 4,iM 2 24]
def LS:aC:=(sq Pw (sq Px (.seq (sq Py (.cond (Tm 9) (sq Pz .ret) .skip)) (sq P0 (.seq (sq P1 (.block 0 (.loop Pv))) (sq A1 .ret))))))
def azK:List Nat:=[]
def akK:aZ:=⟨1,25,LS,[.tmp 2]⟩
def abT:Rg:=[iZ 4,iI 5 0]
def abU:Rg:=[iM 8 0,iK 9 137 8,iM 10 9,gM 11 1 10 false,gK 12 137 11 10 false,iQ 13 10 12]
def va:Rg:=[iZ 4,iI 5 2]
def abV:Rg:=[iM 14 0,iK 15 135 14,iM 16 1,iK 17 135 16,iM 0 15,iM 1 17]
def abW:Rg:=[iM 18 1,iN 19 18,iC 20 .gtr 19 0]
def abX:Rg:=[iM 22 0,iM 23 1,iK2 24 136 22 23,iM 21 24,iE 25 21 0,iE 26 21 1,iM 6 25,iM 7 26]
def abY:Rg:=[iM 27 1,iM 28 7,iM 0 27,iM 1 28]
def abS:aC:=(.seq (sq abW (.cond (Tm 20) .skip (.exit 0))) (.block 1 (sq abX (.region abY))))
def abZ:Rg:=[iM 29 0,iM 4 29,iI 5 0]
def TB:aC:=(sq abT (.seq (sq abU (.cond (Tm 13) (sq va .ret) .skip)) (sq abV (.seq (.block 0 (.loop abS)) (sq abZ .ret)))))
def aHE:List Nat:=[]
def azO:aZ:=⟨2,30,TB,[.tmp 4,.tmp 5]⟩
def abM:Rg:=[iZ 4,iZ 5,iI 6 0]
def abN:Rg:=[iM 10 0,iK 11 137 10,iM 12 11,gM 13 1 12 false,gK 14 137 13 12 false,iQ 15 12 14,iM 9 15]
def u7:Rg:=[iZ 4,iZ 5,iI 6 2]
def abO:Rg:=[iM 17 1,iK 18 138 17,iC 19 .eql 18 0,iM 16 19]
def abP:Rg:=[iZ 4,iZ 5,iI 6 3]
def abQ:Rd:=[(iM 21 0,true),(iM 22 0,false),(iK 23 138 22,true),(iA 24 (.slice 1 (Tm 21) none (some (Tm 23)) none),true),(iM 25 1,true),(iM 26 1,true),(iK 27 138 26,true),(iA 28 (.slice 1 (Tm 25) none (some (Tm 27)) none),false),(iK2 29 136 24 28,true),(iM 20 29,false),(iE 30 20 0,false),(iE 31 20 1,false),(iM 7 30,false),(iM 8 31,false)]
def abR:Rg:=[iM 32 7,iM 33 8,iM 4 32,iM 5 33,iI 6 0]
def SZ:aC:=(sq abM (.seq (.block 0 (sq abN (.cond (Tm 9) (sq u7 .ret) (sq abO (.cond (Tm 16) (sq abP .ret) .skip))))) (dq abQ (sq abR .ret))))
def aHB:List Nat:=[]
def azM:aZ:=⟨2,34,SZ,[.tmp 4,.tmp 5,.tmp 6]⟩
def Bg:Rg:=[iZ 4,iA 5 (.mv (.const (.int .u32 0)))]
def Bh:Rg:=[iM 9 0,iN 10 9,iA 11 (.aTK 1 4 [(.int .u32 0)] (Tm 10) (Tm 10)),iM 6 11]
def Bi:Rg:=[iA 7 (.mv (.const (.int .u64 0)))]
def Bj:Rg:=[iM 12 0,iN 13 12,iC 14 .sub 13 1,iM 8 14]
def Bk:Rg:=[iM 15 8,iC 16 .geq 15 0]
def Bl:Rg:=[iM 19 7,iA 20 (.bin .shl (Tm 19) (.const (.int .u64 32))),iM 21 0,iM 22 8,iX 23 1 21 22,iL 24 23,iA 25 (.conv .u64 (Tm 24)),iB 26 .or 20 25,iM 7 26]
def Bm:Rg:=[iM 27 6,iM 28 8,iM 29 7,iM 30 1,iA 31 (.conv .u64 (Tm 30)),iB 32 .quo 29 31,iA 33 (.conv .u32 (Tm 32)),iX 34 1 27 28,iS 1 34 33]
def Bn:Rg:=[iM 35 7,iM 36 1,iA 37 (.conv .u64 (Tm 36)),iB 38 .rem 35 37,iM 7 38]
def Bo:Rg:=[iM 17 8,iC 18 .sub 17 1,iM 8 18]
def Bf:aC:=(.seq (sq Bk (.cond (Tm 16) .skip (.exit 0))) (.seq (.block 1 (sq Bl (sq Bm (.region Bn)))) (.region Bo)))
def nr:Rg:=[iM 39 6,iM 40 6,iK 41 138 40,iA 42 (.slice 1 (Tm 39) none (some (Tm 41)) none),iM 43 7,iA 44 (.conv .u32 (Tm 43)),iM 4 42,iM 5 44]
def FJ:aC:=(sq Bg (sq Bh (sq Bi (.seq (sq Bj (.block 0 (.loop Bf))) (sq nr .ret)))))
def aqM:List Nat:=[]
def Qr:aZ:=⟨2,45,FJ,[.tmp 4,.tmp 5]⟩
def aqQ:Rg:=[iZ 4]
def aqR:Rg:=[iM 9 0,iN 10 9,iC 11 .add 10 1,iA 12 (.aTK 1 4 [(.int .u32 0)] (Tm 11) (Tm 11)),iM 5 12]
def aqS:Rg:=[iA 6 (.mv (.const (.int .u64 0)))]
def aqT:Rg:=[iM 13 0,iN 14 13,iI 15 0]
def aqU:Rg:=[iB 16 .lss 15 14]
def aqV:Rg:=[iM 17 15,iX 18 1 13 15,iL 19 18,iM 7 17,iM 8 19]
def aqW:Rg:=[iM 20 6,iM 21 8,iA 22 (.conv .u64 (Tm 21)),iM 23 1,iB 24 .shl 22 23,iB 25 .or 20 24,iM 6 25]
def aqX:Rg:=[iM 26 5,iM 27 7,iM 28 6,iA 29 (.conv .u32 (Tm 28)),iX 30 1 26 27,iS 1 30 29]
def aqY:Rg:=[iM 31 6,iA 32 (.bin .shr (Tm 31) (.const (.int .u64 32))),iM 6 32]
def aqZ:Rg:=[iC 33 .add 15 1,iM 15 33]
def acK:aC:=(sq aqU (.seq (.cond (Tm 16) .skip (.exit 0)) (.seq (.block 1 (sq aqV (sq aqW (sq aqX (.region aqY))))) (.region aqZ))))
def acL:Rg:=[iM 34 5,iM 35 0,iN 36 35,iM 37 6,iA 38 (.conv .u32 (Tm 37)),iX 39 1 34 36,iS 1 39 38]
def acM:Rg:=[iM 40 5,iM 4 40]
def dp:aC:=(sq aqQ (sq aqR (sq aqS (.seq (sq aqT (.block 0 (.loop acK))) (sq acL (sq acM .ret))))))
def aKQ:List Nat:=[]
def nup:aZ:=⟨2,41,dp,[.tmp 4]⟩
def mh:Rg:=[iZ 4,iZ 5]
def mi:Rg:=[iM 21 0,iM 22 1,iK2 23 129 21 22,iC 24 .lss 23 0]
def mj:Rg:=[iM 25 0,iK 26 135 25,iZ 4,iM 5 26]
def ml:Rg:=[iM 27 1,iN 28 27,iC 29 .eql 28 1]
def mm:Rg:=[iM 31 0,iM 32 1,iA 33 (.aTT 1 (Tm 32) (Ci 0)),iL 34 33,iK2 35 140 31 34,iM 30 35,iE 36 30 0,iE 37 30 1,iM 6 36,iM 7 37]
def mo:Rg:=[iM 38 6,iM 39 7,iA 40 (.conv .u64 (Tm 39)),iK 41 132 40,iM 4 38,iM 5 41]
def mp:Rg:=[iA 8 (.mv (.const (.int .u64 0)))]
def mq:Rg:=[iM 42 1,iM 43 1,iN 44 43,iC 45 .sub 44 1,iX 46 1 42 45,iL 47 46,iM 48 8,iB 49 .shl 47 48,iA 50 (.bin .lss (Tm 49) (.const (.int .u32 2147483648)))]
def mr:Rg:=[iM 51 8,iA 52 (.bin .add (Tm 51) (.const (.int .u64 1))),iM 8 52]
def mg:aC:=(.seq (sq mq (.cond (Tm 50) .skip (.exit 0))) (.block 1 (.region mr)))
def XW:Rd:=[(iM 53 0,false),(iM 54 8,false),(iK2 55 143 53 54,true),(iM 56 1,true),(iM 57 8,true),(iK2 58 143 56 57,true),(iM 59 1,true),(iN 60 59,true),(iA 61 (.slice 1 (Tm 58) none (some (Tm 60)) none),false),(iM 9 55,false),(iM 10 61,false)]
def XY:Rg:=[iM 62 10,iN 63 62,iM 11 63]
def XZ:Rg:=[iM 64 9,iN 65 64,iM 66 11,iB 67 .sub 65 66,iA 68 (.aTK 1 4 [(.int .u32 0)] (Tm 67) (Tm 67)),iM 12 68]
def YA:Rd:=[(iM 69 10,false),(iM 70 11,false),(iC 71 .sub 70 1,false),(iX 72 1 69 71,false),(iL 73 72,false),(iA 74 (.conv .u64 (Tm 73)),false),(iM 75 10,false),(iM 76 11,false),(iC 77 .sub 76 2,false),(iX 78 1 75 77,false),(iL 79 78,false),(iA 80 (.conv .u64 (Tm 79)),false),(iM 13 74,false),(iM 14 80,false)]
def YB:Rg:=[iM 81 12,iN 82 81,iC 83 .sub 82 1,iM 15 83]
def YC:Rg:=[iM 84 15,iC 85 .geq 84 0]
def EW:Rd:=[(iM 88 9,false),(iM 89 15,false),(iM 90 11,false),(iB 91 .add 89 90,false),(iX 92 1 88 91,false),(iL 93 92,false),(iA 94 (.conv .u64 (Tm 93)),false),(iA 95 (.bin .shl (Tm 94) (.const (.int .u64 32))),false),(iM 96 9,false),(iM 97 15,false),(iM 98 11,false),(iB 99 .add 97 98,false),(iC 100 .sub 99 1,false),(iX 101 1 96 100,false),(iL 102 101,false),(iA 103 (.conv .u64 (Tm 102)),false),(iB 104 .or 95 103,false),(iM 16 104,false)]
def EX:Rd:=[(iM 105 16,false),(iM 106 13,false),(iB 107 .quo 105 106,false),(iM 108 16,false),(iM 109 13,false),(iB 110 .rem 108 109,false),(iM 17 107,false),(iM 18 110,false)]
def YD:Rg:=[iM 111 17,iA 112 (.bin .geq (Tm 111) (.const (.int .u64 4294967296))),iM 113 112,gM 114 17 113 false,gM 115 14 113 false,gB 116 .mul 114 115 113 false,gM 117 18 113 false,iG 118 (.bin .shl (Tm 117) (.const (.int .u64 32))) 113 false,gM 119 9 113 false,gM 120 15 113 false,gM 121 11 113 false,gB 122 .add 120 121 113 false,gC 123 .sub 122 2 113 false,iG 124 (.aTT 1 (Tm 119) (Tm 123)) 113 false,gL 125 124 113 false,iG 126 (.conv .u64 (Tm 125)) 113 false,gB 127 .or 118 126 113 false,gB 128 .gtr 116 127 113 false,iQ 129 113 128]
def EY:Rg:=[iM 130 17,iA 131 (.bin .sub (Tm 130) (.const (.int .u64 1))),iM 17 131]
def EZ:Rg:=[iM 132 18,iM 133 13,iB 134 .add 132 133,iM 18 134]
def FA:Rg:=[iM 135 18,iA 136 (.bin .geq (Tm 135) (.const (.int .u64 4294967296)))]
def wG:aC:=(.seq (sq YD (.cond (Tm 129) .skip (.exit 4))) (.block 5 (sq EY (sq EZ (sq FA (.cond (Tm 136) (.exit 4) .skip))))))
def FB:Rg:=[iM 137 9,iM 138 15,iM 139 15,iM 140 11,iB 141 .add 139 140,iC 142 .add 141 1,iA 143 (.slice 1 (Tm 137) (some (Tm 138)) (some (Tm 142)) none),iM 144 10,iM 145 17,iA 146 (.call 142 [(Tm 143),(Tm 144),(Tm 145)])]
def FC:Rg:=[iM 147 17,iA 148 (.bin .sub (Tm 147) (.const (.int .u64 1))),iM 17 148]
def FD:Rg:=[iM 149 9,iM 150 15,iM 151 15,iM 152 11,iB 153 .add 151 152,iC 154 .add 153 1,iA 155 (.slice 1 (Tm 149) (some (Tm 150)) (some (Tm 154)) none),iM 156 10,iK2 157 139 155 156]
def wH:Rg:=[iM 158 12,iM 159 15,iM 160 17,iA 161 (.conv .u32 (Tm 160)),iX 162 1 158 159,iS 1 162 161]
def YE:Rg:=[iM 86 15,iC 87 .sub 86 1,iM 15 87]
def EU:aC:=(.seq (sq YC (.cond (Tm 85) .skip (.exit 2))) (.seq (.block 3 (dq EW (dq EX (.seq (.block 4 (.loop wG)) (.seq (sq FB (.cond (Tm 146) (sq FC (.region FD)) .skip)) (.region wH)))))) (.region YE)))
def FF:Rg:=[iM 163 11,iA 164 (.aTK 1 4 [(.int .u32 0)] (Tm 163) (Tm 163)),iM 19 164]
def FG:Rg:=[iM 165 19,iN 166 165,iI 167 0]
def YF:Rg:=[iB 168 .lss 167 166]
def YG:Rg:=[iM 169 167,iM 20 169]
def YH:Rd:=[(iM 170 19,false),(iM 171 20,false),(iM 172 9,false),(iM 173 20,false),(iC 174 .add 173 1,false),(iX 175 1 172 174,false),(iL 176 175,false),(iA 177 (.conv .u64 (Tm 176)),false),(iA 178 (.bin .shl (Tm 177) (.const (.int .u64 32))),false),(iM 179 9,false),(iM 180 20,false),(iX 181 1 179 180,false),(iL 182 181,false),(iA 183 (.conv .u64 (Tm 182)),false),(iB 184 .or 178 183,false),(iM 185 8,false),(iB 186 .shr 184 185,false),(iA 187 (.conv .u32 (Tm 186)),false),(iX 188 1 170 171,false),(iS 1 188 187,true)]
def YI:Rg:=[iC 189 .add 167 1,iM 167 189]
def EV:aC:=(sq YF (.seq (.cond (Tm 168) .skip (.exit 6)) (.seq (.block 7 (sq YG (.draw YH))) (.region YI))))
def YJ:Rd:=[(iM 190 12,true),(iM 191 12,false),(iK 192 138 191,true),(iA 193 (.slice 1 (Tm 190) none (some (Tm 192)) none),true),(iM 194 19,true),(iM 195 19,true),(iK 196 138 195,true),(iA 197 (.slice 1 (Tm 194) none (some (Tm 196)) none),false),(iM 4 193,false),(iM 5 197,false)]
def BB:aC:=(sq mh (.seq (sq mi (.cond (Tm 24) (sq mj .ret) .skip)) (.seq (sq ml (.cond (Tm 29) (sq mm (sq mo .ret)) .skip)) (sq mp (.seq (.block 0 (.loop mg)) (dq XW (sq XY (sq XZ (dq YA (.seq (sq YB (.block 2 (.loop EU))) (sq FF (.seq (sq FG (.block 6 (.loop EV))) (dq YJ .ret)))))))))))))
def akP:List Nat:=[]
def u9:aZ:=⟨2,198,BB,[.tmp 4,.tmp 5]⟩
def TH:Rg:=[iT 6 false]
def TI:Rg:=[iA 7 (.mv (.const (.int .u64 0))),iA 8 (.mv (.const (.int .u64 0)))]
def TJ:Rg:=[iM 13 1,iN 14 13,iI 15 0]
def TK:Rg:=[iB 16 .lss 15 14]
def TL:Rg:=[iM 17 15,iX 18 1 13 15,iL 19 18,iM 9 17,iM 10 19]
def TM:Rg:=[iM 20 7,iM 21 2,iM 22 10,iA 23 (.conv .u64 (Tm 22)),iB 24 .mul 21 23,iB 25 .add 20 24,iM 7 25]
def TN:Rg:=[iM 26 0,iM 27 9,iX 28 1 26 27,iL 29 28,iA 30 (.conv .u64 (Tm 29)),iM 31 7,iA 32 (.bin .and (Tm 31) (.const (.int .u64 4294967295))),iB 33 .sub 30 32,iM 34 8,iB 35 .sub 33 34,iM 11 35]
def TO:Rg:=[iM 36 0,iM 37 9,iM 38 11,iA 39 (.conv .u32 (Tm 38)),iX 40 1 36 37,iS 1 40 39]
def TP:Rg:=[iM 41 11,iA 42 (.bin .shr (Tm 41) (.const (.int .u64 63))),iM 8 42]
def TQ:Rg:=[iM 43 7,iA 44 (.bin .shr (Tm 43) (.const (.int .u64 32))),iM 7 44]
def QE:Rg:=[iC 45 .add 15 1,iM 15 45]
def QD:aC:=(sq TK (.seq (.cond (Tm 16) .skip (.exit 0)) (.seq (.block 1 (sq TL (sq TM (sq TN (sq TO (sq TP (.region TQ))))))) (.region QE))))
def QF:Rg:=[iM 46 0,iM 47 1,iN 48 47,iX 49 1 46 48,iL 50 49,iA 51 (.conv .u64 (Tm 50)),iM 52 7,iB 53 .sub 51 52,iM 54 8,iB 55 .sub 53 54,iM 12 55]
def QG:Rg:=[iM 56 0,iM 57 1,iN 58 57,iM 59 12,iA 60 (.conv .u32 (Tm 59)),iX 61 1 56 58,iS 1 61 60]
def QH:Rg:=[iM 62 12,iA 63 (.bin .shr (Tm 62) (.const (.int .u64 63))),iA 64 (.bin .eql (Tm 63) (.const (.int .u64 1))),iM 6 64]
def vK:aC:=(sq TH (sq TI (.seq (sq TJ (.block 0 (.loop QD))) (sq QF (sq QG (sq QH .ret))))))
def Qz:List Nat:=[]
def TG:aZ:=⟨3,65,vK,[.tmp 6]⟩
def YL:Rg:=[iA 4 (.mv (.const (.int .u64 0)))]
def YM:Rg:=[iM 7 1,iN 8 7,iI 9 0]
def YN:Rg:=[iB 10 .lss 9 8]
def YO:Rg:=[iM 11 9,iX 12 1 7 9,iL 13 12,iM 5 11,iM 6 13]
def YP:Rg:=[iM 14 4,iM 15 0,iM 16 5,iX 17 1 15 16,iL 18 17,iA 19 (.conv .u64 (Tm 18)),iM 20 6,iA 21 (.conv .u64 (Tm 20)),iB 22 .add 19 21,iB 23 .add 14 22,iM 4 23]
def YQ:Rg:=[iM 24 0,iM 25 5,iM 26 4,iA 27 (.conv .u32 (Tm 26)),iX 28 1 24 25,iS 1 28 27]
def YR:Rg:=[iM 29 4,iA 30 (.bin .shr (Tm 29) (.const (.int .u64 32))),iM 4 30]
def YS:Rg:=[iC 31 .add 9 1,iM 9 31]
def YK:aC:=(sq YN (.seq (.cond (Tm 10) .skip (.exit 0)) (.seq (.block 1 (sq YO (sq YP (sq YQ (.region YR))))) (.region YS))))
def YT:Rg:=[iM 32 0,iM 33 1,iN 34 33,iX 35 1 32 34,iL 36 35,iM 37 4,iA 38 (.conv .u32 (Tm 37)),iB 39 .add 36 38,iX 40 1 32 34,iS 1 40 39]
def xO:aC:=(sq YL (.seq (sq YM (.block 0 (.loop YK))) (.region YT)))
def Wz:List Nat:=[]
def dg:aZ:=⟨2,41,xO,[]⟩
open Go Go.RowKit Go.ChangeShapes Go.WideShapes
inductive AT where
 | one (ct:CT)
 | struct (cts:List CT)
 deriving Inhabited
def ahB (P:Program) (n:Nat) (t:TypeId):Option AT :=
 match P.underlying t with
 | some .bool=>some (.one .bool)
 | some (.int k)=>some (.one (.int k))
 | some .string=>some (.one .str)
 | some (.slice _)=>match gU P n t with
  | some [ct]=>some (.one ct)
  | _=>none
 | some (.struct _)=>(gU P n t).map .struct
 | _=>none
def HF (P:Program) (n:Nat):List TypeId→Option (List AT)
 | []=>some []
 | t::ts=>match ahB P n t,HF P n ts with
  | some a,some c=>some (a::c)
  | _,_=>none
inductive AT.Ty:AT→PV→Prop
 | one {ct:CT} {pv:PV} (h:PV.Ty ct pv):AT.Ty (.one ct) pv
 | struct {cts:List CT} {pvs:List PV} (hl:pvs.length=cts.length) (h:∀ (j:Nat) pv ct,pvs[j]?=some pv→cts[j]?=some ct→PV.Ty ct pv):AT.Ty (.struct cts) (.agg pvs)
def AT.TyL:List AT→List PV→Prop
 | [],[]=>True
 | a::c,p::ps=>AT.Ty a p∧AT.TyL c ps
 | _,_=>False
section
variable {H:Type} {enc:TypeId × Value→H} {P:Program} {W:World} {sp:Nat→Bool} {held:Bool}
theorem aJV {r:Reach} {base:Nat} (num:Nat→FuncId) {t:TypeId} {v:Value} {d:DataW H} {ps:List MemPlace} {n:Nat} {a:AT}
  (c:Value.okWide P W r base t v) (w:DataW.Trod enc P W 0 sp held t v d ps) (l:ahB P n t=some a):∃ pv,aY (Env.of W num) pv v∧AT.Ty a pv:=by
 unfold ahB at l;cases n with
 | zero =>
  split at l
  ·rename_i i;cases l;obtain⟨b,rfl⟩:=okWide_bool i c;obtain⟨pv,p,u⟩:=uW (n:=1) (ct:=.bool) num (by simp[Value.cells]) w (by simp[gU,i]);exact⟨pv,p,.one u⟩
  ·rename_i k i;cases l;obtain⟨b,rfl⟩:=okWide_int i c;obtain⟨pv,p,u⟩:=uW (n:=1) (ct:=.int k) num (by simp[Value.cells]) w (by simp[gU,i]);exact⟨pv,p,.one u⟩
  ·rename_i i;cases l;obtain⟨b,rfl⟩:=okWide_string i c;obtain⟨pv,p,u⟩:=uW (n:=1) (ct:=.str) num (by simp[Value.cells]) w (by simp[gU,i]);exact⟨pv,p,.one u⟩
  ·simp[gU] at l
  ·simp[gU] at l
  ·cases l
 | succ n =>
  split at l
  ·rename_i i;cases l;obtain⟨b,rfl⟩:=okWide_bool i c;obtain⟨pv,p,u⟩:=uW (n:=n+1) (ct:=.bool) num (by simp[Value.cells]) w (by simp[gU,i]);exact⟨pv,p,.one u⟩
  ·rename_i k i;cases l;obtain⟨b,rfl⟩:=okWide_int i c;obtain⟨pv,p,u⟩:=uW (n:=n+1) (ct:=.int k) num (by simp[Value.cells]) w (by simp[gU,i]);exact⟨pv,p,.one u⟩
  ·rename_i i;cases l;obtain⟨b,rfl⟩:=okWide_string i c;obtain⟨pv,p,u⟩:=uW (n:=n+1) (ct:=.str) num (by simp[Value.cells]) w (by simp[gU,i]);exact⟨pv,p,.one u⟩
  ·rename_i e i;split at l
   ·rename_i ct y;cases l;obtain⟨x,len,cap,rfl⟩:=okWide_slice i c;obtain⟨pv,p,u⟩:=uW num (by simp[Value.cells]) w y;exact⟨pv,p,.one u⟩
   ·cases l
  ·rename_i E i;rw[aUZ] at l;obtain⟨cts,y,rfl⟩:=l;obtain⟨B,p,u,A⟩:=ahC num i c w y;exact⟨_,p,.struct u A⟩
  ·cases l
theorem Xo {r:Reach} {base:Nat} (num:Nat→FuncId) {n:Nat}:∀ {ts:List TypeId} {vs:List Value} {ds:List (DataW H)} {ps:List MemPlace} {e:List AT},DataW.TrodAll enc P W 0 sp held ts vs ds ps →
  (∀ (j:Nat) t v,ts[j]?=some t→vs[j]?=some v→Value.okWide P W r base t v)→HF P n ts=some e→∃ c,eO (Env.of W num) c vs∧AT.TyL e c
 | [],[],_,_,e,_,_,h=>by simp[HF] at h;subst h;exact⟨[],.nil,trivial⟩
 | [],_::_,_,_,_,h,_,_=>h.elim
 | _::_,[],[],_,_,h,_,_=>h.elim
 | _::_,[],_::_,_,_,h,_,_=>h.elim
 | _::_,_::_,[],_,_,h,_,_=>h.elim
 | t::ts,v::vs,d::ds,ps,e,h,l,i=>by
  obtain⟨p,q,y,A,rfl⟩:=h;simp only[HF] at i;split at i
  ·rename_i a u w x;cases i;obtain⟨pv,r1,B⟩:=aJV num (l 0 t v rfl rfl) y w;obtain⟨c,r2,E⟩:=Xo num A (fun j t v a b=>l (j+1) t v (by simpa using a) (by simpa using b)) x;exact⟨pv::c,.cons r1 r2,B,E⟩
  ·cases i
theorem TrodAll.length:∀ {ts:List TypeId} {vs:List Value} {ds:List (DataW H)} {ps:List MemPlace},DataW.TrodAll enc P W 0 sp held ts vs ds ps→ds.length=ts.length
 | [],[],[],_,_=>rfl
 | [],[],_::_,_,h=>h.elim
 | [],_::_,_,_,h=>h.elim
 | _::_,[],[],_,h=>h.elim
 | _::_,[],_::_,_,h=>h.elim
 | _::_,_::_,[],_,h=>h.elim
 | t::ts,v::vs,d::ds,ps,h=>by obtain⟨p,q,e,c,rfl⟩:=h;simp[TrodAll.length c]
end
theorem Iz {H:Type} {enc:TypeId × Value→H} {P:Program} {f:FuncId} {fn:Func} {s:ChangeSpec} {apart fresh c:Bool} {bt:TypeId} {num:Nat→FuncId} {name n:Nat} {ats:List AT}
  (S:laidOutB P=true) (F:fn.params.toList.all (fun t=>P.readableRec t&&decide (t<P.types.size))=true) (B:fn.resultTypes=#[bt]) (A:P.underlying bt=some .bool) (M:s.vars=[])
  (V:∀ ds:List (DataW H),ds.length=fn.params.toList.length→(s.fn H ds).results=[.lit (.bool true)]∧(s.fn H ds).args=ds∧(s.fn H ds).vars=[])
  (u:num name=f) (O:HF P n fn.params.toList=some ats) (h:∀ i,AT.TyL ats i→aH ⟨P,num⟩ name i PH.nil (aI (.bool true)))
  {W:World} {base:Nat} {args:Array Value} {ds N:List (DataW H)} {d:List MemPlace}
  (x:∀ (j:Nat) t v,fn.params[j]?=some t→args[j]?=some v→Value.okWide P W .any base t v) (hW:DataW.Whole enc P fn.params.toList s.vars apart W args.toList ds N d) :
  Calls P f args W fun e J=>∃ v,e=.returned v∧s.post enc P fn apart fresh c false W args v J:=by
 have w:∀ t∈fn.params.toList,P.readableRec t=true∧t<P.types.size:=fun t E=>by have:=aVD.1 F t E;simpa using this
 have y:=hW;obtain⟨p,q,K,hV,rfl,Y,X⟩:=hW;rw[M] at hV;obtain⟨rfl,rfl⟩:=trodVars_none hV;obtain⟨i,U,E⟩:=Xo num K (fun j t v a b=>x j t v (by simpa using a) (by simpa using b)) O;have l:=TrodAll.length K;subst u;obtain⟨r1,r2,r3⟩:=V (ds++[]) (by simpa using l);refine (apL (C:=⟨P,num⟩) (h i E) U).mono fun e J R=>?_;obtain⟨rfl,Q⟩:=R;exact⟨_,rfl,arJ S y Q w B A M r1 (by rw[r2]; simp) r3⟩
attribute [go_sem] qK hC setCells PV.cells PV.one cE storeAt dD loadCells dX bnd PV.slice PV.intOf PV.eqs PV.eq1 PV.un keyOf KS.of KS.ofs KS.sh List.all_cons List.all_nil aYB List.set_cons_succ aVA aWQ aUV aWB aVD Bool.and_self
attribute [go_sem] Bool.bne_false Bool.bne_true Int.le_refl Int.lt_irrefl decide_true decide_false exists_eq_left exists_eq_left' aUN List.length_replicate aWK Int.natCast_nonneg Option.isSome_some Option.isSome_none aXH Option.getD_none decide_eq_true_eq decide_eq_false_iff_not aVH aWY aUU Nat.sub_zero
def aW (xs:List Int):List (List PV):=xs.map fun n=>[.int .i64 n]
theorem bG {a b:Int} (h:a≠b):(a==b)=false:=by simp[h]
theorem bP {a b:Int} (h:a=b):(a==b)=true:=by simp[h]
theorem dO {a b:Int} (h:a≠b):(a != b)=true:=by simp[h]
theorem cA {a b:Int} (h:a=b):(a != b)=false:=by simp[h]
section
variable {H:PH}
@[go_sem] theorem PH.set_set (o:Nat) (x y:cB):(H.set o x).set o y=H.set o y:=PH.ext fun q=>by
 simp only[aN]; split<;>rfl
@[go_sem] theorem cO (o:Nat) (x:cB):(H.set o x) o=some x:=by simp only[aN,if_true]
end
section
variable {C:Ctx} {K:bR} {F:PF} {H:PH}
theorem PH.nP (o:Nat) (x:cB):H.over .nil (PH.nil.set o x)=H.set o x:=PH.ext fun q=>by
 rw[hM]; simp only[aN,WJ]; split<;>simp_all
theorem PH.uB (o:Nat) (x y:cB):H.over (PH.nil.set o x) (PH.nil.set o y)=H.set o y:=PH.ext fun q=>by
 rw[hM]; simp only[aN,WJ]; split<;>simp_all
theorem kI {name:Nat} {vs:List PV} {c:PH} {R:PV→PH→Prop} {args:List aQ} {d:Option Nat} {K:PF→PH→Prop} (h:aH C name vs c R) (i:aQ.evs F args=some vs) (e:c.le H)
  (l:∀ r H',R r H'→mM H c H'→K (F.put d r) (H.over c H')):iU C name args [] d K F H :=
 .inl ⟨vs,c,R,by rw[i]; simp,e,h,l⟩
theorem aX {res:List eA} {R:PV→PH→Prop} {vs:List PV} {e:mC} (x:e=.normal∨e=.ret) (c:PH) (h:eA.evs F H res=some vs) (d:c.le H) (w:R (bQ vs) c):aU res R e F H:=by
 have i:∃ vs,eA.evs F H res=some vs∧∃ l p H2,jM (PF.nil.set 0 (bQ vs)) H l p∧H2.le p∧∃ u,l 0=some u∧R u H2 :=
  ⟨vs,h,_,H,c,.refl _ _,d,bQ vs,by rw[kY,if_pos rfl],w⟩
 rcases x with rfl | rfl<;>exact i
theorem d6 {t o s k:Nat} {rs:List (List PV)} {R:PV→PH→Prop} {e:mC} (p:e=.normal∨e=.ret) (h:F t=some (.osl o s 0 k)) (w:H o=some (.rows s rs)) (x:k≤rs.length) (l:R (.sl s (rs.take k)) .nil) :
  aU [.tmp t] R e F H:=by
 have c:∃ vs,eA.evs F H [.tmp t]=some vs∧∃ d i H2,jM (PF.nil.set 0 (bQ vs)) H d i∧H2.le i∧∃ u,d 0=some u∧R u H2:=by refine⟨[.osl o s 0 k],by rw[kV,nS,h,oZ],_,_,.nil,.step o w (.refl _ _),a_,.sl s (rs.take k),?_,l⟩;have:0+k≤rs.length:=Om;simp only[PF.frz,kY,if_true,bQ,aWC,PV.frz,PV.tQ,PV.dH,true_and,if_pos this,aVY]
 rcases p with rfl | rfl<;>exact c
def bX (v:PV) (r:PV) (H:PH):Prop:=Co r v∧H=PH.nil
theorem aH.aLA {name:Nat} {args:List PV} {H:PH} {v:PV} (h:aH C name args H (bX v)):aH C name args H (aI v) :=
 h.post fun r H' ⟨c,d⟩=>⟨v,c,rfl,d⟩
theorem aI.aLA {v r:PV} {H:PH} (h:aI v r H):bX v r H:=by
 obtain⟨rfl,rfl⟩:=h;exact⟨.refl _,rfl⟩
theorem uO {s b:Nat} {y:PV} {src:List (List PV)} {K:PV→PH→Prop} (i:dX H s y=some src) (e:roomFor 0 src.length b) (c:src=[]→K .aB H)
  (d:src≠[]→∀ o,H o=none→K (.osl o s 0 src.length) (H.set o (.rows s src))):mB H s b .aB y K:=⟨src,i,e,c,d⟩
theorem Vu {o s b len:Nat} {rs:List (List PV)} {y:PV} {src:List (List PV)} {K:PV→PH→Prop} (p:dX H s y=some src) (l:roomFor len src.length b) (i:H o=some (.rows s rs)) (e:len≤rs.length)
  (c:K (.osl o s 0 (len+src.length)) (H.set o (.rows s (rs.take len++src))))
  (d:∀ o',H o'=none→K (.osl o' s 0 (len+src.length)) (H.set o' (.rows s (rs.take len++src)))):mB H s b (.osl o s 0 len) y K :=
 ⟨src,p,rfl,rfl,l,rs,i,e,c,d⟩
end
def bE (H:PH) (s:Nat) (v:PV) (rows:List (List PV)):Prop :=
 (rows=[]∧v=.aB)∨∃ q rs,v=.osl q s 0 rows.length∧H q=some (.rows s rs)∧rows.length≤rs.length∧rs.take rows.length=rows
def Seen (s:Nat) (v:PV) (rows:List (List PV)):Prop:=(rows=[]∧v=.aB)∨v=.sl s rows
section
variable {C:Ctx} {K:bR} {F:PF} {H:PH} {s b:Nat} {v y:PV} {rows src:List (List PV)}
theorem bE.nil:bE H s .aB []:=.inl ⟨rfl,rfl⟩
theorem bE.view (h:bE H s v rows):dX H s v=some rows:=by
 rcases h with ⟨rfl,rfl⟩ | ⟨q,rs,rfl,h1,h2,h3⟩
 ·rfl
 ·have:0+rows.length≤rs.length:=Om;simp only[dX,if_true,h1,true_and,if_pos this,aVY,h3]
theorem Seen.view (h:Seen s v rows):dX H s v=some rows:=by
 rcases h with ⟨rfl,rfl⟩ | rfl
 ·rfl
 ·simp[dX]
theorem bE.ext {H':PH} (h:bE H s v rows) (c:∀ o x,H o=some x→H' o=some x):bE H' s v rows:=by
 rcases h with h | ⟨q,rs,h0,h1,h2,h3⟩
 ·exact .inl h
 ·exact .inr ⟨q,rs,h0,c q _ h1,h2,h3⟩
theorem iD {K:PV→PH→Prop} (h:bE H s v rows) (A:dX H s y=some src) (w:roomFor rows.length src.length b)
  (u:∀ v' H',bE H' s v' (rows++src)→(∀ o x,H o=some x→(∀ l,v≠.osl o s 0 l)→H' o=some x)→K v' H'):mB H s b v y K:=by
 rcases h with ⟨rfl,rfl⟩ | ⟨q,rs,rfl,h1,h2,h3⟩
 ·refine⟨src,A,w,fun e=>?_,fun e o p=>?_⟩
  ·subst e;exact u _ _ (.inl ⟨rfl,rfl⟩) fun o x p _=>p
  ·refine u _ _ (.inr ⟨o,src,rfl,by simp only[aN,if_true],aUU _,by simp⟩) fun o' x c _=>?_;have:o'≠o:=by rintro rfl; rw[p] at c; cases c
   simp only[aN,if_neg this,c]
 ·have d:(rows++src).length=rows.length+src.length:=aUS;refine⟨src,A,rfl,rfl,w,rs,h1,h2,?_,fun o p=>?_⟩
  ·rw[h3];refine u _ _ (.inr ⟨q,rows++src,by rw[d],by simp only[aN,if_true],aUU _,aVP⟩) fun o' x c i=>?_;have:o'≠q:=by rintro rfl; exact i _ rfl
   simp only[aN,if_neg this,c]
  ·rw[h3];refine u _ _ (.inr ⟨o,rows++src,by rw[d],by simp only[aN,if_true],aUU _,aVP⟩) fun o' x c i=>?_;have B:o'≠o:=by rintro rfl; rw[p] at c; cases c
   simp only[aN,if_neg B,c]
def Pure (u:PV):Prop:=∀ q s rs,PV.frz q s rs u=u
theorem bE.frz (h:bE H s v rows):∃ d,Seen s d rows∧∀ F:PF,∃ c e,jM F H c e∧(∀ t,F t=some v→c t=some d)∧∀ i u,F i=some u→Pure u→c i=some u:=by
 rcases h with ⟨rfl,rfl⟩ | ⟨q,rs,rfl,h1,h2,h3⟩
 ·exact⟨.aB,.inl ⟨rfl,rfl⟩,fun F=>⟨F,H,.refl _ _,fun t h=>h,fun i u h _=>h⟩⟩
 ·refine⟨.sl s rows,.inr rfl,fun F=>⟨_,_,.step q h1 (.refl _ _),fun t p=>?_,fun i u hi l=>?_⟩⟩
  ·have:0+rows.length≤rs.length:=Om;simp only[PF.frz,p,aWC,PV.frz,PV.tQ,PV.dH,if_true,true_and,if_pos this,aVY,h3]
  ·simp only[PF.frz,hi,aWC];rw[l]
theorem qX {t:Nat} {e:mC} (c:e=.normal∨e=.ret) (h:bE H s v rows) (d:F t=some v):aU [.tmp t] (bX (.sl s rows)) e F H:=by
 rcases h with ⟨rfl,rfl⟩ | ⟨q,rs,rfl,h1,h2,h3⟩
 ·exact aX (vs:=[.aB]) c .nil (by rw[kV,nS,d,oZ]) a_ ⟨.nil s,rfl⟩
 ·exact d6 c d h1 h2 ⟨by rw[h3]; exact .refl _,rfl⟩
end
end Go.PM
namespace Go.PM
open Go
section
variable {C:Ctx} {F:PF} {H:PH}
@[go_sem] theorem rL (o s:Nat) (rs:List (List PV)) (i:Nat):(F.frz o s rs) i=(F i).map (PV.frz o s rs):=(rfl)
theorem rB {name t o s k:Nat} {rs:List (List PV)} {v:PV} {d:Option Nat} {K:PF→PH→Prop} (h:aH C name [.sl s (rs.take k)] .nil (aI v)) (i:F t=some (.osl o s 0 k)) (e:H o=some (.rows s rs)) (l:k≤rs.length)
  (c:K ((F.frz o s rs).put d v) (H.frz o s rs)):iU C name [.tmp t] [] d K F H:=by
 refine .inr ⟨_,_,.step o e (.refl _ _),[.sl s (rs.take k)],.nil,aI v,?_,a_,h,?_⟩
 ·have:0+k≤rs.length:=Om;simp only[AM,WD,jl,rL,i,aWC,PV.frz,PV.tQ,PV.dH,if_true,true_and,if_pos this,aVY,aWF]
 ·rintro r H' ⟨rfl,rfl⟩ -;rw[PH.BC];exact c
end
end Go.PM
namespace Go.Na
def val:List Nat→Nat
 | []=>0
 | x::xs=>x+4294967296*val xs
def Lim (xs:List Nat):Prop:=∀ x∈xs,x<4294967296
def aJ (n:Nat):List Nat:=if h:n=0 then [] else (n%4294967296)::aJ (n/4294967296)
termination_by n
decreasing_by exact Nat.div_lt_self (aXB h) (by decide)
def nl (n:Nat):Nat:=(aJ n).length
theorem fR:aJ 0=[]:=by rw[aJ]; simp
theorem sS {n:Nat} (h:n≠0):aJ n=(n%4294967296)::aJ (n/4294967296):=by rw[aJ]; simp[h]
theorem oW {n:Nat} (h:n≠0) (c:n<4294967296):aJ n=[n]:=by
 rw[sS h,aWA c,aYD c,fR]
theorem aT (n:Nat):val (aJ n)=n:=by
 induction n using Nat.strongRecOn with
 | _ n c =>
  by_cases h:n=0
  ·subst h; rw[fR]; rfl
  ·rw[sS h,val,c _ (Nat.div_lt_self (aXB h) (by decide))];exact Nat.mod_add_div n 4294967296
theorem aV (n:Nat):Lim (aJ n):=by
 induction n using Nat.strongRecOn with
 | _ n c =>
  by_cases h:n=0
  ·subst h; rw[fR]; intro x hx; cases hx
  ·rw[sS h];intro x hx;rw[aVC] at hx;rcases hx with rfl | hx
   ·exact aWJ _ (by decide)
   ·exact c _ (Nat.div_lt_self (aXB h) (by decide)) x hx
theorem zT:nl 0=0:=by rw[nl,fR]; rfl
theorem aqH {n:Nat} (h:n≠0):nl n=nl (n/4294967296)+1:=by rw[nl,sS h]; rfl
theorem jI (n k:Nat):nl n≤k↔n<4294967296 ^ k:=by
 induction k generalizing n with
 | zero =>
  by_cases h:n=0
  ·subst h; simp[zT]
  ·rw[aqH h]; simp; omega
 | succ k c =>
  by_cases h:n=0
  ·subst h; simp[zT,aXK]
  ·rw[aqH h,Nat.succ_le_succ_iff,c,aWL,aXP (by decide)]
theorem iY {n:Nat}:nl n=0↔n=0:=by
 have:=jI n 0;simp at this;exact this
theorem gI (xs ys:List Nat):val (xs++ys)=val xs+4294967296 ^ xs.length*val ys:=by
 induction xs with
 | nil=>simp[val]
 | cons x xs c =>simp only[List.cons_append,val,aWH,c,aWL];rw[aVF,aWX,← aVO,aVR 4294967296 (4294967296 ^ xs.length)]
theorem fG {xs:List Nat} (h:Lim xs):val xs<4294967296 ^ xs.length:=by
 induction xs with
 | nil=>simp[val]
 | cons x xs e =>have i:=h x (by simp);have c:=e fun y d=>h y (by simp[d]);simp only[val,aWH,aWL];have:4294967296*(val xs+1)≤4294967296*4294967296 ^ xs.length:=aXA _ c;rw[aVF,Nat.mul_one] at this;rw[aVR (4294967296 ^ xs.length)];omega
theorem Lim.app {xs ys:List Nat} (h:Lim xs) (k:Lim ys):Lim (xs++ys):=fun x c=>by
 rw[aWI] at c;exact c.elim (h x) (k x)
theorem Lim.take {xs:List Nat} (h:Lim xs) (n:Nat):Lim (xs.take n):=fun x c=>h x (List.mem_of_mem_take c)
theorem Lim.drop {xs:List Nat} (h:Lim xs) (n:Nat):Lim (xs.drop n):=fun x c=>h x (List.mem_of_mem_drop c)
theorem Lim.set {xs:List Nat} (h:Lim xs) (i:Nat) {v:Nat} (c:v<4294967296):Lim (xs.set i v):=fun x d=>by
 rcases List.mem_or_eq_of_mem_set d with h1 | h1
 ·exact h x h1
 ·subst h1; exact c
theorem xA (n:Nat):Lim (aUR n 0):=fun x c=>by
 rw[List.mem_replicate] at c; rw[c.2]; decide
theorem tA (n:Nat):val (aUR n 0)=0:=by
 induction n with
 | zero=>rfl
 | succ n c=>simp[List.replicate_succ,val,c]
theorem apP {xs:List Nat} (h:Lim xs) (p:∀ x,xs.getLast?=some x→x≠0):aJ (val xs)=xs:=by
 induction xs with
 | nil=>simp[val,fR]
 | cons x xs F =>
  have i:=h x (by simp);have l:Lim xs:=fun y B=>h y (by simp[B]);cases xs with
  | nil =>have:=p x (by simp);simp only[val,Nat.mul_zero,aWY];exact oW this i
  | cons y ys =>
   have c:=F l fun z E=>p z (by rw[List.getLast?_cons_cons]; exact E);have A:val (y::ys)≠0:=fun e=>by rw[e,fR] at c; cases c
   have d:x+4294967296*val (y::ys)≠0:=by have:0<4294967296*val (y::ys):=Nat.mul_pos (by decide) (aXB A);omega
   show aJ (x+4294967296*val (y::ys))=_;rw[sS d];have u:(x+4294967296*val (y::ys))%4294967296=x:=by rw[Nat.add_mul_mod_self_left,aWA i]
   have w:(x+4294967296*val (y::ys))/4294967296=val (y::ys):=by rw[Nat.add_mul_div_left _ _ (by decide),aYD i,aVH]
   rw[u,w,c]
theorem U2 {xs:List Nat} {n:Nat} (h:∀ j x,n≤j→xs[j]?=some x→x=0):val (xs.take n)=val xs:=by
 have e:xs.drop n=aUR (xs.drop n).length 0:=by apply aXE (by simp);intro i c d;rw[List.getElem_replicate,List.getElem_drop];exact h (n+i) _ Om (aVB _)
 conv=>rhs; rw[← aXG n xs,gI,e,tA]
 simp
theorem NP {xs:List Nat} (l:Lim xs) {n:Nat} (i:n≤xs.length) (h:∀ j x,n≤j→xs[j]?=some x→x=0) (d:∀ x,0<n→xs[n-1]?=some x→x≠0):xs.take n=aJ (val xs):=by
 rw[← U2 h,apP (l.take n)];intro x c;rw[List.getLast?_eq_getElem?,aVJ,aWW i] at c;rcases aWZ n with e | e
 ·subst e; simp at c
 ·rw[List.getElem?_take_of_lt Om] at c;exact d x e c
theorem adB {xs:List Nat} (e:Lim xs) {n:Nat} (d:n≤xs.length) (h:∀ j x,n≤j→xs[j]?=some x→x=0) (c:∀ x,0<n→xs[n-1]?=some x→x≠0):nl (val xs)=n:=by
 rw[nl,← NP e d h c,aVJ]; omega
theorem fO {xs:List Nat} (h:Lim xs):nl (val xs)≤xs.length:=(jI _ _).2 (fG h)
theorem kW {xs : List Nat} (h : Lim xs) : xs.take (nl (val xs)) = aJ (val xs) := by
  have hl := fO h;have e : val (xs.take (nl (val xs)) ++ xs.drop (nl (val xs))) = val xs := by rw [aXG]
  rw [gI, aVJ, aWW hl] at e;have h1 := fG (h.take (nl (val xs)));rw [aVJ, aWW hl] at h1;have h2 := (jI (val xs) (nl (val xs))).1 (aUU _);have hd : val (xs.drop (nl (val xs))) = 0 := by
    rcases aWZ (val (xs.drop (nl (val xs)))) with h | h
    · exact h
    · have := aXA (4294967296 ^ nl (val xs)) h
      omega
  have hz : ∀ j x, nl (val xs) ≤ j → xs[j]? = some x → x = 0 := by
    have zero : ∀ ys : List Nat, val ys = 0 → ∀ y ∈ ys, y = 0 := by
      intro ys
      induction ys with
      | nil => intro _ y hy; cases hy
      | cons z zs ih =>
        intro hv y hy;simp only [val] at hv;rw [aVC] at hy;rcases hy with rfl | hy
        · omega
        · exact ih (by have : 4294967296 * val zs = 0 := Om
                       rcases Nat.mul_eq_zero.1 this with h | h
                       · cases h
                       · exact h) y hy
    intro j x hj hx;refine zero _ hd x ?_;rw [List.mem_iff_getElem?];exact ⟨j - nl (val xs), by rw [List.getElem?_drop, Nat.add_sub_cancel' hj]; exact hx⟩
  refine NP h hl hz fun x hpos hx e => ?_;subst e;have hz2 : ∀ j x, nl (val xs) - 1 ≤ j → xs[j]? = some x → x = 0 := fun j y hj hy => by
    rcases aVL j (nl (val xs)) with h3 | h3
    · have : j = nl (val xs) - 1 := Om
      subst this; rw [hx] at hy; cases hy; rfl
    · exact hz j y h3 hy
  have h3 := U2 hz2;have h4 := fG (h.take (nl (val xs) - 1));rw [h3, aVJ, aWW Om] at h4;have := (jI (val xs) (nl (val xs) - 1)).2 h4;omega
theorem Sp {xs:List Nat} (h:Lim xs) {n:Nat} (l:nl (val xs)=n+1):∃ x,xs[n]?=some x∧x≠0:=by
 have p:=fO h;refine⟨xs[n]'Om,aVB _,fun e=>?_⟩;have i:=kW h;have c:=aT (val xs);rw[← i,l,aWN Om,e,gI] at c;simp only[val,Nat.mul_zero,aWY] at c;have d:=fG (h.take n);rw[c,aVJ,aWW Om] at d;have:=(jI (val xs) n).2 d;omega
theorem sX (xs:List Nat) {k:Nat} (h:k<xs.length):val xs=val (xs.take k)+4294967296 ^ k*(xs[k]+4294967296*val (xs.drop (k+1))):=by
 conv=>lhs; rw[← aXG k xs,gI,aVJ,aWW Om,aWM h]
 rfl
theorem it {xs ys:List Nat} (p:Lim xs) {k:Nat} (c:k<xs.length) (d:k<ys.length) (l:xs.drop (k+1)=ys.drop (k+1)) (h:xs[k]<ys[k]):val xs<val ys:=by
 rw[sX xs c,sX ys d,l];have e:=fG (p.take k);rw[aVJ,aWW Om] at e;have i:4294967296 ^ k*(xs[k]+4294967296*val (ys.drop (k+1))+1)≤4294967296 ^ k*(ys[k]+4294967296*val (ys.drop (k+1))):=aXA _ Om;rw[aVF _ _ 1,Nat.mul_one] at i;omega
def dQ (a b:Nat):Int:=if a<b then -1 else if b<a then 1 else 0
theorem yx {xs ys:List Nat} {k:Nat} (c:k<xs.length) (d:k<ys.length) (e:xs.drop (k+1)=ys.drop (k+1)) (h:xs[k]=ys[k]):xs.drop k=ys.drop k:=by
 rw[aWM c,aWM d,e,h]
theorem fX {a b:Nat} (h:a≤b):nl a≤nl b:=(jI a _).2 (Nat.lt_of_le_of_lt h ((jI b _).1 (aUU _)))
theorem In {xs:List Nat} (h:Lim xs) {j:Nat} (c:j<nl (val xs)):∃ (d:j<xs.length) (i:j<(aJ (val xs)).length),xs[j]=(aJ (val xs))[j]:=by
 have l:=fO h;refine⟨by omega,c,?_⟩;have e:=kW h;have:(xs.take (nl (val xs)))[j]?=(aJ (val xs))[j]?:=by rw[e]
 rw[List.getElem?_take_of_lt c,aVB Om,aVB c] at this;exact aXC.inj this
def cM (n:Nat):Nat:=if h:n=0 then 0 else cM (n/2)+1
termination_by n
decreasing_by exact Nat.div_lt_self (aXB h) (by decide)
theorem jU:cM 0=0:=by rw[cM]; simp
theorem pQ {n:Nat} (h:n≠0):cM n=cM (n/2)+1:=by rw[cM]; simp[h]
theorem mJ (n k:Nat):cM n≤k↔n<2 ^ k:=by
 induction k generalizing n with
 | zero =>
  by_cases h:n=0
  ·subst h; simp[jU]
  ·rw[pQ h]; simp; omega
 | succ k c =>
  by_cases h:n=0
  ·subst h; simp[jU,aXK]
  ·rw[pQ h,Nat.succ_le_succ_iff,c,aWL,aXP (by decide)]
theorem kK {n:Nat}:cM n=0↔n=0:=by
 have:=mJ n 0;simp at this;exact this
theorem Io {hi lo k:Nat} (l:lo<2 ^ k) (e:hi≠0):cM (lo+2 ^ k*hi)=k+cM hi:=by
 apply Nat.le_antisymm
 ·rw[mJ,Nat.pow_add];have c:=(mJ hi _).1 (aUU _);have:2 ^ k*(hi+1)≤2 ^ k*2 ^ cM hi:=aXA _ c;rw[aVF,Nat.mul_one] at this;omega
 ·obtain⟨b,d⟩:∃ b,cM hi=b+1:=⟨cM hi-1,by have:=mt kK.1 e; omega⟩;rw[d];rcases aVL (cM (lo+2 ^ k*hi)) (k+(b+1)) with h | h
  ·have c:=(mJ (lo+2 ^ k*hi) (k+b)).1 Om;rw[Nat.pow_add] at c;have i:¬ hi<2 ^ b:=fun h=>by have:=(mJ hi b).2 h; omega
   have:2 ^ k*2 ^ b≤2 ^ k*hi:=aXA _ Om;omega
  ·exact h
theorem mK (n k:Nat):cM n≤32*k↔nl n≤k:=by
 rw[mJ,jI,Nat.pow_mul]
end Go.Na
namespace Go.PM
theorem Lq {F c:PF} (h:F.le c:=by (repeat' (first|exact d_|refine c_ ?_ ?_))<;>first|(simp only[go_sem]<;>rfl)|rfl|assumption):F.le c:=h
end Go.PM
namespace Go.PM
open Go Go.Na
abbrev aL (xs:List Nat):List (List PV):=xs.map fun (n:Nat)=>[PV.int .u32 (n:Int)]
abbrev aK (xs:List Nat):PV:=.sl 1 (xs.map fun (n:Nat)=>[PV.int .u32 (n:Int)])
theorem cD (xs:List Nat):(aL xs).length=xs.length:=by simp
theorem bU (xs:List Nat) {i:Nat} (h:i<xs.length):(aL xs)[i]?=some [.int .u32 (xs[i]:Nat)]:=by simp[h]
theorem At (xs:List Nat) (k:Nat):aK (xs.take k)=.sl 1 ((xs.map fun (n:Nat)=>[PV.int .u32 (n:Int)]).take k):=by rw[aK,List.map_take]
theorem cL (n:Nat):IntKind.u32.wrap (n:Int)=((n%4294967296:Nat):Int):=by
 have e:IntKind.u32.wrap (n:Int)=(n:Int)%4294967296:=by simp[IntKind.wrap,IntKind.bits,IntKind.signed]
 rw[e]; rfl
theorem xL {k:Nat} (h:k≤9223372036854775807) (c:0<k):IntKind.i64.wrap ((k:Int)-1)=((k-1:Nat):Int):=by
 rw[wrap_i64 Om Om]; omega
def akR (xs:List Nat) (n:Nat):PF:=((PF.nil.set 0 (aK xs)).set 3 (.int .i64 n))
theorem akT {C:Ctx} (xs:List Nat) (w:Lim xs) (A:xs.length≤35184372087808):pU.wp C (aU HR.res (aI (.int .i64 (nl (val xs):Nat)))) (PF.args [aK xs]) .nil:=by
 simp only[go_sem,pU,MH,MI,HR];refine wp_loop (α:=Nat) (akR xs) (fun _=>.nil) (fun n=>n≤xs.length∧∀ j x,n≤j→xs[j]?=some x→x=0) (fun n=>n) xs.length ⟨aUU _,fun j x h e=>by rw[aWG h] at e; cases e⟩ ?_ a_ ?_
 ·unfold akR;exact Lq
 rintro n ⟨u,p⟩;have out:(∀ x,0<n→xs[n-1]?=some x→x≠0)→nl (val xs)=n:=fun h=>adB w u p h;simp only[go_sem,MG,MJ,akR];by_cases i:(n:Int)>0
 ·have l:0<n:=Om;have hi:=bU xs (Om:n-1<xs.length);simp only[go_sem,i,xL (Om:n≤9223372036854775807) l,hi];by_cases d:xs[n-1]=0
  ·simp only[go_sem,bP (Om:((xs[n-1]:Nat):Int)=0),MK,xL (Om:n≤9223372036854775807) l];refine aG (n-1) ⟨by omega,fun j x y c=>?_⟩ Om ?_ a_
   ·rcases aVL j n with h | h
    ·have:j=n-1:=Om;subst this;rw[aVB Om] at c;cases c; exact d
    ·exact p j x h c
   ·exact Lq
  ·simp only[go_sem,bG (Om:((xs[n-1]:Nat):Int)≠0),tZ];refine aR (.inr rfl) rfl ?_;rw[out fun x _ c=>by rw[aVB Om] at c; cases c; exact d];rfl
 ·simp only[go_sem,i,tZ];refine aR (.inr rfl) rfl ?_;rw[out fun x h=>by omega];rfl
theorem aqI {C:Ctx} (xs:List Nat) (c:aH C 138 [aK xs] .nil (aI (.int .i64 (nl (val xs):Nat)))):FI.wp C (aU Qf.res (aI (.bool (decide (nl (val xs)>512))))) (PF.args [aK xs]) .nil:=by
 simp only[go_sem,FI,Bc,Bd,Qf];refine aA c rfl ?_;simp only[go_sem];refine aR (.inr rfl) rfl ?_;simp only[bQ,PV.bool.injEq,decide_eq_decide];omega
def szL (n:Nat):List Nat:=if nl n>512 then [] else aJ n
def szE (n:Nat):Int:=if nl n>512 then 2 else 0
def szV (n:Nat):PV:=.tup [aK (szL n),.int .i64 (szE n)]
theorem aqN {C:Ctx} (xs:List Nat) (l:Lim xs) (c:aH C 138 [aK xs] .nil (aI (.int .i64 (nl (val xs):Nat)))):FK.wp C (aU Qs.res (bX (szV (val xs)))) (PF.args [aK xs]) .nil:=by
 simp only[go_sem,FK,Bp,Bq,Qs];refine aA c rfl ?_;simp only[go_sem,Br];by_cases h:nl (val xs)>512
 ·have i:((nl (val xs):Nat):Int)>512:=Om;simp only[go_sem,i,Bs];refine aX (vs:=[.aB,.int .i64 2]) (.inr rfl) .nil rfl a_ ⟨?_,rfl⟩;rw[szV,szL,szE,if_pos h,if_pos h];refine .tup rfl fun j p q d e=>?_
  match j with
  | 0=>simp at d e; subst d; subst e; exact .nil 1
  | 1=>simp at d e; subst d; subst e; exact .refl _
  | j+2=>simp at d
 ·have i:¬ ((nl (val xs):Nat):Int)>512:=Om;have w:=fO l;have u:((nl (val xs):Nat):Int)≤(xs.length:Nat):=Om;simp only[go_sem,i,Bt,u,or_true,aVY];refine aX (.inr rfl) .nil rfl a_ ⟨?_,rfl⟩;rw[szV,szL,szE,if_neg h,if_neg h,← kW l,At];exact .refl _
theorem azP {C:Ctx} (v:Nat) (H:v<18446744073709551616) (d:∀ xs,Lim xs→xs.length≤35184372087808→aH C 138 [aK xs] .nil (aI (.int .i64 (nl (val xs):Nat)))) :
  ML.wp C (aU akV.res (aI (aK (aJ v)))) (PF.args [.int .u64 v]) .nil:=by
 have w:IntKind.u32.wrap ((v:Nat):Int)=((v%4294967296:Nat):Int):=cL v;have y:Int.fdiv ((v:Nat):Int) 4294967296=((v/4294967296:Nat):Int):=by rw[Int.fdiv_eq_ediv_of_nonneg _ (by decide)]; rfl
 have l:v/4294967296<4294967296:=Om;have A:IntKind.u32.wrap ((v/4294967296:Nat):Int)=((v/4294967296:Nat):Int):=by rw[cL,aWA l]
 have e:Lim [v%4294967296,v/4294967296]:=by
  intro x u;simp only[aVC,List.mem_nil_iff,or_false] at u;rcases u with rfl | rfl
  ·exact aWJ _ (by decide)
  ·exact l
 have c:val [v%4294967296,v/4294967296]=v:=by simp only[val,Nat.mul_zero,aWY]; exact Nat.mod_add_div v 4294967296
 have F:∀ a b:Int,PV.bin .shr (.int .u64 a) (.int .u64 b)=shift .shr .u64 a b:=fun _ _=>rfl;have i:shift .shr .u64 (v:Int) 32=some (.int .u64 ((v/4294967296:Nat):Int)):=by
  unfold shift;rw[if_neg (by decide)];simp only;have:min (Int.toNat 32) IntKind.u64.bits=32:=by decide
  rw[this];rw[show (2:Int) ^ 32=4294967296 by decide,y]
 simp only[go_sem,ML,Qg,Qh,akV,w,i,A];have E:(2:Nat)*1≤16777216:=by decide
 simp only[go_sem,Qi];refine aA (d [v%4294967296,v/4294967296] e (by simp)) rfl ?_;have p:=fO e;rw[c] at p ⊢;have B:((nl v:Nat):Int)≤((2:Nat):Int):=by simp at p; omega
 simp only[go_sem,B,or_true,aVY];refine aR (.inr rfl) rfl ?_;have:=kW e;rw[c] at this;rw[← this,At];rfl
theorem azU {C:Ctx} (xs:List Nat) (d:Lim xs) (l:xs.length≤35184372087808) (c:aH C 138 [aK xs] .nil (aI (.int .i64 (nl (val xs):Nat)))) :
  MM.wp C (aU akX.res (bX (aK (aJ (val xs))))) (PF.args [aK xs]) .nil:=by
 simp only[go_sem,MM,Q1,Q2,akX];refine aA c rfl ?_;have p:=fO d;have e:((nl (val xs):Nat):Int)≤(xs.length:Nat):=Om;simp only[go_sem,e,or_true,aVY];refine iD (rows:=[]) (src:=aL (aJ (val xs))) .nil ?_ ?_ fun v H' i _=>?_
 ·simp only[go_sem];rw[← kW d,← List.map_take]
 ·unfold roomFor;rw[cD];have:(aJ (val xs)).length=nl (val xs):=rfl;simp only[aXD,maxLen];omega
 ·exact qX (.inr rfl) (by simpa using i) rfl
end Go.PM
theorem Sq {p:Prop} (h:p:=by simp only[go_sem]):p:=h
theorem Ev {p:Prop} (h:p:=by simp only[go_sem]<;>rfl):p:=h
namespace Go.PM
open Go Go.Na
def akL (xs ys:List Nat) (i:Int):PF:=(((PF.nil.set 0 (aK xs)).set 1 (aK ys)).set 7 (.int .i64 i))
theorem aGY {C:Ctx} (xs ys:List Nat) (F:Lim xs) (H:Lim ys) (Z:xs.length≤35184372087808) (ly:ys.length≤35184372087808) (u:aH C 138 [aK xs] .nil (aI (.int .i64 (nl (val xs):Nat)))) (w:aH C 138 [aK ys] .nil (aI (.int .i64 (nl (val ys):Nat)))) :
  SX.wp C (aU azL.res (aI (.int .i64 (dQ (val xs) (val ys))))) (PF.args [aK xs,aK ys]) .nil:=by
 simp only[go_sem,SX,abC,abD,azL];refine aA u Ev ?_;simp only[go_sem];refine aA w Ev ?_;simp only[go_sem,abE];have U:=fO F;have O:=fO H;by_cases V:nl (val xs)<nl (val ys)
 ·have c:((nl (val xs):Nat):Int)<(nl (val ys):Nat):=Om;simp only[go_sem,c,abF];refine aR (.inr rfl) Ev ?_;have:val xs<val ys:=by
   rcases aVL (val xs) (val ys) with h | h
   ·exact h
   ·have:=fX h; omega
  simp[bQ,dQ,this]
 have c:¬ ((nl (val xs):Nat):Int)<(nl (val ys):Nat):=Om;simp only[go_sem,c,abG];by_cases W:nl (val xs)>nl (val ys)
 ·have d:((nl (val xs):Nat):Int)>(nl (val ys):Nat):=Om;simp only[go_sem,d,abH];refine aR (.inr rfl) Ev ?_;have:val ys<val xs:=by
   rcases aVL (val ys) (val xs) with h | h
   ·exact h
   ·have:=fX h; omega
  have l:¬ val xs<val ys:=Om;simp[bQ,dQ,this,l]
 have d:¬ ((nl (val xs):Nat):Int)>(nl (val ys):Nat):=Om;have S:nl (val xs)=nl (val ys):=Om;simp only[go_sem,d,abI];have ex:=aT (val xs);have i:=aT (val ys);have M:=aV (val xs);have N:=aV (val ys);refine wp_loop (α:=Nat) (fun k=>akL xs ys ((k:Int)-1)) (fun _=>.nil) (fun k=>k≤nl (val xs)∧(aJ (val xs)).drop k=(aJ (val ys)).drop k) (fun k=>k) (nl (val xs)) ⟨aUU _,?_⟩ ?_ a_ ?_
 ·rw[aYI (by rw[nl]; exact aUU _),aYI (by rw[S,nl]; exact aUU _)]
 ·unfold akL
  (repeat' (first|exact d_|refine c_ ?_ ?_))<;>first|(simp only[go_sem,wrap_i64 (show -9223372036854775808≤((nl (val xs):Nat):Int)-1 by omega) (show ((nl (val xs):Nat):Int)-1≤9223372036854775807 by omega)]<;>rfl)|rfl
 rintro k ⟨Y,e⟩;simp only[go_sem,P5,abJ,akL];by_cases X:0<k
 ·obtain⟨m,rfl⟩:∃ m,k=m+1:=⟨k-1,by omega⟩;have x:((m+1:Nat):Int)-1=(m:Int):=Om;have p:(m:Int)≥0:=Om;obtain⟨J,y,A⟩:=In F (Om:m<nl (val xs));obtain⟨K,B,E⟩:=In H (Om:m<nl (val ys));simp only[go_sem,x,p];refine bS .nil dT a_ ?_;simp only[go_sem,abK,bU xs J,bU ys K];by_cases Q:xs[m]<ys[m]
  ·simp only[go_sem,show ((xs[m]:Nat):Int)<(ys[m]:Nat) by omega,abL];refine aR (.inr rfl) Ev ?_;have:=it M y B e (by rw[← A,← E]; exact Q);rw[ex,i] at this;simp[bQ,dQ,this]
  ·simp only[go_sem,show ¬ ((xs[m]:Nat):Int)<(ys[m]:Nat) by omega];refine bS .nil dT a_ ?_;simp only[go_sem,P6,bU xs J,bU ys K];by_cases R:xs[m]>ys[m]
   ·simp only[go_sem,show ((xs[m]:Nat):Int)>(ys[m]:Nat) by omega,P7];refine aR (.inr rfl) Ev ?_;have:=it N B y e.symm (by rw[← A,← E]; exact R);rw[ex,i] at this;have l:¬ val xs<val ys:=Om;simp[bQ,dQ,this,l]
   ·simp only[go_sem,show ¬ ((xs[m]:Nat):Int)>(ys[m]:Nat) by omega,P8];refine aG m ⟨by omega,yx y B e (by rw[← A,← E]; omega)⟩ Om ?_ a_
    (repeat' (first|exact d_|refine c_ ?_ ?_))<;>first|(simp only[go_sem,wrap_i64 (Om:-9223372036854775808≤(m:Int)-1) (Om:(m:Int)-1≤9223372036854775807)]<;>rfl)|rfl
 ·have:k=0:=Om;subst this;have x:¬ ((0:Nat):Int)-1≥0:=by decide
  simp only[go_sem,x,P9];refine aR (.inr rfl) Ev ?_;rw[aVY,aVY] at e;have:val xs=val ys:=by rw[← ex,← i,e]
  simp[bQ,dQ,this]
def Pu (k:Nat) (v:Nat):PF:=((PF.nil.set 4 (.int .i64 k)).set 5 (.int .u32 v))
theorem azJ {C:Ctx} (xs:List Nat) (w:Lim xs) (U:xs.length≤35184372087808) (x:aH C 138 [aK xs] .nil (aI (.int .i64 (nl (val xs):Nat)))) :
  LS.wp C (aU akK.res (aI (.int .i64 (cM (val xs):Nat)))) (PF.args [aK xs]) .nil:=by
 simp only[go_sem,LS,Pw,Px,akK];refine aA x Ev ?_;simp only[go_sem,Py];have R:=fO w;by_cases K:nl (val xs)=0
 ·simp only[go_sem,bP (show ((nl (val xs):Nat):Int)=0 by omega),Pz];refine aR (.inr rfl) Ev ?_;have:val xs=0:=iY.1 K;simp[bQ,this,jU]
 obtain⟨n,J⟩:∃ n,nl (val xs)=n+1:=⟨nl (val xs)-1,by omega⟩;obtain⟨t,p,y⟩:=Sp w J;have u:t<4294967296:=w t (aXL p);have c:n<xs.length:=Om;have Q:val xs=val (xs.take n)+4294967296 ^ n*t:=by
  have e:=kW w;have:=aT (val xs);have O:xs[n]=t:=by rw[aVB c] at p; exact aXC.inj p
  rw[← e,J,aWN c,O,gI,aVJ,aWW Om] at this;simp only[val,Nat.mul_zero,aWY] at this;exact this.symm
 have S:cM (val xs)=32*n+cM t:=by
  have E:=fG (w.take n);rw[aVJ,aWW Om] at E;rw[Q,show (4294967296:Nat) ^ n=2 ^ (32*n) by rw[Nat.pow_mul]] at *
  exact Io E y
 have d:(aL xs)[n]?=some [.int .u32 (t:Nat)]:=by rw[bU xs c];rw[aVB c] at p;rw[aXC.inj p]
 have M:IntKind.i64.wrap (((nl (val xs):Nat):Int)-1)=(n:Int):=by rw[wrap_i64 Om Om]; omega
 have N:IntKind.i64.wrap ((n:Int)*32)=((32*n:Nat):Int):=by rw[wrap_i64 Om Om]; omega
 simp only[go_sem,bG (show ((nl (val xs):Nat):Int)≠0 by omega),P0,P1,M,N,d];refine wp_loop (α:=Nat × Nat) (fun a=>Pu a.1 a.2) (fun _=>.nil) (fun a=>a.1+cM a.2=32*n+cM t∧a.2<4294967296) (fun a=>a.2) (32*n,t) ⟨rfl,u⟩ ?_ a_ ?_
 ·unfold Pu;exact Lq
 rintro⟨k,v⟩ ⟨F,hlt⟩;simp only at F hlt;have H:cM t≤32:=(mJ t 32).2 u;simp only[go_sem,Pv,P2,Pu];by_cases B:(v:Int)>0
 ·have A:v≠0:=Om;have i:PV.bin .shr (.int .u32 (v:Int)) (.int .u64 1)=some (.int .u32 ((v/2:Nat):Int)):=by
   show shift .shr .u32 (v:Int) 1=_;unfold shift;rw[if_neg (by decide)];simp only;have:min (Int.toNat 1) IntKind.u32.bits=1:=by decide
   rw[this,show (2:Int) ^ 1=2 by decide,Int.fdiv_eq_ediv_of_nonneg _ (by decide)];rfl
  have l:shift .shr .u32 (v:Int) 1=some (.int .u32 ((v/2:Nat):Int)):=i;simp only[go_sem,B,P3,P4,i,l,wZz k];refine aG (k+1,v/2) ⟨?_,?_⟩ (Nat.div_lt_self Om (by decide)) ?_ a_
  ·have:=pQ A;simp only; omega
  ·simp only; omega
  ·exact Lq
 ·have:v=0:=Om;subst this;simp only[go_sem,B,A1];refine aR (.inr rfl) Ev ?_;rw[jU] at F;simp only[bQ,PV.int.injEq,true_and];omega
structure rQ (C:Ctx):Prop where
 length:∀ xs,Lim xs→xs.length≤35184372087808→aH C 138 [aK xs] .nil (aI (.int .i64 (nl (val xs):Nat)))
 large:∀ xs,Lim xs→xs.length≤35184372087808→aH C 137 [aK xs] .nil (aI (.bool (decide (nl (val xs)>512))))
 sized:∀ xs,Lim xs→xs.length≤35184372087808→aH C 141 [aK xs] .nil (aI (szV (val xs)))
 trim:∀ xs,Lim xs→xs.length≤35184372087808→aH C 135 [aK xs] .nil (aI (aK (aJ (val xs))))
 make:∀ v:Nat,v<18446744073709551616→aH C 132 [.int .u64 v] .nil (aI (aK (aJ v)))
 cmp:∀ xs ys,Lim xs→Lim ys→xs.length≤35184372087808→ys.length≤35184372087808→aH C 129 [aK xs,aK ys] .nil (aI (.int .i64 (dQ (val xs) (val ys))))
def jN:PV→List Nat
 | .sl _ rows=>rows.map fun r=>match r with | [.int _ n]=>n.toNat | _=>0
 | _=>[]
theorem eJ (xs:List Nat):jN (aK xs)=xs:=by
 simp[jN,List.map_map,Function.comp_def]
def akJ:Spec:=fun name vs=>match name,vs with
 | 138,[x]=>some ([],fun _=>aI (.int .i64 (nl (val (jN x)):Nat)))
 | _,_=>none
theorem oX (xs:List Nat):akJ 138 [aK xs]=some ([],fun _=>aI (.int .i64 (nl (val xs):Nat))):=by
 show some _=_; rw[eJ]
theorem zV (P:List Nat) (k v:Nat):(P++aUR (k+1) 0).set P.length v=(P++[v])++aUR k 0:=by
 rw[aXO _ _ (aUU _),aXQ,List.replicate_succ,aYB,aVS];rfl
theorem fP (L:List Nat) (i v:Nat):(aL L).set i [.int .u32 (v:Int)]=aL (L.set i v):=by
 unfold aL; rw[List.map_set]
theorem jS (P:List Nat) (v:Nat):val (P++[v])=val P+4294967296 ^ P.length*v:=by
 rw[gI]; simp[val]
theorem cI (xs:List Nat) {i:Nat} (h:i<xs.length):val (xs.take (i+1))=val (xs.take i)+4294967296 ^ i*xs[i]:=by
 rw[aWN h,jS,aVJ,aWW Om]
theorem yP {v:Nat}:shift .shr .u64 (v:Int) 32=some (.int .u64 ((v/4294967296:Nat):Int)):=by
 unfold shift;rw[if_neg (by decide)];simp only;have:min (Int.toNat 32) IntKind.u64.bits=32:=by decide
 rw[this,show (2:Int) ^ 32=4294967296 by decide,Int.fdiv_eq_ediv_of_nonneg _ (by decide)];rfl
theorem fH {a b:Nat} (h:a+b<18446744073709551616):IntKind.u64.wrap ((a:Int)+(b:Int))=((a+b:Nat):Int):=by
 rw[wrap_u64 Om Om]; omega
theorem bH {a:Nat} (h:a<18446744073709551616):IntKind.u64.wrap (a:Int)=(a:Int):=wrap_u64 Om Om
def mf (a b:List Nat) (o i c:Nat):PF:=(((((((PF.nil.set 0 (aK a)).set 1 (aK b)).set 6 (.osl o 1 0 (a.length+1))).set 7 (.int .u64 c)).set 35 (.int .i64 (a.length:Nat))).set 34 (aK a)).set 36 (.int .i64 i))
theorem As {C:Ctx} (L:rQ C) (a b:List Nat) (ha:Lim a) (hb:Lim b) (hl:b.length≤a.length) (h1:a.length≤1000) (F:PF) (f0:F 0=some (aK a)) (f1:F 1=some (aK b)) :
  aC.wp C (.seq (.region u0) (.seq (.region u1) (.seq (.seq (.region u5) (.block 0 (.loop cw))) (.seq (.region c7) (.seq (.region c8) .ret))))) (aU [.tmp 4,.tmp 5] (bX (szV (val a+val b)))) F .nil:=by
 have O:IntKind.i64.wrap ((a.length:Int)+1)=((a.length+1:Nat):Int):=dA Om;have η:((a.length+1:Nat):Int)*((4:Nat):Int)≤140737488355328:=Om;have θ:((a.length+1:Nat):Int)≤9223372036854775807:=Om;have hz:aUR (a.length+1) [PV.int .u32 0]=aL ([]++aUR (a.length+1) 0):=by simp[aL]
 simp only[go_sem,u0,f0,O,η,θ,hz];refine aO fun o ho=>?_;simp only[go_sem,u1,u5,f0];refine wp_loop (α:=List Nat × Nat × Nat) (fun s=>mf a b s.2.2 s.1.length s.2.1) (fun s=>PH.nil.set s.2.2 (.rows 1 (aL (s.1++aUR (a.length+1-s.1.length) 0))))
  (fun s=>s.1.length≤a.length∧Lim s.1∧s.2.1≤1∧val s.1+4294967296 ^ s.1.length*s.2.1=val (a.take s.1.length)+val (b.take s.1.length)) (fun s=>a.length-s.1.length) ([],0,o) ⟨by simp,by simp[Lim],by simp,by simp[val]⟩ ?_ ?_ ?_
 ·unfold mf;exact Lq
 ·exact e_ a_ (by simp only[go_sem,aXD])
 rintro⟨P,c,q⟩ ⟨hP,d,hc,w⟩;simp only at hP d hc w;simp only[go_sem,cw,abB,mf];by_cases V:P.length<a.length
 ·have A:(P.length:Int)<(a.length:Nat):=Om;have ι:=ha _ (aUQ V);obtain⟨k,S⟩:∃ k,a.length+1-P.length=k+1:=⟨a.length-P.length,by omega⟩;have H:(aL (P++aUR (k+1) 0))[P.length]?=some [.int .u32 ((0:Nat):Int)]:=by rw[bU _ (by simp)]; simp
  have i:a.length+1-(P.length+1)=k:=Om;have B:(P.length:Int)<((a.length+1:Nat):Int):=Om;have fin:∀ (t:Nat) (p:PF) (H':PH),t<2*4294967296→val P+4294967296 ^ P.length*t=val (a.take (P.length+1))+val (b.take (P.length+1)) →
    p 0=some (aK a)→p 1=some (aK b)→p 6=some (.osl q 1 0 (a.length+1))→p 7=some (.int .u64 (t:Nat))→p 8=some (.int .i64 P.length)→p 34=some (aK a)→p 35=some (.int .i64 (a.length:Nat))→p 36=some (.int .i64 P.length) →
    H' q=some (.rows 1 (aL (P++aUR (k+1) 0)))→∀ K:bR,(∀ u y R H2,u.length=P.length+1→Lim u→y≤1→val u+4294967296 ^ u.length*y=val (a.take (P.length+1))+val (b.take (P.length+1))→(mf a b q u.length y).le R→H2 q=some (.rows 1 (aL (u++aUR k 0)))→K .normal R H2) →
    aC.wp C (.seq (.region cx) (.region cy)) (eQ 1 (gD C (aC.wp C (.region cz)) K)) p H':=by
   intro t p H' ht hv g0 g1 g6 g7 g8 γ δ ε gH K hK;have l:(aL (P++aUR (k+1) 0)).set P.length [.int .u32 ((t%4294967296:Nat):Int)]=aL ((P++[t%4294967296])++aUR k 0):=by rw[fP,zV]
   simp only[go_sem,cx,g6,g8,g7,cL,B,gH,H,l,cy,yP,cz,ε,dA (Om:P.length<9223372036854775807)];refine hK (P++[t%4294967296]) (t/4294967296) _ _ (by simp) (d.app fun x U=>by simp at U; subst U; exact aWJ _ (by decide)) Om ?_ ?_ Sq
   ·rw[jS,aUS,aUX,aWL,aVO,aWX,← aVF,Nat.mod_add_div];exact hv
   ·unfold mf;rw[aUS,aUX];refine c_ (c_ (c_ (c_ (c_ (c_ (c_ d_ ?_) ?_) ?_) ?_) ?_) ?_) ?_<;>simp only[go_sem,g0,g1,g6,γ,δ]
  have Q:=cI a V;have ea:IntKind.u64.wrap ((a[P.length]:Nat):Int)=((a[P.length]:Nat):Int):=bH Om;have es:IntKind.u64.wrap ((c:Nat)+((a[P.length]:Nat):Int))=((c+a[P.length]:Nat):Int):=fH Om;simp only[go_sem,A,Po,Pp,bU a V,ea,es,Pq];by_cases W:P.length<b.length
  ·have E:(P.length:Int)<(b.length:Nat):=Om;have κ:=hb _ (aUQ W);have J:=cI b W;have eb:IntKind.u64.wrap ((b[P.length]:Nat):Int)=((b[P.length]:Nat):Int):=bH Om;have β:IntKind.u64.wrap (((c+a[P.length]:Nat):Int)+((b[P.length]:Nat):Int))=((c+a[P.length]+b[P.length]:Nat):Int):=fH Om;simp only[go_sem,E,Ps,bU b W,eb,β];refine fin (c+a[P.length]+b[P.length]) _ _ Om ?_ ?_ ?_ ?_ ?_ ?_ ?_ ?_ ?_ ?_ _ ?_
   ·rw[Q,J,aVF,aVF]; omega
   any_goals simp only[go_sem,S]
   intro u y R H2 M X Y N Z e6;rw[← M] at N;refine aG (u,y,q) ⟨by simp only; omega,X,Y,N⟩ (by simp only; omega) Z (e_ a_ ?_);simp only;rw[M,i]; exact e6
  ·have E:¬ (P.length:Int)<(b.length:Nat):=Om;have J:val (b.take (P.length+1))=val (b.take P.length):=by rw[aVI Om,aVI Om]
   simp only[go_sem,E];refine fin (c+a[P.length]) _ _ Om ?_ ?_ ?_ ?_ ?_ ?_ ?_ ?_ ?_ ?_ _ ?_
   ·rw[Q,J,aVF]; omega
   any_goals simp only[go_sem,S]
   intro u y R H2 M X Y N Z e6;rw[← M] at N;refine aG (u,y,q) ⟨by simp only; omega,X,Y,N⟩ (by simp only; omega) Z (e_ a_ ?_);simp only;rw[M,i]; exact e6
 ·have e:P.length=a.length:=Om;have A:¬ (P.length:Int)<(a.length:Nat):=Om;have S:aUR (a.length+1-P.length) 0=[0]:=by rw[show a.length+1-P.length=1 by omega]; rfl
  have H:(aL (P++[0]))[a.length]?=some [.int .u32 ((0:Nat):Int)]:=by rw[bU _ (by simp; omega)];simp[e]
  have l:(aL (P++[0])).set a.length [.int .u32 ((c%4294967296:Nat):Int)]=aL (P++[c]):=by have:=zV P 0 (c%4294967296);simp only[List.replicate_zero,aWF,aVH,List.replicate_one] at this;rw[← e,fP,this,aWA Om]
  have B:(a.length:Int)<((a.length+1:Nat):Int):=Om;have hV:val (P++[c])=val a+val b:=by rw[jS,w,e,aVP,aVI hl]
  have ζ:Lim (P++[c]):=d.app fun x U=>by simp at U; omega
  simp only[go_sem,A,c7,cL,S,H,B,l,c8];have hs:=L.sized _ ζ (by simp; omega);rw[hV] at hs;refine rB (o:=q) (s:=1) (k:=a.length+1) (rs:=aL (P++[c])) (v:=szV (val a+val b)) ?_ rfl Sq (by rw[cD]; simp; omega) ?_
  ·rw[aVI (by rw[cD]; simp; omega)]; exact hs
  ·simp only[go_sem,szV];exact aX (.inr rfl) .nil rfl a_ ⟨.refl _,rfl⟩
def opV (big:Bool) (n:Nat):PV:=if big then .tup [aK [],.int .i64 2] else szV n
def eC (a b:Nat):Bool:=decide (nl a>512)||decide (nl b>512)
theorem eW {res:List eA} {F:PF} {H:PH} {e:Int} (h:eA.evs F H res=some [.aB,.int .i64 e]):aU res (bX (.tup [aK [],.int .i64 e])) .ret F H:=by
 refine aX (.inr rfl) .nil h a_ ⟨?_,rfl⟩;refine .tup rfl fun j p q c d=>?_
 match j with
 | 0=>simp at c d; subst c; subst d; exact .nil 1
 | 1=>simp at c d; subst c; subst d; exact .refl _
 | j+2=>simp at c
theorem bB (n:Nat):(aJ n).length=nl n:=rfl
theorem jP {xs:List Nat} (h:Lim xs):(xs.map fun (n:Nat)=>[PV.int .u32 (n:Int)]).take (nl (val xs))=(aJ (val xs)).map fun (n:Nat)=>[PV.int .u32 (n:Int)]:=by
 rw[← List.map_take,kW h]
theorem aGV {C:Ctx} (L:rQ C) (a b:List Nat) (l:Lim a) (p:Lim b) (x:a.length≤35184372087808) (y:b.length≤35184372087808) :
  SW.wp C (aU azH.res (bX (opV (eC (val a) (val b)) (val a+val b)))) (PF.args [aK a,aK b]) .nil:=by
 simp only[go_sem,SW,aaW,aaX,azH];refine aA (L.large a l x) rfl ?_;by_cases d:nl (val a)>512
 ·simp only[go_sem,d,uz];rw[show opV (eC (val a) (val b)) (val a+val b)=.tup [aK [],.int .i64 2] by simp[opV,eC,d]];exact eW rfl
 simp only[go_sem,d];refine aA (L.large b p y) rfl ?_;by_cases i:nl (val b)>512
 ·simp only[go_sem,i,uz];rw[show opV (eC (val a) (val b)) (val a+val b)=.tup [aK [],.int .i64 2] by simp[opV,eC,i]];exact eW rfl
 have e:opV (eC (val a) (val b)) (val a+val b)=szV (val a+val b):=by simp[opV,eC,d,i]
 rw[e];simp only[go_sem,i];refine bS .nil akJ a_ ?_;simp only[go_sem,aaY];have F:=fO l;have H:=fO p;have u:((nl (val a):Nat):Int)≤(a.length:Nat):=Om;have w:((nl (val b):Nat):Int)≤(b.length:Nat):=Om;refine bY (oX a) (L.length a l x) rfl a_ ?_;simp only[go_sem,u,or_true,aVY,jP l];refine bY (oX b) (L.length b p y) rfl a_ ?_;simp only[go_sem,w,or_true,aVY,jP p,aaZ,bB];have A:=aT (val a);have B:=aT (val b);by_cases E:nl (val a)<nl (val b)
 ·have c:((nl (val a):Nat):Int)<(nl (val b):Nat):=Om;simp only[go_sem,c,abA];have:=As L (aJ (val b)) (aJ (val a)) (aV _) (aV _) (by rw[bB,bB]; omega) (by rw[bB]; omega);rw[A,B,Nat.add_comm] at this;exact this _ rfl rfl
 ·have c:¬ ((nl (val a):Nat):Int)<(nl (val b):Nat):=Om;simp only[go_sem,c];have:=As L (aJ (val a)) (aJ (val b)) (aV _) (aV _) (by rw[bB,bB]; omega) (by rw[bB]; omega);rw[A,B] at this;exact this _ rfl rfl
theorem fY (n:Int):IntKind.u64.wrap n=n%18446744073709551616:=by simp[IntKind.wrap,IntKind.bits,IntKind.signed]
theorem ZM (n:Int):IntKind.u32.wrap n=n%4294967296:=by simp[IntKind.wrap,IntKind.bits,IntKind.signed]
theorem alO {v:Int}:shift .shr .u64 v 63=some (.int .u64 (v/9223372036854775808)):=by
 unfold shift;rw[if_neg (by decide)];simp only;have:min (Int.toNat 63) IntKind.u64.bits=63:=by decide
 rw[this,show (2:Int) ^ 63=9223372036854775808 by decide,Int.fdiv_eq_ediv_of_nonneg _ (by decide)]
def UG (a bor b:Nat):Nat:=(a+4294967296-bor-b)%4294967296
def ef (a bor b:Nat):Nat:=if a<bor+b then 1 else 0
theorem Se {a bor b:Nat} (c:a<4294967296) (d:b<4294967296) (e:bor≤1) (v:Int) (i:v=((a:Int)-bor-b)%18446744073709551616) :
  IntKind.u32.wrap v=((UG a bor b:Nat):Int)∧v/9223372036854775808=((ef a bor b:Nat):Int)∧a+4294967296*ef a bor b=UG a bor b+b+bor∧UG a bor b<4294967296:=by
 rw[ZM];unfold UG ef;split<;>omega
def nt (a b:List Nat) (o i c:Nat):PF:=(((((((PF.nil.set 0 (aK a)).set 1 (aK b)).set 6 (.osl o 1 0 a.length)).set 7 (.int .u64 c)).set 33 (aK a)).set 34 (.int .i64 (a.length:Nat))).set 35 (.int .i64 i))
theorem aqP {C:Ctx} (L:rQ C) (a b:List Nat) (ha:Lim a) (hb:Lim b) (η:val b≤val a) (hl:b.length≤a.length) (h1:a.length≤1000) (F:PF) (f0:F 0=some (aK a)) (f1:F 1=some (aK b)) :
  aC.wp C (.seq (.region vm) (.seq (.region vn) (.seq (.seq (.region vp) (.block 1 (.loop dh))) (.seq (.region dl) .ret)))) (aU [.tmp 4,.tmp 5] (bX (szV (val a-val b)))) F .nil:=by
 have δ:(a.length:Int)*((4:Nat):Int)≤140737488355328:=Om;have ε:(a.length:Int)≤9223372036854775807:=Om;have hz:aUR a.length [PV.int .u32 0]=aL ([]++aUR a.length 0):=by simp[aL]
 simp only[go_sem,vm,f0,δ,ε,hz];refine aO fun o ho=>?_;simp only[go_sem,vn,vp,f0];refine wp_loop (α:=List Nat × Nat × Nat) (fun s=>nt a b s.2.2 s.1.length s.2.1) (fun s=>PH.nil.set s.2.2 (.rows 1 (aL (s.1++aUR (a.length-s.1.length) 0))))
  (fun s=>s.1.length≤a.length∧Lim s.1∧s.2.1≤1∧val (a.take s.1.length)+4294967296 ^ s.1.length*s.2.1=val s.1+val (b.take s.1.length)) (fun s=>a.length-s.1.length) ([],0,o) ⟨by simp,by simp[Lim],by simp,by simp[val]⟩ ?_ ?_ ?_
 ·unfold nt;exact Lq
 ·exact e_ a_ (by simp only[go_sem,aXD])
 rintro⟨P,c,q⟩ ⟨hP,d,hc,y⟩;simp only at hP d hc y;simp only[go_sem,dh,acJ,nt];by_cases R:P.length<a.length
 ·have w:(P.length:Int)<(a.length:Nat):=Om;have Z:=ha _ (aUQ R);obtain⟨k,Q⟩:∃ k,a.length-P.length=k+1:=⟨a.length-P.length-1,by omega⟩;have γ:(aL (P++aUR (k+1) 0))[P.length]?=some [.int .u32 ((0:Nat):Int)]:=by rw[bU _ (by simp)]; simp
  have i:a.length-(P.length+1)=k:=Om;have ζ:=cI a R;have fin:∀ (t:Nat) (v:Int) (p:PF) (H':PH),t<4294967296→v=((a[P.length]:Int)-c-t)%18446744073709551616→val (b.take (P.length+1))=val (b.take P.length)+4294967296 ^ P.length*t →
    p 0=some (aK a)→p 1=some (aK b)→p 6=some (.osl q 1 0 a.length)→p 9=some (.int .u64 v)→p 8=some (.int .i64 P.length)→p 33=some (aK a)→p 34=some (.int .i64 (a.length:Nat))→p 35=some (.int .i64 P.length) →
    H' q=some (.rows 1 (aL (P++aUR (k+1) 0)))→∀ K:bR,(∀ u A O H2,u.length=P.length+1→Lim u→A≤1→val (a.take (P.length+1))+4294967296 ^ u.length*A=val u+val (b.take (P.length+1))→(nt a b q u.length A).le O→H2 q=some (.rows 1 (aL (u++aUR k 0)))→K .normal O H2) →
    aC.wp C (.seq (.region di) (.region dj)) (eQ 2 (gD C (aC.wp C (.region dk)) K)) p H':=by
   intro t v p H' ht hv l g0 g1 g6 g9 g8 W X Y gH K hK;obtain⟨E,J,M,H⟩:=Se Z ht hc v hv;have N:(aL (P++aUR (k+1) 0)).set P.length [.int .u32 ((UG a[P.length] c t:Nat):Int)]=aL ((P++[UG a[P.length] c t])++aUR k 0):=by rw[fP,zV]
   simp only[go_sem,di,g6,g8,g9,E,w,gH,γ,N,dj,alO,J,dk,Y,dA (Om:P.length<9223372036854775807)];refine hK (P++[UG a[P.length] c t]) (ef a[P.length] c t) _ _ (by simp) (d.app fun x hx=>by simp at hx; subst hx; exact H) (by unfold ef; split<;>omega) ?_ ?_ Sq
   ·rw[jS,aUS,aUX,aWL,aVO,ζ,l,aWX,← aVF,M,aVF,aVF];omega
   ·unfold nt;rw[aUS,aUX];refine c_ (c_ (c_ (c_ (c_ (c_ (c_ d_ ?_) ?_) ?_) ?_) ?_) ?_) ?_<;>simp only[go_sem,g0,g1,g6,W,X]
  have ea:IntKind.u64.wrap ((a[P.length]:Nat):Int)=((a[P.length]:Nat):Int):=bH Om;simp only[go_sem,w,Qt,Qu,bU a R,ea,Qv];by_cases S:P.length<b.length
  ·have B:(P.length:Int)<(b.length:Nat):=Om;have β:=hb _ (aUQ S);have l:=cI b S;have eb:IntKind.u64.wrap ((b[P.length]:Nat):Int)=((b[P.length]:Nat):Int):=bH Om;simp only[go_sem,B,Qw,bU b S,eb];refine fin b[P.length] (IntKind.u64.wrap (IntKind.u64.wrap ((a[P.length]:Int)-(c:Int))-(b[P.length]:Int))) _ _ β (by rw[fY,fY]; omega) l ?_ ?_ ?_ ?_ ?_ ?_ ?_ ?_ ?_ _ ?_
   any_goals simp only[go_sem,Q]
   intro u A O H2 E J M H U V;rw[← E] at H;refine aG (u,A,q) ⟨by simp only; omega,J,M,H⟩ (by simp only; omega) U (e_ a_ ?_);simp only;rw[E,i]; exact V
  ·have B:¬ (P.length:Int)<(b.length:Nat):=Om;have l:val (b.take (P.length+1))=val (b.take P.length)+4294967296 ^ P.length*0:=by rw[aVI Om,aVI Om]; simp
   simp only[go_sem,B];refine fin 0 (IntKind.u64.wrap ((a[P.length]:Int)-(c:Int))) _ _ (by decide) (by rw[fY]; omega) l ?_ ?_ ?_ ?_ ?_ ?_ ?_ ?_ ?_ _ ?_
   any_goals simp only[go_sem,Q]
   intro u A O H2 E J M H U V;rw[← E] at H;refine aG (u,A,q) ⟨by simp only; omega,J,M,H⟩ (by simp only; omega) U (e_ a_ ?_);simp only;rw[E,i]; exact V
 ·have e:P.length=a.length:=Om;have w:¬ (P.length:Int)<(a.length:Nat):=Om;have Q:aUR (a.length-P.length) 0=[]:=by rw[show a.length-P.length=0 by omega]; rfl
  have hV:val P=val a-val b:=by
   rw[e,aVP,aVI hl] at y;have hlt:=fG d;rw[e] at hlt;rcases aWZ c with h | h
   ·subst h; omega
   ·have:c=1:=Om;subst this; omega
  simp only[go_sem,w,Q,aWF,dl];have hs:=L.sized _ d Om;rw[hV] at hs;refine rB (o:=q) (s:=1) (k:=a.length) (rs:=aL P) (v:=szV (val a-val b)) ?_ rfl Sq (by rw[cD]; omega) ?_
  ·rw[aVI (by rw[cD]; omega)]; exact hs
  ·simp only[go_sem,szV];exact aX (.inr rfl) .nil rfl a_ ⟨.refl _,rfl⟩
def sM (a b:Nat):PV:=if eC a b then .tup [aK [],.int .i64 2] else if a<b then .tup [aK [],.int .i64 4] else szV (a-b)
theorem aHH {C:Ctx} (L:rQ C) (a b:List Nat) (e:Lim a) (i:Lim b) (x:a.length≤35184372087808) (y:b.length≤35184372087808) :
  TF.wp C (aU azT.res (bX (sM (val a) (val b)))) (PF.args [aK a,aK b]) .nil:=by
 simp only[go_sem,TF,acE,acF,azT];refine aA (L.large a e x) rfl ?_;by_cases c:nl (val a)>512
 ·simp only[go_sem,c,vk];rw[show sM (val a) (val b)=.tup [aK [],.int .i64 2] by simp[sM,eC,c]];exact eW rfl
 simp only[go_sem,c];refine aA (L.large b i y) rfl ?_;by_cases d:nl (val b)>512
 ·simp only[go_sem,d,vk];rw[show sM (val a) (val b)=.tup [aK [],.int .i64 2] by simp[sM,eC,d]];exact eW rfl
 simp only[go_sem,d,acG];refine aA (L.cmp a b e i x y) rfl ?_;by_cases l:val a<val b
 ·have w:dQ (val a) (val b)<0:=by simp[dQ,l]
  simp only[go_sem,w,acH];rw[show sM (val a) (val b)=.tup [aK [],.int .i64 4] by simp[sM,eC,c,d,l]];exact eW rfl
 have w:¬ dQ (val a) (val b)<0:=by unfold dQ;rw[if_neg l];split<;>decide
 rw[show sM (val a) (val b)=szV (val a-val b) by simp[sM,eC,c,d,l]];simp only[go_sem,w];refine bS .nil akJ a_ ?_;simp only[go_sem,acI];have E:=fO e;have F:=fO i;have p:((nl (val a):Nat):Int)≤(a.length:Nat):=Om;have u:((nl (val b):Nat):Int)≤(b.length:Nat):=Om;refine bY (oX a) (L.length a e x) rfl a_ ?_;simp only[go_sem,p,or_true,aVY,jP e];refine bY (oX b) (L.length b i y) rfl a_ ?_;simp only[go_sem,u,or_true,aVY,jP i];have A:=aT (val a);have B:=aT (val b);have H:=fX (Om:val b≤val a);have:=aqP L (aJ (val a)) (aJ (val b)) (aV _) (aV _) Om (by rw[bB,bB]; omega) (by rw[bB]; omega);rw[A,B] at this;exact this _ rfl rfl
end Go.PM
namespace Go.Na
def dZ:Nat→Nat→List Nat
 | 0,_=>[]
 | k+1,n=>(n%4294967296)::dZ k (n/4294967296)
theorem lO:∀ k n,(dZ k n).length=k
 | 0,_=>rfl
 | k+1,n=>by simp[dZ,lO k]
theorem JB {xs:List Nat} (h:Lim xs):dZ xs.length (val xs)=xs:=by
 induction xs with
 | nil=>rfl
 | cons x xs i =>have l:=h x (by simp);have c:(x+4294967296*val xs)%4294967296=x:=Om;have d:(x+4294967296*val xs)/4294967296=val xs:=Om;simp only[aWH,dZ,val];rw[c,d,i fun y e=>h y (by simp[e])]
theorem nC:∀ k n,Lim (dZ k n)
 | 0,_=>fun x hx=>by cases hx
 | k+1,n=>fun x hx=>by
  simp only[dZ,aVC] at hx;rcases hx with rfl | hx
  ·exact aWJ _ (by decide)
  ·exact nC k _ x hx
theorem BI:∀ k n,val (dZ k n)=n%4294967296 ^ k
 | 0,n=>by simp[dZ,val,Nat.mod_one]
 | k+1,n=>by simp only[dZ,val,BI k];rw[aWL,aVR (4294967296 ^ k) 4294967296,Nat.mod_mul]
theorem pB {k n:Nat} (h:n<4294967296 ^ k):val (dZ k n)=n:=by rw[BI,aWA h]
end Go.Na
namespace Go.PM
open Go Go.Na
theorem aNA {a b:Nat} (c:a<18446744073709551616) (d:b<18446744073709551616):(BitVec.ofInt 64 (a:Int) ||| BitVec.ofInt 64 (b:Int)).toNat=a ||| b:=by
 rw[BitVec.ofInt_natCast,BitVec.ofInt_natCast,BitVec.toNat_or,BitVec.toNat_ofNat,BitVec.toNat_ofNat,aWA (by simpa using c),aWA (by simpa using d)]
theorem Q8 {c x s:Nat} (d:c<2 ^ s) (h:c+2 ^ s*x<18446744073709551616):c ||| (2 ^ s*x)=c+2 ^ s*x:=by
 rw[Nat.or_comm,← Nat.two_pow_add_eq_or_of_lt d,Nat.add_comm]
theorem orI {a b n:Nat} (c:a<18446744073709551616) (d:b<18446744073709551616) (h:a ||| b=n) (e:n<18446744073709551616):lM .or .u64 (a:Int) (b:Int)=some (.int .u64 (n:Int)):=by
 show some (PV.int .u64 (IntKind.u64.wrap (((BitVec.ofInt 64 (a:Int) ||| BitVec.ofInt 64 (b:Int)).toNat:Nat):Int)))=_;rw[aNA c d,h,bH e]
theorem NJ {x s:Nat} (c:s≤64) (h:x*2 ^ s<18446744073709551616):shift .shl .u64 (x:Int) (s:Int)=some (.int .u64 ((2 ^ s*x:Nat):Int)):=by
 unfold shift;rw[if_neg Om];simp only;have:min (Int.toNat (s:Int)) IntKind.u64.bits=s:=by rw[show IntKind.u64.bits=64 from rfl]; omega
 rw[this,show (x:Int)*2 ^ s=((x*2 ^ s:Nat):Int) by simp,bH h,aVR]
def azW (a:List Nat) (s o i c:Nat):PF:=(((((((PF.nil.set 0 (aK a)).set 1 (.int .u64 s)).set 5 (.osl o 1 0 (a.length+1))).set 6 (.int .u64 c)).set 13 (aK a)).set 14 (.int .i64 (a.length:Nat))).set 15 (.int .i64 i))
def upR (a:List Nat) (s:Nat) (r:PV) (H:PH):Prop:=∃ o,r=.osl o 1 0 (a.length+1)∧H=PH.nil.set o (.rows 1 (aL (dZ (a.length+1) (val a*2 ^ s))))
theorem aKP {C:Ctx} (a:List Nat) (s:Nat) (ha:Lim a) (hs:s<32) (h1:a.length≤1000):dp.wp C (aU nup.res (upR a s)) (PF.args [aK a,.int .u64 s]) .nil:=by
 have F:IntKind.i64.wrap ((a.length:Int)+1)=((a.length+1:Nat):Int):=dA Om;have S:((a.length+1:Nat):Int)*((4:Nat):Int)≤140737488355328:=Om;have U:((a.length+1:Nat):Int)≤9223372036854775807:=Om;have hz:aUR (a.length+1) [PV.int .u32 0]=aL ([]++aUR (a.length+1) 0):=by simp[aL]
 have N:2 ^ s≤2147483648:=aYK (show 0<2 by decide) (Om:s≤31);have B:0<2 ^ s:=aXK (by decide);simp only[go_sem,dp,aqQ,aqR,nup,F,S,U,hz];refine aO fun o ho=>?_;simp only[go_sem,aqS,aqT];refine wp_loop (α:=List Nat × Nat × Nat) (fun t=>azW a s t.2.2 t.1.length t.2.1) (fun t=>PH.nil.set t.2.2 (.rows 1 (aL (t.1++aUR (a.length+1-t.1.length) 0))))
  (fun t=>t.1.length≤a.length∧Lim t.1∧t.2.1<2 ^ s∧val t.1+4294967296 ^ t.1.length*t.2.1=val (a.take t.1.length)*2 ^ s) (fun t=>a.length-t.1.length) ([],0,o) ⟨by simp,by simp[Lim],B,by simp[val]⟩ ?_ ?_ ?_
 ·unfold azW;exact Lq
 ·exact e_ a_ (by simp only[go_sem,aXD])
 rintro⟨P,c,q⟩ ⟨Z,d,X,l⟩;simp only at Z d X l;simp only[go_sem,acK,aqU,azW];by_cases J:P.length<a.length
 ·have p:(P.length:Int)<(a.length:Nat):=Om;have β:=ha _ (aUQ J);obtain⟨k,R⟩:∃ k,a.length+1-P.length=k+1:=⟨a.length-P.length,by omega⟩;have w:(aL (P++aUR (k+1) 0))[P.length]?=some [.int .u32 ((0:Nat):Int)]:=by rw[bU _ (by simp)]; simp
  have A:a.length+1-(P.length+1)=k:=Om;have u:(P.length:Int)<((a.length+1:Nat):Int):=Om;have V:=cI a J;generalize W:a[P.length]=x at *
  have γ:x*2 ^ s≤4294967295*2147483648:=aXX Om N;have ex:IntKind.u64.wrap ((x:Nat):Int)=((x:Nat):Int):=bH Om;have H:2 ^ s*x=x*2 ^ s:=aVR _ _;have M:shift .shl .u64 (x:Int) (s:Int)=some (.int .u64 ((2 ^ s*x:Nat):Int)):=NJ Om Om;have K:=orI (a:=c) (b:=2 ^ s*x) (n:=c+2 ^ s*x) Om Om (Q8 X Om) Om;have E:(c+2 ^ s*x)/4294967296<2 ^ s:=by rw[aXP (by decide)];have:2 ^ s*(x+1)≤2 ^ s*4294967296:=aXA _ Om;rw[aVF,Nat.mul_one] at this;omega
  have i:(aL (P++aUR (k+1) 0)).set P.length [.int .u32 (((c+2 ^ s*x)%4294967296:Nat):Int)]=aL ((P++[(c+2 ^ s*x)%4294967296])++aUR k 0):=by rw[fP,zV]
  have Q:(aL a)[P.length]?=some [.int .u32 ((x:Nat):Int)]:=by rw[bU a J,W]
  simp only[go_sem,p,aqV,aqW,Q,ex,M,K,aqX,cL,R,u,w,i,aqY,yP,aqZ,dA (Om:P.length<9223372036854775807)];refine aG (P++[(c+2 ^ s*x)%4294967296],(c+2 ^ s*x)/4294967296,q) ⟨by simp; omega,d.app fun y Y=>by simp at Y; subst Y; exact aWJ _ (by decide),E,?_⟩ (by simp; omega) ?_ (e_ a_ ?_)
  ·simp only;rw[jS,aUS,aUX,aWL,aVO,aWX,← aVF,Nat.mod_add_div,V,aVF,aVU,← aWX,l,H,aVO]
  ·simp only;rw[aUS,aUX];exact Lq
  ·simp only;rw[aUS,aUX,A];simp only[go_sem]
 ·have e:P.length=a.length:=Om;have p:¬ (P.length:Int)<(a.length:Nat):=Om;have R:aUR (a.length+1-P.length) 0=[0]:=by rw[show a.length+1-P.length=1 by omega]; rfl
  have w:(aL (P++[0]))[a.length]?=some [.int .u32 ((0:Nat):Int)]:=by rw[bU _ (by simp; omega)];simp[e]
  have i:(aL (P++[0])).set a.length [.int .u32 ((c%4294967296:Nat):Int)]=aL (P++[c]):=by have:=zV P 0 (c%4294967296);simp only[List.replicate_zero,aWF,aVH,List.replicate_one] at this;rw[← e,fP,this,aWA Om]
  have u:(a.length:Int)<((a.length+1:Nat):Int):=Om;have hV:val (P++[c])=val a*2 ^ s:=by rw[jS,l,e,aVP]
  have O:Lim (P++[c]):=d.app fun x W=>by simp at W; omega
  have hD:dZ (a.length+1) (val a*2 ^ s)=P++[c]:=by have:=JB O;rw[hV,aUS,aUX,e] at this;exact this
  simp only[go_sem,p,acL,cL,R,w,u,i,acM];exact aX (vs:=[.osl q 1 0 (a.length+1)]) (.inr rfl) (PH.nil.set q (.rows 1 (aL (P++[c])))) Ev (e_ a_ Sq) ⟨q,rfl,by rw[hD]⟩
def vj (a:List Nat) (d o k r:Nat):PF:=(((((PF.nil.set 0 (aK a)).set 1 (.int .u32 d)).set 6 (.osl o 1 0 a.length)).set 7 (.int .u64 r)).set 8 (.int .i64 ((k:Int)-1)))
theorem aqL {C:Ctx} (L:rQ C) (a:List Nat) (d:Nat) (ha:Lim a) (i:0<d) (hd:d<4294967296) (h1:a.length≤1000) :
  FJ.wp C (aU Qr.res (aI (.tup [aK (aJ (val a/d)),.int .u32 ((val a%d:Nat):Int)]))) (PF.args [aK a,.int .u32 d]) .nil:=by
 have W:(a.length:Int)*((4:Nat):Int)≤140737488355328:=Om;have X:(a.length:Int)≤9223372036854775807:=Om;have hz:aUR a.length [PV.int .u32 0]=aL (aUR a.length 0++[]):=by simp[aL]
 simp only[go_sem,FJ,Bg,Bh,Qr,W,X,hz];refine aO fun o ho=>?_;simp only[go_sem,Bi,Bj];refine wp_loop (α:=Nat × List Nat × Nat × Nat) (fun t=>vj a d t.2.2.2 t.1 t.2.2.1) (fun t=>PH.nil.set t.2.2.2 (.rows 1 (aL (aUR t.1 0++t.2.1))))
  (fun t=>t.1+t.2.1.length=a.length∧Lim t.2.1∧t.2.2.1<d∧val t.2.1*d+t.2.2.1=val (a.drop t.1)) (fun t=>t.1) (a.length,[],0,o) ⟨by simp,by simp[Lim],i,by simp[val]⟩ ?_ ?_ ?_
 ·unfold vj
  (repeat' (first|exact d_|refine c_ ?_ ?_))<;>first|(simp only[go_sem,wrap_i64 (Om:-9223372036854775808≤(a.length:Int)-1) (Om:(a.length:Int)-1≤9223372036854775807)]<;>rfl)|rfl
 ·exact e_ a_ Sq
 rintro⟨k,S,r,q⟩ ⟨hk,c,K,e⟩;simp only at hk c K e;simp only[go_sem,Bf,Bk,vj];by_cases h0:0<k
 ·obtain⟨m,rfl⟩:∃ m,k=m+1:=⟨k-1,by omega⟩;have u:((m+1:Nat):Int)-1=(m:Int):=Om;have U:(m:Int)≥0:=Om;have p:m<a.length:=Om;have hlt:(m:Int)<(a.length:Nat):=Om;have β:=ha _ (aUQ p);have l:val (a.drop m)=a[m]+4294967296*val (a.drop (m+1)):=by rw[aWM p]; rfl
  generalize hx:a[m]=x at *
  have N:(aL a)[m]?=some [.int .u32 ((x:Nat):Int)]:=by rw[bU a p,hx]
  have ex:IntKind.u64.wrap ((x:Nat):Int)=((x:Nat):Int):=bH Om;have ed:IntKind.u64.wrap ((d:Nat):Int)=((d:Nat):Int):=bH Om;have E:shift .shl .u64 (r:Int) 32=some (.int .u64 ((2 ^ 32*r:Nat):Int)):=NJ (s:=32) Om Om;have M:(2:Nat) ^ 32=4294967296:=by decide
  have w:=orI (a:=2 ^ 32*r) (b:=x) (n:=2 ^ 32*r+x) Om Om (Nat.two_pow_add_eq_or_of_lt Om r).symm Om;rw[M] at E w;have J:(4294967296*r+x)/d<4294967296:=by rw[aXP i];have:4294967296*(r+1)≤4294967296*d:=aXA _ K;omega
  have O:¬ ((d:Nat):Int)=0:=Om;have A:IntKind.u64.wrap (Int.tdiv ((4294967296*r+x:Nat):Int) ((d:Nat):Int))=(((4294967296*r+x)/d:Nat):Int):=by rw[show Int.tdiv ((4294967296*r+x:Nat):Int) ((d:Nat):Int)=(((4294967296*r+x)/d:Nat):Int) from rfl];exact bH Om
  have B:Int.tmod ((4294967296*r+x:Nat):Int) ((d:Nat):Int)=(((4294967296*r+x)%d:Nat):Int):=rfl;have Z:IntKind.u32.wrap (((4294967296*r+x)/d:Nat):Int)=(((4294967296*r+x)/d:Nat):Int):=by rw[cL,aWA J]
  have F:aUR (m+1) 0++S=aUR m 0++(0::S):=by rw[List.replicate_succ',aVS]; rfl
  have V:(aL (aUR m 0++(0::S)))[m]?=some [.int .u32 ((0:Nat):Int)]:=by rw[bU _ (by simp)]; simp
  have H:(aL (aUR m 0++(0::S))).set m [.int .u32 (((4294967296*r+x)/d:Nat):Int)]=aL (aUR m 0++(((4294967296*r+x)/d)::S)):=by rw[fP,aXO _ _ (by simp)]; simp
  simp only[go_sem,u,U,Bl,E,N,ex,w,Bm,ed,O,A,Z,hlt,F,V,H,Bn,B,Bo];refine aG (m,((4294967296*r+x)/d)::S,(4294967296*r+x)%d,q) ⟨by simp only[aWH]; omega,fun y hy=>?_,aWJ _ i,?_⟩ (by simp only; omega) ?_ (e_ a_ Sq)
  ·rw[aVC] at hy;rcases hy with rfl | hy
   ·exact J
   ·exact c y hy
  ·simp only[val];rw[l,← e,aVU,aVF,aVO];have:=aYC (4294967296*r+x) d;rw[aVR d] at this;omega
  ·(repeat' (first|exact d_|refine c_ ?_ ?_))<;>first|(simp only[go_sem,wrap_i64 (Om:-9223372036854775808≤(m:Int)-1) (Om:(m:Int)-1≤9223372036854775807)]<;>rfl)|rfl
 ·have:k=0:=Om;subst this;have u:¬ ((0:Nat):Int)-1≥0:=by decide
  rw[aVY] at e;have hS:S.length=a.length:=Om;have J:val S=val a/d:=by rw[← e,aVR,Nat.mul_add_div i,aYD K,aWY]
  have Y:r=val a%d:=by rw[← e,aVR,Nat.mul_add_mod,aWA K]
  have γ:aUR 0 0++S=S:=by simp
  simp only[go_sem,u,nr,List.nil_append];have hl:=L.length S c Om;have δ:=fO c;have hc:((nl (val S):Nat):Int)≤(S.length:Nat):=Om;refine rB (o:=q) (s:=1) (k:=a.length) (rs:=aL S) (v:=.int .i64 (nl (val S):Nat)) ?_ Sq Sq (by rw[cD]; omega) ?_
  ·rw[aVI (by rw[cD]; omega)]; exact hl
  ·have R:PV.frz q 1 (aL S) (.osl q 1 0 a.length)=aK S:=by
    have:0+a.length≤(aL S).length:=by rw[cD]; omega
    simp only[PV.frz,PV.tQ,PV.dH,if_true,true_and,if_pos this,aVY];rw[aVI (by rw[cD]; omega)]
   have Q:∀ n:Int,∀ k,PV.frz q 1 (aL S) (.int k n)=.int k n:=fun _ _=>rfl;have er:IntKind.u32.wrap ((r:Nat):Int)=((r:Nat):Int):=by rw[cL,aWA Om]
   simp only[go_sem,R,Q,hc,or_true,aVY,jP c,er];refine aX (vs:=[aK (aJ (val S)),.int .u32 ((r:Nat):Int)]) (.inr rfl) .nil Ev a_ ⟨?_,rfl⟩;simp only[bQ,← J,← Y]
end Go.PM
namespace Go.Na
theorem HZ {L:List Nat} {i:Nat} (h:i<L.length) (v:Nat):val (L.set i v)+4294967296 ^ i*L[i]=val L+4294967296 ^ i*v:=by
 have c:i<(L.set i v).length:=by rw[aWU]; exact h
 rw[sX L h,sX (L.set i v) c,List.getElem_set_self,List.take_set_of_le (aUU _),List.drop_set_of_lt Om,aVF,aVF];omega
theorem q9 {L:List Nat} {i:Nat} (h:∀ (j x:Nat),i≤j→L[j]?=some x→x=0) (k v:Nat) (e:k<i):∀ (j x:Nat),i≤j→(L.set k v)[j]?=some x→x=0:=fun j x d c=>by
 rw[List.getElem?_set_ne Om] at c;exact h j x d c
end Go.Na
namespace Go.PM
open Go Go.Na
def lE (a b:List Nat) (o i:Nat):PF:=((((((PF.nil.set 0 (aK a)).set 1 (aK b)).set 6 (.osl o 1 0 (a.length+b.length))).set 32 (aK a)).set 33 (.int .i64 (a.length:Nat))).set 34 (.int .i64 i))
def akW (a b:List Nat) (o i x c j:Nat):PF:=((((((((((((PF.nil.set 0 (aK a)).set 1 (aK b)).set 6 (.osl o 1 0 (a.length+b.length))).set 32 (aK a)).set 33 (.int .i64 (a.length:Nat))).set 34 (.int .i64 i)).set 7 (.int .i64 i)).set 8 (.int .u32 x)).set 9 (.int .u64 c)).set 39 (aK b)).set 40 (.int .i64 (b.length:Nat))).set 41 (.int .i64 j))
structure HC (a b L:List Nat) (i:Nat):Prop where
 len:L.length=a.length+b.length
 lim:Lim L
 v:val L=val (a.take i)*val b
 z:∀ j x,i+b.length≤j→L[j]?=some x→x=0
theorem aaV {x y:Nat} (c:x<4294967296) (d:y<4294967296):IntKind.u64.wrap ((x:Int)*(y:Int))=((x*y:Nat):Int):=by
 have:x*y≤4294967295*4294967295:=aXX Om Om;rw[show (x:Int)*(y:Int)=((x*y:Nat):Int) by simp];exact bH Om
theorem gS {a b:Nat} (h:a+b≤9223372036854775807):IntKind.i64.wrap ((a:Int)+(b:Int))=((a+b:Nat):Int):=by
 rw[wrap_i64 Om Om]; omega
theorem azS {C:Ctx} (a b:List Nat) (ha:Lim a) (hb:Lim b) (h1:a.length≤1000) (h2:b.length≤1000) (L:List Nat) (i:Nat) (hi:i<a.length) (N:HC a b L i) (q:Nat) (K:bR) (F:PF) (H:PH) (J:(lE a b q i).le F) (hH:H q=some (.rows 1 (aL L)))
  (hK:∀ L' F' H',HC a b L' (i+1)→(lE a b q i).le F'→H' q=some (.rows 1 (aL L'))→K .normal F' H') :
  aC.wp C (.block 1 (.seq (.region vf) (.seq (.region vh) (.seq (.seq (.region vi) (.block 2 (.loop da))) (.region dd))))) K F H:=by
 have f0:=J 0 _ (by unfold lE; simp only[go_sem]; rfl);have f1:=J 1 _ (by unfold lE; simp only[go_sem]; rfl);have f6:=J 6 _ (by unfold lE; simp only[go_sem]; rfl);have S:=J 32 _ (by unfold lE; simp only[go_sem]; rfl);have η:=J 33 _ (by unfold lE; simp only[go_sem]; rfl);have U:=J 34 _ (by unfold lE; simp only[go_sem]; rfl);have hx:=ha _ (aUQ hi);have β:=cI a hi;generalize δ:a[i]=x at *
 have X:(aL a)[i]?=some [.int .u32 ((x:Nat):Int)]:=by rw[bU a hi,δ]
 simp only[go_sem,vf,vh,vi,S,U,f1,X];refine wp_loop (α:=List Nat × Nat × Nat) (fun t=>akW a b q i x t.2.1 t.2.2) (fun t=>PH.nil.set q (.rows 1 (aL t.1)))
  (fun t=>t.2.2≤b.length∧t.1.length=a.length+b.length∧Lim t.1∧t.2.1<4294967296∧val t.1+4294967296 ^ (i+t.2.2)*t.2.1=val (a.take i)*val b+4294967296 ^ i*(x*val (b.take t.2.2))∧∀ j y,i+b.length≤j→t.1[j]?=some y→y=0) (fun t=>b.length-t.2.2) (L,0,0)
  ⟨by simp,N.len,N.lim,by simp,by simp[val,N.v],N.z⟩ ?_ (e_ a_ hH) ?_
 ·unfold akW;exact Lq
 rintro⟨M,c,j⟩ ⟨hj,W,e,Z,u,Q⟩;simp only at hj W e Z u Q;simp only[go_sem,da,Qj,akW];by_cases R:j<b.length
 ·have w:(j:Int)<(b.length:Nat):=Om;have O:=hb _ (aUQ R);have γ:=cI b R;generalize ε:b[j]=y at *
  have Y:(aL b)[j]?=some [.int .u32 ((y:Nat):Int)]:=by rw[bU b R,ε]
  have d:i+j<M.length:=Om;have E:=e _ (aUQ d);have p:=HZ d;generalize ζ:M[i+j]=z at *
  have B:(aL M)[i+j]?=some [.int .u32 ((z:Nat):Int)]:=by rw[bU M d,ζ]
  have ex:IntKind.u64.wrap ((x:Nat):Int)=((x:Nat):Int):=bH Om;have ey:IntKind.u64.wrap ((y:Nat):Int)=((y:Nat):Int):=bH Om;have ez:IntKind.u64.wrap ((z:Nat):Int)=((z:Nat):Int):=bH Om;have em:=aaV hx O;have ι:x*y≤4294967295*4294967295:=aXX Om Om;have e1:IntKind.u64.wrap (((x*y:Nat):Int)+(z:Int))=((x*y+z:Nat):Int):=fH Om;have e2:IntKind.u64.wrap ((c:Int)+((x*y+z:Nat):Int))=((c+(x*y+z):Nat):Int):=fH Om;have A:IntKind.i64.wrap ((i:Int)+(j:Int))=((i+j:Nat):Int):=gS Om;have hlt:((i+j:Nat):Int)<((a.length+b.length:Nat):Int):=Om;generalize ht:c+(x*y+z)=t at *
  have θ:t<4294967296*4294967296:=Om;have l:(aL M).set (i+j) [.int .u32 ((t%4294967296:Nat):Int)]=aL (M.set (i+j) (t%4294967296)):=fP M (i+j) _;simp only[go_sem,w,Qk,Y,Ql,ex,ey,em,A,hlt,B,ez,e1,e2,Qm,cL,l,Qn,yP,Qo,wZz j];refine aG (M.set (i+j) (t%4294967296),t/4294967296,j+1) ⟨by simp only; omega,by simp only[aWU]; exact W,e.set _ (aWJ _ (by decide)),by simp only; omega,?_,q9 Q _ _ Om⟩ (by simp only; omega) ?_ (e_ a_ Sq)
  ·simp only;have V:=p (t%4294967296);have h4:4294967296 ^ (i+(j+1))*(t/4294967296)+4294967296 ^ (i+j)*(t%4294967296)=4294967296 ^ (i+j)*t:=by rw[← aWX,aWL,aVO,← aVF,aYC]
   have h5:4294967296 ^ (i+j)*t=4294967296 ^ (i+j)*c+(4294967296 ^ (i+j)*(x*y)+4294967296 ^ (i+j)*z):=by rw[← ht,aVF,aVF]
   have h6:4294967296 ^ i*(x*val (b.take (j+1)))=4294967296 ^ i*(x*val (b.take j))+4294967296 ^ (i+j)*(x*y):=by rw[γ,aVF,aVF,Nat.pow_add];congr 1;rw[Nat.mul_left_comm x,aVO]
   omega
  ·exact Lq
 ·have he:j=b.length:=Om;have w:¬ (j:Int)<(b.length:Nat):=Om;subst he;have d:i+b.length<M.length:=Om;have E:M[i+b.length]=0:=Q _ _ (aUU _) (aVB d);have p:=HZ d;have B:(aL M)[i+b.length]?=some [.int .u32 ((0:Nat):Int)]:=by rw[bU M d,E]
  have A:IntKind.i64.wrap ((i:Int)+(b.length:Int))=((i+b.length:Nat):Int):=gS Om;have hlt:((i+b.length:Nat):Int)<((a.length+b.length:Nat):Int):=Om;have l:(aL M).set (i+b.length) [.int .u32 ((c%4294967296:Nat):Int)]=aL (M.set (i+b.length) c):=by rw[aWA Z]; exact fP M _ _
  simp only[go_sem,w,dd,A,cL,hlt,B,l];refine hK (M.set (i+b.length) c) _ _ ⟨by rw[aWU]; exact W,e.set _ Z,?_,fun j y hj O=>?_⟩ (by unfold lE; exact Lq) Sq
  ·have V:=p c;rw[E,Nat.mul_zero,aWY] at V;rw[V,u,aVP,β,aVU,aVO]
  ·rw[List.getElem?_set_ne Om] at O;exact Q j y Om O
theorem aqK {C:Ctx} (L:rQ C) (a b:List Nat) (R:Lim a) (S:Lim b) (O:a.length≤1000) (Q:b.length≤1000) (F:PF) (f0:F 0=some (aK a)) (f1:F 1=some (aK b)) :
  aC.wp C (.seq (.region vd) (.seq (.seq (.region ve) (.block 0 (.loop db))) (.seq (.region de) .ret))) (aU [.tmp 4,.tmp 5] (bX (szV (val a*val b)))) F .nil:=by
 have l:IntKind.i64.wrap ((a.length:Int)+(b.length:Int))=((a.length+b.length:Nat):Int):=gS Om;have A:((a.length+b.length:Nat):Int)*((4:Nat):Int)≤140737488355328:=Om;have B:((a.length+b.length:Nat):Int)≤9223372036854775807:=Om;have V:aUR (a.length+b.length) [PV.int .u32 0]=aL (aUR (a.length+b.length) 0):=by simp[aL]
 simp only[go_sem,vd,f0,f1,l,A,B,V];refine aO fun o Y=>?_;simp only[go_sem,ve,f0];refine wp_loop (α:=List Nat × Nat) (fun t=>lE a b o t.2) (fun t=>PH.nil.set o (.rows 1 (aL t.1))) (fun t=>t.2≤a.length∧HC a b t.1 t.2) (fun t=>a.length-t.2) (aUR (a.length+b.length) 0,0)
  ⟨by simp,by simp,xA _,by simp[val,tA],fun j x _ H=>by rw[List.getElem?_replicate] at H; split at H<;>simp_all⟩ ?_ (e_ a_ Sq) ?_
 ·unfold lE;exact Lq
 rintro⟨M,i⟩ ⟨hi,d⟩;simp only at hi d;simp only[go_sem,db,acD,lE];by_cases J:i<a.length
 ·have e:(i:Int)<(a.length:Nat):=Om;have p:=azS (C:=C) a b R S O Q M i J d o;simp only[go_sem] at p;simp only[go_sem,e];refine p _ _ _ (by unfold lE; exact Lq) Sq ?_;intro L' W H' y c w;have u:=c 34 _ (by unfold lE; simp only[go_sem]; rfl);have g0:=c 0 _ (by unfold lE; simp only[go_sem]; rfl);have g1:=c 1 _ (by unfold lE; simp only[go_sem]; rfl);have X:=c 6 _ (by unfold lE; simp only[go_sem]; rfl);have K:=c 32 _ (by unfold lE; simp only[go_sem]; rfl);have N:=c 33 _ (by unfold lE; simp only[go_sem]; rfl);simp only[go_sem,Qp,u,wZz i];refine aG (L',i+1) ⟨by simp only; omega,y⟩ (by simp only; omega) ?_ (e_ a_ w);exact Lq
 ·have U:i=a.length:=Om;subst U;have e:¬ (a.length:Int)<(a.length:Nat):=Om;have hV:val M=val a*val b:=by rw[d.v,aVP]
  simp only[go_sem,de];have E:=L.sized _ d.lim (by rw[d.len]; omega);rw[hV] at E;refine rB (o:=o) (s:=1) (k:=a.length+b.length) (rs:=aL M) (v:=szV (val a*val b)) ?_ rfl Sq (by rw[cD,d.len]; exact aUU _) ?_
  ·rw[aVI (by rw[cD,d.len]; exact aUU _)]; exact E
  ·simp only[go_sem,szV];exact aX (.inr rfl) .nil rfl a_ ⟨.refl _,rfl⟩
theorem aHF {C:Ctx} (L:rQ C) (a b:List Nat) (i:Lim a) (l:Lim b) (w:a.length≤35184372087808) (x:b.length≤35184372087808) :
  TC.wp C (aU azR.res (bX (opV (eC (val a) (val b)) (val a*val b)))) (PF.args [aK a,aK b]) .nil:=by
 simp only[go_sem,TC,acA,acB,azR];refine aA (L.large a i w) rfl ?_;by_cases c:nl (val a)>512
 ·simp only[go_sem,c,vb];rw[show opV (eC (val a) (val b)) (val a*val b)=.tup [aK [],.int .i64 2] by simp[opV,eC,c]];exact eW rfl
 simp only[go_sem,c];refine aA (L.large b l x) rfl ?_;by_cases d:nl (val b)>512
 ·simp only[go_sem,d,vb];rw[show opV (eC (val a) (val b)) (val a*val b)=.tup [aK [],.int .i64 2] by simp[opV,eC,d]];exact eW rfl
 have e:opV (eC (val a) (val b)) (val a*val b)=szV (val a*val b):=by simp[opV,eC,c,d]
 rw[e];simp only[go_sem,d];refine bS .nil akJ a_ ?_;simp only[go_sem,acC];have B:=fO i;have E:=fO l;have p:((nl (val a):Nat):Int)≤(a.length:Nat):=Om;have u:((nl (val b):Nat):Int)≤(b.length:Nat):=Om;refine bY (oX a) (L.length a i w) rfl a_ ?_;simp only[go_sem,p,or_true,aVY,jP i];refine bY (oX b) (L.length b l x) rfl a_ ?_;simp only[go_sem,u,or_true,aVY,jP l];have y:=aT (val a);have A:=aT (val b);have:=aqK L (aJ (val a)) (aJ (val b)) (aV _) (aV _) (by rw[bB]; omega) (by rw[bB]; omega);rw[y,A] at this;have:=fun F f0 f1=>this F f0 f1;simp only[go_sem] at this;exact this _ rfl rfl
open Go Go.Na
theorem oa {A P W Z:List Nat} {i:Nat} (d:P.length=i) (hi:i<W.length):(aL (A++(P++W.drop i)++Z))[A.length+i]?=some [.int .u32 ((W[i]:Nat):Int)]:=by
 have c:A.length+i<(A++(P++W.drop i)++Z).length:=by simp; omega
 rw[bU _ c];congr 4;rw[aYM (by simp; omega),aYL Om,aYL Om,List.getElem_drop];congr 1;omega
theorem HX {A P W Z:List Nat} {i:Nat} (c:P.length=i) (hi:i<W.length) (v:Nat):(aL (A++(P++W.drop i)++Z)).set (A.length+i) [.int .u32 (v:Int)]=aL (A++((P++[v])++W.drop (i+1))++Z):=by
 rw[fP];congr 1;rw[List.set_append_left _ _ (by simp; omega),aXO _ _ Om,aXO _ _ Om,aWM hi];rw[show A.length+i-A.length-P.length=0 by omega,aYB];simp
theorem avC {t:Nat} (h:t<18446744073709551616):lM .and .u64 (t:Int) 4294967295=some (.int .u64 ((t%4294967296:Nat):Int)):=by
 show some (PV.int .u64 (IntKind.u64.wrap (((BitVec.ofInt 64 (t:Int) &&& BitVec.ofInt 64 (4294967295:Int)).toNat:Nat):Int)))=_;have e:BitVec.ofInt 64 (4294967295:Int)=BitVec.ofNat 64 4294967295:=by rfl
 rw[e,BitVec.ofInt_natCast,BitVec.toNat_and,BitVec.toNat_ofNat,BitVec.toNat_ofNat,aWA (by simpa using h)];have c:(4294967295:Nat)%2 ^ 64=2 ^ 32-1:=by decide
 rw[c,Nat.and_two_pow_sub_one_eq_mod];rw[bH (Nat.lt_of_lt_of_le (aWJ _ (by decide)) (by decide))]
theorem avI {c f x:Nat} (e:c<4294967296) (d:f≤4294967296) (i:x<4294967296):c+f*x<18446744073709551616∧(c+f*x)/4294967296<4294967296∧f*x≤4294967296*4294967295:=by
 have:f*x≤4294967296*4294967295:=aXX d Om;refine⟨by omega,?_,this⟩;omega
def Qx (v:List Nat) (j o i c b:Nat) (f:Nat):PF:=((((((((PF.nil.set 0 (.osl o 1 j (v.length+1))).set 1 (aK v)).set 2 (.int .u64 f)).set 7 (.int .u64 c)).set 8 (.int .u64 b)).set 13 (aK v)).set 14 (.int .i64 (v.length:Nat))).set 15 (.int .i64 i))
def NN (n w m:Nat):Nat:=if w<m then w+4294967296 ^ n-m else w-m
theorem Qy {C:Ctx} (A W Z v:List Nat) (f:Nat) (hW:Lim W) (hv:Lim v) (hl:W.length=v.length+1) (h1:A.length+v.length≤100000) (hf:f≤4294967296) (ν:val v*f≤val W+4294967296 ^ (v.length+1)) (o:Nat) :
  vK.wp C (aU TG.res (fun r H'=>r=.bool (decide (val W<val v*f))∧H'=PH.nil.set o (.rows 1 (aL (A++dZ (v.length+1) (NN (v.length+1) (val W) (val v*f))++Z)))))
   (PF.args [.osl o 1 A.length (v.length+1),aK v,.int .u64 f]) (PH.nil.set o (.rows 1 (aL (A++W++Z)))):=by
 simp only[go_sem,vK,TH,TI,TJ,TG];refine wp_loop (α:=List Nat × Nat × Nat) (fun t=>Qx v A.length o t.1.length t.2.1 t.2.2 f) (fun t=>PH.nil.set o (.rows 1 (aL (A++(t.1++W.drop t.1.length)++Z))))
  (fun t=>t.1.length≤v.length∧Lim t.1∧t.2.1<4294967296∧t.2.2≤1∧val (W.take t.1.length)+4294967296 ^ t.1.length*t.2.2+4294967296 ^ t.1.length*t.2.1=val t.1+val (v.take t.1.length)*f) (fun t=>v.length-t.1.length) ([],0,0)
  ⟨by simp,by simp[Lim],by simp,by simp,by simp[val]⟩ ?_ (e_ a_ (by simp only[go_sem,aXD,aVY,List.nil_append])) ?_
 ·unfold Qx;exact Lq
 rintro⟨P,c,b⟩ ⟨hP,i,hc,hb,u⟩;simp only at hP i hc hb u;simp only[go_sem,QD,TK,Qx];by_cases X:P.length<v.length
 ·have F:(P.length:Int)<(v.length:Nat):=Om;have B:P.length<W.length:=Om;have H:(P.length:Int)<((v.length+1:Nat):Int):=Om;have hx:=hv _ (aUQ X);have hw:=hW _ (aUQ B);have η:=cI v X;have E:=cI W B;have K:=oa (A:=A) (Z:=Z) (P:=P) rfl B;have p:=HX (A:=A) (Z:=Z) (P:=P) rfl B;generalize μ:v[P.length]=x at *
  generalize κ:W[P.length]=y at *
  have ι:(aL v)[P.length]?=some [.int .u32 ((x:Nat):Int)]:=by rw[bU v X,μ]
  obtain⟨k1,k2,k3⟩:=avI hc hf hx;have ex:IntKind.u64.wrap ((x:Nat):Int)=((x:Nat):Int):=bH Om;have Y:IntKind.u64.wrap ((y:Nat):Int)=((y:Nat):Int):=bH Om;have em:IntKind.u64.wrap ((f:Int)*(x:Int))=((f*x:Nat):Int):=by rw[show (f:Int)*(x:Int)=((f*x:Nat):Int) by simp];exact bH Om
  have l:c+f*x<18446744073709551616:=k1;have ea:IntKind.u64.wrap ((c:Int)+((f*x:Nat):Int))=((c+f*x:Nat):Int):=fH l;have Q:=avC l;have θ:val (v.take (P.length+1))*f=val (v.take P.length)*f+4294967296 ^ P.length*(f*x):=by rw[η,aVU,aVO,aVR x f]
  generalize f*x=w at *
  have S:(c+w)%4294967296<4294967296:=aWJ _ (by decide);obtain⟨s1,s2,s3,s4⟩:=Se (a:=y) (bor:=b) (b:=(c+w)%4294967296) hw S hb (IntKind.u64.wrap (IntKind.u64.wrap ((y:Int)-(((c+w)%4294967296:Nat):Int))-(b:Int))) (by rw[fY,fY]; omega);generalize hd:UG y b ((c+w)%4294967296)=d at *
  generalize δ:ef y b ((c+w)%4294967296)=V at *
  have γ:V≤1:=by rw[← δ]; unfold ef; split<;>omega
  have hs:=p d;simp only[go_sem,F,TL,ι,TM,ex,em,ea,TN,H,K,Y,Q,TO,s1,hs,TP,alO,s2,TQ,yP,QE,dA (Om:P.length<9223372036854775807)];refine aG (P++[d],(c+w)/4294967296,V) ⟨by simp; omega,i.app fun z hz=>by simp at hz; omega,k2,γ,?_⟩ (by simp; omega) ?_ (e_ a_ ?_)
  ·simp only;rw[aUS,aUX,jS,E,θ,aWL,aVO,aVO];have h4:4294967296 ^ P.length*y+4294967296 ^ P.length*(4294967296*V)=4294967296 ^ P.length*d+4294967296 ^ P.length*((c+w)%4294967296)+4294967296 ^ P.length*b:=by rw[← aVF,s3,aVF,aVF]
   have h5:4294967296 ^ P.length*(4294967296*((c+w)/4294967296))+4294967296 ^ P.length*((c+w)%4294967296)=4294967296 ^ P.length*c+4294967296 ^ P.length*w:=by rw[← aVF,aYC,aVF]
   omega
  ·simp only;rw[aUS,aUX];exact Lq
  ·simp only;rw[aUS,aUX];simp only[go_sem]
 ·have e:P.length=v.length:=Om;have F:¬ (P.length:Int)<(v.length:Nat):=Om;have B:v.length<W.length:=Om;have H:(v.length:Int)<((v.length+1:Nat):Int):=Om;have hw:=hW _ (aUQ B);have E:=cI W B;have K:=oa (A:=A) (Z:=Z) (P:=P) e B;have p:=HX (A:=A) (Z:=Z) (P:=P) e B;have J:val (W.take (v.length+1))=val W:=by rw[aVI Om]
  generalize κ:W[v.length]=y at *
  have Y:IntKind.u64.wrap ((y:Nat):Int)=((y:Nat):Int):=bH Om;have β:=fG i;rw[e] at u β;rw[aVP] at u;rw[J] at E;have U:4294967296 ^ (v.length+1)=4294967296 ^ v.length*4294967296:=aWL _ _;have ο:val W+4294967296 ^ v.length*(b+c)=val P+val v*f+4294967296 ^ v.length*y:=by rw[E,aVF]; omega
  have ξ:b+c≤y+4294967296:=by
   rcases aVL (y+4294967296) (b+c) with h | h
   ·exfalso;have:4294967296 ^ v.length*(y+4294967296+1)≤4294967296 ^ v.length*(b+c):=aXA _ h;rw[aVF,aVF,Nat.mul_one] at this;omega
   ·exact h
  have N:∃ d k:Nat,d<4294967296∧k≤1∧y+4294967296*k=d+(b+c)∧IntKind.u32.wrap (IntKind.u64.wrap (IntKind.u64.wrap ((y:Int)-(c:Int))-(b:Int)))=(d:Int)∧((IntKind.u64.wrap (IntKind.u64.wrap ((y:Int)-(c:Int))-(b:Int))/9223372036854775808==1)=decide (k=1)):=by
   rw[ZM,fY,fY];by_cases h:y<b+c
   ·refine⟨y+4294967296-(b+c),1,by omega,by omega,by omega,by omega,?_⟩;simp only[decide_true];exact bP Om
   ·refine⟨y-(b+c),0,by omega,by omega,by omega,by omega,?_⟩;exact bG Om
  obtain⟨d,k,hd,hk,hy,w1,w2⟩:=N;have hs:=p d;have hN:val (P++[d])+val v*f=val W+4294967296 ^ (v.length+1)*k:=by
   have:4294967296 ^ v.length*y+4294967296 ^ v.length*(4294967296*k)=4294967296 ^ v.length*d+4294967296 ^ v.length*(b+c):=by rw[← aVF,hy,aVF]
   rw[jS,e,U,aVO];omega
  have R:Lim (P++[d]):=i.app fun z hz=>by simp at hz; omega
  have ε:=fG R;rw[aUS,aUX,e] at ε;have M:decide (k=1)=decide (val W<val v*f):=by
   congr 1;apply propext;constructor
   ·intro h; subst h; omega
   ·intro h;rcases aWZ k with h0 | h0
    ·subst h0; omega
    ·omega
  have O:NN (v.length+1) (val W) (val v*f)=val (P++[d]):=by
   unfold NN;split
   ·rename_i h;have:k=1:=by simpa [h] using M
    subst this; omega
   ·rename_i h;have:k=0:=by
     have:¬ k=1:=by simpa [h] using M
     omega
    subst this; omega
  have hD:dZ (v.length+1) (NN (v.length+1) (val W) (val v*f))=P++[d]:=by have:=JB R;rw[aUS,aUX,e] at this;rw[O,this]
  have ζ:W.drop (v.length+1)=[]:=aYI Om;simp only[go_sem,F,QF,e,H,K,Y,QG,w1,hs,QH,alO,w2,M];refine aX (vs:=[.bool (decide (val W<val v*f))]) (.inr rfl) (PH.nil.set o (.rows 1 (aL (A++(P++[d]++W.drop (v.length+1))++Z)))) rfl (e_ a_ Sq) ⟨rfl,?_⟩;rw[hD,ζ,aWF]
end Go.PM
namespace Go.Na
theorem Z9 {xs ys:List Nat} (e:Lim xs) (i:Lim ys) (c:xs.length=ys.length) (d:val xs=val ys):xs=ys:=by
 rw[← JB e,← JB i,c,d]
theorem aEQ {k n:Nat} {xs:List Nat} (e:Lim xs) (c:xs.length=k) (d:val xs=n%4294967296 ^ k):dZ k n=xs :=
 Z9 (nC k n) e (by rw[lO,c]) (by rw[BI,d])
end Go.Na
namespace Go.PM
open Go Go.Na
def Qq (v:List Nat) (j o i c:Nat):PF:=((((((PF.nil.set 0 (.osl o 1 j (v.length+1))).set 1 (aK v)).set 4 (.int .u64 c)).set 7 (aK v)).set 8 (.int .i64 (v.length:Nat))).set 9 (.int .i64 i))
theorem Wy {C:Ctx} (A W Z v:List Nat) (hW:Lim W) (hv:Lim v) (hl:W.length=v.length+1) (h1:A.length+v.length≤100000) (o:Nat) :
  xO.wp C (aU dg.res (fun r H'=>r=.tup []∧H'=PH.nil.set o (.rows 1 (aL (A++dZ (v.length+1) (val W+val v)++Z)))))
   (PF.args [.osl o 1 A.length (v.length+1),aK v]) (PH.nil.set o (.rows 1 (aL (A++W++Z)))):=by
 simp only[go_sem,xO,YL,YM,dg];refine wp_loop (α:=List Nat × Nat) (fun t=>Qq v A.length o t.1.length t.2) (fun t=>PH.nil.set o (.rows 1 (aL (A++(t.1++W.drop t.1.length)++Z))))
  (fun t=>t.1.length≤v.length∧Lim t.1∧t.2≤1∧val (W.take t.1.length)+val (v.take t.1.length)=val t.1+4294967296 ^ t.1.length*t.2) (fun t=>v.length-t.1.length) ([],0)
  ⟨by simp,by simp[Lim],by simp,by simp[val]⟩ ?_ (e_ a_ (by simp only[go_sem,aXD,aVY,List.nil_append])) ?_
 ·unfold Qq;exact Lq
 rintro⟨P,c⟩ ⟨hP,d,hc,l⟩;simp only at hP d hc l;simp only[go_sem,YK,YN,Qq];by_cases M:P.length<v.length
 ·have u:(P.length:Int)<(v.length:Nat):=Om;have p:P.length<W.length:=Om;have w:(P.length:Int)<((v.length+1:Nat):Int):=Om;have hx:=hv _ (aUQ M);have hw:=hW _ (aUQ p);have S:=cI v M;have F:=cI W p;have E:=oa (A:=A) (Z:=Z) (P:=P) rfl p;have i:=HX (A:=A) (Z:=Z) (P:=P) rfl p;generalize X:v[P.length]=x at *
  generalize V:W[P.length]=y at *
  have U:(aL v)[P.length]?=some [.int .u32 ((x:Nat):Int)]:=by rw[bU v M,X]
  have ex:IntKind.u64.wrap ((x:Nat):Int)=((x:Nat):Int):=bH Om;have N:IntKind.u64.wrap ((y:Nat):Int)=((y:Nat):Int):=bH Om;have Y:IntKind.u64.wrap ((y:Int)+(x:Int))=((y+x:Nat):Int):=fH Om;have e2:IntKind.u64.wrap ((c:Int)+((y+x:Nat):Int))=((c+(y+x):Nat):Int):=fH Om;have R:=i ((c+(y+x))%4294967296);simp only[go_sem,u,YO,U,YP,w,E,ex,N,Y,e2,YQ,cL,R,YR,yP,YS,dA (Om:P.length<9223372036854775807)];refine aG (P++[(c+(y+x))%4294967296],(c+(y+x))/4294967296) ⟨by simp; omega,d.app fun z K=>by simp at K; subst K; exact aWJ _ (by decide),by simp only; omega,?_⟩ (by simp; omega) ?_ (e_ a_ ?_)
  ·simp only;rw[aUS,aUX,jS,F,S,aWL,aVO];have h5:4294967296 ^ P.length*(4294967296*((c+(y+x))/4294967296))+4294967296 ^ P.length*((c+(y+x))%4294967296)=4294967296 ^ P.length*c+(4294967296 ^ P.length*y+4294967296 ^ P.length*x):=by rw[← aVF,aYC,aVF,aVF]
   omega
  ·simp only;rw[aUS,aUX];exact Lq
  ·simp only;rw[aUS,aUX];simp only[go_sem]
 ·have e:P.length=v.length:=Om;have u:¬ (P.length:Int)<(v.length:Nat):=Om;have p:v.length<W.length:=Om;have w:(v.length:Int)<((v.length+1:Nat):Int):=Om;have hw:=hW _ (aUQ p);have F:=cI W p;have E:=oa (A:=A) (Z:=Z) (P:=P) e p;have i:=HX (A:=A) (Z:=Z) (P:=P) e p;have B:val (W.take (v.length+1))=val W:=by rw[aVI Om]
  generalize V:W[v.length]=y at *
  have O:=fG d;rw[e] at l O;rw[aVP] at l;rw[B] at F;have ec:IntKind.u32.wrap ((c:Nat):Int)=((c:Nat):Int):=by rw[cL,aWA Om]
  have N:IntKind.u32.wrap ((y:Int)+(c:Int))=(((y+c)%4294967296:Nat):Int):=by rw[show (y:Int)+(c:Int)=((y+c:Nat):Int) by omega,cL]
  have R:=i ((y+c)%4294967296);have H:Lim (P++[(y+c)%4294967296]):=d.app fun z K=>by simp at K; subst K; exact aWJ _ (by decide)
  have J:=fG H;rw[aUS,aUX,e] at J;have hD:dZ (v.length+1) (val W+val v)=P++[(y+c)%4294967296]:=by
   refine aEQ H (by rw[aUS,aUX,e]) ?_;have:val W+val v=val (P++[(y+c)%4294967296])+4294967296 ^ (v.length+1)*((y+c)/4294967296):=by rw[jS,e,aWL,aVO,aWX,← aVF,Nat.mod_add_div,aVF];omega
   rw[this,Nat.add_mul_mod_self_left,aWA J]
  have Q:W.drop (v.length+1)=[]:=aYI Om;simp only[go_sem,u,YT,e,w,E,ec,N,R];refine aX (vs:=[]) (.inl rfl) (PH.nil.set o (.rows 1 (aL (A++(P++[(y+c)%4294967296]++W.drop (v.length+1))++Z)))) rfl (e_ a_ Sq) ⟨rfl,?_⟩;rw[hD,Q,aWF]
def akS (o n:Nat) (len:Nat):PF:=((PF.nil.set 0 (.osl o 1 0 len)).set 3 (.int .i64 n))
theorem Wx {C:Ctx} (xs:List Nat) (w:Lim xs) (A:xs.length≤35184372087808) (o:Nat):pU.wp C (aU HR.res (fun r H'=>r=.int .i64 (nl (val xs):Nat)∧H'=PH.nil.set o (.rows 1 (aL xs)))) (PF.args [.osl o 1 0 xs.length]) (PH.nil.set o (.rows 1 (aL xs))):=by
 simp only[go_sem,pU,MH,MI,HR];refine wp_loop (α:=Nat) (fun n=>akS o n xs.length) (fun _=>PH.nil.set o (.rows 1 (aL xs))) (fun n=>n≤xs.length∧∀ j x,n≤j→xs[j]?=some x→x=0) (fun n=>n) xs.length ⟨aUU _,fun j x h e=>by rw[aWG h] at e; cases e⟩ ?_ b_ ?_
 ·unfold akS;exact Lq
 rintro n ⟨u,p⟩;have out:(∀ x,0<n→xs[n-1]?=some x→x≠0)→nl (val xs)=n:=fun h=>adB w u p h;simp only[go_sem,MG,MJ,akS];by_cases i:(n:Int)>0
 ·have l:0<n:=Om;have hi:=bU xs (Om:n-1<xs.length);have hlt:((n-1:Nat):Int)<(xs.length:Nat):=Om;simp only[go_sem,i,xL (Om:n≤9223372036854775807) l,hi,hlt];by_cases d:xs[n-1]=0
  ·simp only[go_sem,bP (Om:((xs[n-1]:Nat):Int)=0),MK,xL (Om:n≤9223372036854775807) l];refine aG (n-1) ⟨by omega,fun j x y c=>?_⟩ Om ?_ b_
   ·rcases aVL j n with h | h
    ·have:j=n-1:=Om;subst this;rw[aVB Om] at c;cases c; exact d
    ·exact p j x h c
   ·exact Lq
  ·simp only[go_sem,bG (Om:((xs[n-1]:Nat):Int)≠0),tZ];refine aX (.inr rfl) _ rfl b_ ⟨?_,rfl⟩;rw[out fun x _ c=>by rw[aVB Om] at c; cases c; exact d];rfl
 ·simp only[go_sem,i,tZ];refine aX (.inr rfl) _ rfl b_ ⟨?_,rfl⟩;rw[out fun x h=>by omega];rfl
end Go.PM
namespace Go.Na
structure Kn (V W top next Vr head u2 Wr p:Nat):Prop where
 hV:V=top*(4294967296*p)+next*p+Vr
 hW:W=head*(4294967296*p)+u2*p+Wr
 hVr:Vr<p
 hWr:Wr<p
 htop:2147483648≤top
 aTY:next<4294967296
 hu2:u2<4294967296
 hlt:W<V*4294967296
section
variable {V W top next Vr head u2 Wr p:Nat}
theorem Kn.low (K:Kn V W top next Vr head u2 Wr p):next*p+Vr<4294967296*p∧u2*p+Wr<4294967296*p:=by
 have c:(next+1)*p≤4294967296*p:=aVV _ K.aTY;have d:(u2+1)*p≤4294967296*p:=aVV _ K.hu2;rw[aVU,Nat.one_mul] at c d;have:=K.hVr;have:=K.hWr;omega
theorem Kn.Ie (K:Kn V W top next Vr head u2 Wr p):0<V∧4294967296*p≤V∧0<p:=by
 have:=K.hVr;have h:1*(4294967296*p)≤top*(4294967296*p):=aVV _ (by have:=K.htop; omega);have:=K.hV;omega
theorem Kn.aKU (K:Kn V W top next Vr head u2 Wr p):W/V<4294967296:=by
 rw[aXP K.Ie.1,aVR]; exact K.hlt
theorem Kn.g0 (K:Kn V W top next Vr head u2 Wr p):W/V≤head/top:=by
 have c:0<top:=by have:=K.htop; omega
 rw[Nat.le_div_iff_mul_le c];have d:W/V*V≤W:=Nat.div_mul_le_self W V;have e:W/V*(top*(4294967296*p))≤W/V*V:=aXA _ (by have:=K.hV; omega);have i:=K.low.2;have l:=K.hW;have h5:(W/V*top)*(4294967296*p)<(head+1)*(4294967296*p):=by rw[aVO,aVU,Nat.one_mul]; omega
 have:=Nat.lt_of_mul_lt_mul_right h5;omega
theorem Kn.g1 (K:Kn V W top next Vr head u2 Wr p) {g r:Nat} (i:g*top+r=head) (A:W/V≤g) (h:g≥4294967296∨g*next>r*4294967296+u2):1≤g∧W/V≤g-1:=by
 have u:=K.aKU;have c:=Nat.div_mul_le_self W V;generalize W/V=Q at *
 rcases h with h | h
 ·omega
 ·have l:Q≠g:=by
   intro e;have w:g*V≤W:=by rw[← e]; exact c
   have x:g*V=g*top*(4294967296*p)+g*next*p+g*Vr:=by rw[K.hV,aVF,aVF,aVO,aVO]
   have d:(r*4294967296+u2+1)*p≤g*next*p:=aVV _ h
   rw[aVU,aVU,Nat.one_mul,aVO r] at d;have y:g*top*(4294967296*p)+r*(4294967296*p)=head*(4294967296*p):=by rw[← aVU,i]
   have:=K.hW;have:=K.hWr;omega
  omega
theorem Kn.g2 (K:Kn V W top next Vr head u2 Wr p) {g r:Nat} (l:g*top+r=head) (u:g≤4294967296) (h:g*next≤r*4294967296+u2):g≤W/V+1:=by
 rcases aWZ g with e | e
 ·rw[e]; exact aUT _
 have d:g*V=g*top*(4294967296*p)+g*next*p+g*Vr:=by rw[K.hV,aVF,aVF,aVO,aVO]
 have c:g*next*p≤(r*4294967296+u2)*p:=aVV _ h
 rw[aVU,aVO r] at c;have i:g*top*(4294967296*p)+r*(4294967296*p)=head*(4294967296*p):=by rw[← aVU,l]
 have h5:g*Vr≤4294967296*Vr:=aVV _ u;have w:4294967296*(Vr+1)≤4294967296*p:=aXA _ K.hVr;have hV:=K.Ie;have hW:=K.hW;have h7:(g-1)*V≤W:=by
  have:g*V=(g-1)*V+V:=by obtain⟨k,rfl⟩:∃ k,g=k+1:=⟨g-1,by omega⟩;rw[aVU,Nat.one_mul]; rfl
  omega
 have:=(Nat.le_div_iff_mul_le hV.1).2 h7;generalize W/V=Q at *
 clear d c i h5 h7;omega
theorem Kn.g3 (K:Kn V W top next Vr head u2 Wr p) {g r:Nat} (l:g*top+r=head) (u:g≤4294967296) (w:4294967296≤r):g≤W/V+1:=by
 have c:=K.low.1;have hV:=K.Ie;have d:g*V=g*top*(4294967296*p)+g*(next*p+Vr):=by rw[K.hV,aWX,aVF,aVO]
 have e:g*(next*p+Vr)≤4294967296*(4294967296*p):=aXX u Om;have i:g*top*(4294967296*p)+r*(4294967296*p)=head*(4294967296*p):=by rw[← aVU,l]
 have h5:4294967296*(4294967296*p)≤r*(4294967296*p):=aVV _ w;have hW:=K.hW;have h7:g*V≤W:=Om;have:=(Nat.le_div_iff_mul_le hV.1).2 h7;generalize W/V=Q at *
 clear d e i h5 h7;omega
theorem Kn.g4 (K:Kn V W top next Vr head u2 Wr p):head/top≤4294967296+1:=by
 have c:=K.low.1;have hV:=K.Ie;have hW:=K.hW;have hlt:=K.hlt;have u:=K.htop;have i:head<(top+1)*4294967296:=by
  have d:V<(top+1)*(4294967296*p):=by rw[K.hV,aVU,Nat.one_mul]; omega
  have l:V*4294967296≤(top+1)*(4294967296*p)*4294967296:=aVV _ (Nat.le_of_lt d);have e:head*(4294967296*p)<(top+1)*4294967296*(4294967296*p):=by
   have:(top+1)*(4294967296*p)*4294967296=(top+1)*4294967296*(4294967296*p):=by rw[aVO,aVR (4294967296*p) 4294967296,← aVO]
   omega
  exact Nat.lt_of_mul_lt_mul_right e
 have h5:head/top<4294967296+2:=by rw[aXP Om];omega
 omega
end
theorem wU:∀ (k n:Nat),dZ (k+1) n=dZ k n++[n/4294967296 ^ k%4294967296]
 | 0,n=>by simp[dZ]
 | k+1,n=>by show (n%4294967296)::dZ (k+1) (n/4294967296)=(n%4294967296)::dZ k (n/4294967296)++[n/4294967296 ^ (k+1)%4294967296];rw[wU k (n/4294967296),Nat.div_div_eq_div_mul,aWL,aVR 4294967296];rfl
theorem vX {xs:List Nat} (h:Lim xs):∀ {k:Nat},k≤xs.length→val (xs.drop k)=val xs/4294967296 ^ k:=by
 intro k c;have e:val xs=val (xs.take k)+4294967296 ^ k*val (xs.drop k):=by
  conv=>lhs; rw[← aXG k xs,gI,aVJ,aWW c]
 have d:=fG (h.take k);rw[aVJ,aWW c] at d;rw[e,Nat.add_mul_div_left _ _ (aXK (by decide)),aYD d,aVH]
theorem YV {R s i c d X:Nat} (u:s<32) (h:R/4294967296 ^ i=c+4294967296*(d+4294967296*X)):(R/2 ^ s)/4294967296 ^ i%4294967296=(4294967296*d+c)/2 ^ s%4294967296:=by
 rw[Nat.div_div_eq_div_mul,aVR (2 ^ s),← Nat.div_div_eq_div_mul,h];have l:4294967296*4294967296=2 ^ s*(2 ^ (32-s)*4294967296):=by rw[← aVO,← Nat.pow_add,show s+(32-s)=32 by omega]
 have e:c+4294967296*(d+4294967296*X)=(4294967296*d+c)+2 ^ s*(2 ^ (32-s)*X*4294967296):=by
  have:4294967296*(4294967296*X)=2 ^ s*(2 ^ (32-s)*X*4294967296):=by rw[← aVO,l,aVO,aVO,aVO,aVR 4294967296 X]
  rw[aVF,this]; omega
 rw[e,Nat.add_mul_div_left _ _ (aXK (by decide)),Nat.add_mul_mod_self_right]
end Go.Na
namespace Go.PM
open Go Go.Na
theorem aHV {A W Z:List Nat} {i:Nat} (hi:i<W.length):(aL (A++W++Z))[A.length+i]?=some [.int .u32 ((W[i]:Nat):Int)]:=by
 have c:A.length+i<(A++W++Z).length:=by simp; omega
 rw[bU _ c];congr 4;rw[aYM (by simp; omega),aYL Om];congr 1;omega
def dF (u v:PV) (n:Nat) (q:PV) (top next j s:Nat):PF:=((((((((PF.nil.set 8 (.int .u64 s)).set 9 (u)).set 10 (v)).set 11 (.int .i64 n)).set 12 (q)).set 13 (.int .u64 top)).set 14 (.int .u64 next)).set 15 (.int .i64 j))
def dG (u v:PV) (n:Nat) (q:PV) (top next j s g r:Nat):PF:=((((((((((PF.nil.set 8 (.int .u64 s)).set 9 (u)).set 10 (v)).set 11 (.int .i64 n)).set 12 (q)).set 13 (.int .u64 top)).set 14 (.int .u64 next)).set 15 (.int .i64 j)).set 17 (.int .u64 g)).set 18 (.int .u64 r))
theorem Gs {C:Ctx} {V y top next Z head e Wr p:Nat} (i:Kn V y top next Z head e Wr p) (htop:top<4294967296) (o l m j s:Nat) (v q:PV) (ζ:j+m+2<l) (η:l≤100000) (U:List Nat) (hU:(aL U)[j+m]?=some [.int .u32 (e:Nat)]) (K:bR) (F:PF) (H:PH)
  (hF:(dG (.osl o 1 0 l) v (m+2) q top next j s (head/top) (head%top)).le F) (hH:H o=some (.rows 1 (aL U)))
  (Y:∀ g r x,y/V≤g→g≤y/V+1→g≤4294967296→(dG (.osl o 1 0 l) v (m+2) q top next j s g r).le x→K .normal x H) :
  aC.wp C (.block 4 (.loop wG)) K F H:=by
 have X:0<top:=by have:=i.htop; omega
 have hn:=i.aTY;have hu2:=i.hu2;simp only[go_sem];refine wp_loop (α:=Nat × Nat) (fun t=>dG (.osl o 1 0 l) v (m+2) q top next j s t.1 t.2) (fun _=>H) (fun t=>t.1*top+t.2=head∧y/V≤t.1∧t.1≤4294967296+1∧t.2<4294967296) (fun t=>t.1) (head/top,head%top)
  ⟨by simp only; rw[aVR]; exact aYC head top,i.g0,i.g4,Nat.lt_trans (aWJ _ X) htop⟩ hF b_ ?_
 rintro⟨g,r⟩ ⟨J,W,S,hr⟩;simp only at J W S hr;have e1:IntKind.i64.wrap ((j:Int)+((m+2:Nat):Int))=((j+(m+2):Nat):Int):=gS Om;have e2:IntKind.i64.wrap (((j+(m+2):Nat):Int)-2)=((j+m:Nat):Int):=by rw[wrap_i64 Om Om]; omega
 have hlt:((j+m:Nat):Int)<(l:Nat):=Om;have O:IntKind.u64.wrap ((e:Nat):Int)=((e:Nat):Int):=bH Om;have B:shift .shl .u64 (r:Int) 32=some (.int .u64 ((2 ^ 32*r:Nat):Int)):=NJ (s:=32) Om Om;have N:(2:Nat) ^ 32=4294967296:=by decide
 have A:=orI (a:=2 ^ 32*r) (b:=e) (n:=2 ^ 32*r+e) Om Om (Nat.two_pow_add_eq_or_of_lt Om r).symm Om;rw[N] at B A;have more:(g≥4294967296∨g*next>r*4294967296+e)→∀ x:PF,(dG (.osl o 1 0 l) v (m+2) q top next j s g r).le x→aC.wp C (.block 5 (.seq (.region EY) (.seq (.region EZ) (.seq (.region FA) (.cond (.tmp 136) (.exit 4) .skip)))))
   (eY (fun t:Nat × Nat=>dG (.osl o 1 0 l) v (m+2) q top next j s t.1 t.2) (fun _=>H) (fun t=>t.1*top+t.2=head∧y/V≤t.1∧t.1≤4294967296+1∧t.2<4294967296) (fun t=>t.1) g (eQ 4 K)) x H:=by
  intro hc x d;obtain⟨g1,g2⟩:=i.g1 J W hc;have f8:=d 8 _ (by unfold dG; simp only[go_sem]; rfl);have f9:=d 9 _ (by unfold dG; simp only[go_sem]; rfl);have β:=d 10 _ (by unfold dG; simp only[go_sem]; rfl);have f11:=d 11 _ (by unfold dG; simp only[go_sem]; rfl);have γ:=d 12 _ (by unfold dG; simp only[go_sem]; rfl);have f13:=d 13 _ (by unfold dG; simp only[go_sem]; rfl);have f14:=d 14 _ (by unfold dG; simp only[go_sem]; rfl);have δ:=d 15 _ (by unfold dG; simp only[go_sem]; rfl);have Q:=d 17 _ (by unfold dG; simp only[go_sem]; rfl);have R:=d 18 _ (by unfold dG; simp only[go_sem]; rfl);have w1:IntKind.u64.wrap ((g:Int)-1)=((g-1:Nat):Int):=by rw[wrap_u64 Om Om]; omega
  have w2:IntKind.u64.wrap ((r:Int)+(top:Int))=((r+top:Nat):Int):=fH Om;have E:(g-1)*top+(r+top)=head:=by obtain⟨k,rfl⟩:∃ k,g=k+1:=⟨g-1,by omega⟩;rw[aVU,Nat.one_mul] at J;simp only[Nat.add_sub_cancel];omega
  simp only[go_sem,EY,EZ,FA,Q,R,f13,w1,w2];by_cases c:r+top≥4294967296
  ·have M:((r+top:Nat):Int)≥4294967296:=Om;simp only[go_sem,M];refine Y (g-1) (r+top) _ g2 (i.g3 E Om c) Om ?_;unfold dG;exact Lq
  ·have M:¬ ((r+top:Nat):Int)≥4294967296:=Om;simp only[go_sem,M];refine aG (g-1,r+top) ⟨E,g2,by simp only; omega,by simp only; omega⟩ (by simp only; omega) ?_ b_;unfold dG;exact Lq
 simp only[go_sem,wG,YD,dG];by_cases c1:g≥4294967296
 ·have u:(g:Int)≥4294967296:=Om;simp only[go_sem,u];have:=more (.inl c1);simp only[go_sem,dG] at this;refine this _ ?_;exact Lq
 ·have u:¬ (g:Int)≥4294967296:=Om;have ε:g*next≤4294967295*4294967295:=aXX Om Om
  have em:IntKind.u64.wrap ((g:Int)*(next:Int))=((g*next:Nat):Int):=by rw[show (g:Int)*(next:Int)=((g*next:Nat):Int) by simp];exact bH Om
  simp only[go_sem,u,em,B,e1,e2,hlt,hH,hU,O,A];by_cases c2:g*next>r*4294967296+e
  ·have w:((g*next:Nat):Int)>((4294967296*r+e:Nat):Int):=Om;simp only[go_sem,w];have:=more (.inr c2);simp only[go_sem,dG] at this;refine this _ ?_;exact Lq
  ·have w:¬ ((g*next:Nat):Int)>((4294967296*r+e:Nat):Int):=Om;simp only[go_sem,w];refine Y g r _ W (i.g2 J Om Om) Om ?_;unfold dG;exact Lq
end Go.PM
namespace Go.Na
theorem aNR {W v:List Nat} {m:Nat} (hW:Lim W) (c:Lim v) (u:v.length=m+2) (p:W.length=m+3) (w:2147483648≤v[m+1]) (hlt:val W<val v*4294967296) :
  Kn (val v) (val W) (v[m+1]) (v[m]) (val (v.take m)) (W[m+2]*4294967296+W[m+1]) (W[m]) (val (W.take m)) (4294967296 ^ m):=by
 have i:val v=val (v.take m)+4294967296 ^ m*(v[m]+4294967296*v[m+1]):=by
  rw[sX v (Om:m<v.length)];congr 4;have:v.drop (m+1)=[v[m+1]]:=by rw[aWM Om,aYI Om]
  rw[this]; simp[val]
 have l:val W=val (W.take m)+4294967296 ^ m*(W[m]+4294967296*(W[m+1]+4294967296*W[m+2])):=by
  rw[sX W (Om:m<W.length)];congr 4;have:W.drop (m+1)=[W[m+1],W[m+2]]:=by rw[aWM Om,aWM Om,aYI Om]
  rw[this]; simp[val]
 have d:=fG (c.take m);have e:=fG (hW.take m);rw[aVJ,aWW Om] at d e;refine⟨?_,?_,d,e,w,c _ (aUQ _),hW _ (aUQ _),hlt⟩
 ·rw[i,aVF,aVR (4294967296 ^ m) (v[m]),← aVO (4294967296 ^ m),aVR (4294967296 ^ m*4294967296),aVR (4294967296 ^ m) 4294967296];omega
 ·rw[l,aVF,aVR (4294967296 ^ m) (W[m]),← aVO (4294967296 ^ m),aVR (4294967296 ^ m*4294967296),aVR (4294967296 ^ m) 4294967296,aVR (W[m+2]),Nat.add_comm (4294967296*W[m+2])];omega
end Go.Na
namespace Go.PM
open Go Go.Na
structure G5 (C:Ctx):Prop where
 subtract:∀ (A W Z v:List Nat) (f o:Nat),Lim W→Lim v→W.length=v.length+1→A.length+v.length≤100000→f≤4294967296→val v*f≤val W+4294967296 ^ (v.length+1) →
  aH C 142 [.osl o 1 A.length (v.length+1),aK v,.int .u64 f] (PH.nil.set o (.rows 1 (aL (A++W++Z)))) (fun r H'=>r=.bool (decide (val W<val v*f))∧H'=PH.nil.set o (.rows 1 (aL (A++dZ (v.length+1) (NN (v.length+1) (val W) (val v*f))++Z))))
 restore:∀ (A W Z v:List Nat) (o:Nat),Lim W→Lim v→W.length=v.length+1→A.length+v.length≤100000 →
  aH C 139 [.osl o 1 A.length (v.length+1),aK v] (PH.nil.set o (.rows 1 (aL (A++W++Z)))) (fun r H'=>r=.tup []∧H'=PH.nil.set o (.rows 1 (aL (A++dZ (v.length+1) (val W+val v)++Z))))
theorem Jw (k n:Nat):dZ k (n%4294967296 ^ k)=dZ k n :=
 Z9 (nC _ _) (nC _ _) (by rw[lO,lO]) (by rw[BI,BI,Nat.mod_mod])
theorem Gr {C:Ctx} (D:G5 C) (A W Z v Q:List Nat) (m o N M s:Nat) (X:N≠o) (hW:Lim W) (hv:Lim v) (ν:v.length=m+2) (μ:W.length=m+3) (ht:2147483648≤v[m+1]) (hlt:val W<val v*4294967296)
  (n':M=A.length+(m+3)+Z.length) (i':M≤10000) (Ψ:A.length<Q.length) (K:bR) (F:PF) (H:PH) (O:(dF (.osl o 1 0 M) (aK v) (m+2) (.osl N 1 0 Q.length) (v[m+1]) (v[m]) A.length s).le F)
  (hH:H o=some (.rows 1 (aL (A++W++Z)))) (θ:H N=some (.rows 1 (aL Q)))
  (hK:∀ F' H',(dF (.osl o 1 0 M) (aK v) (m+2) (.osl N 1 0 Q.length) (v[m+1]) (v[m]) A.length s).le F'→H' o=some (.rows 1 (aL (A++dZ (m+3) (val W%val v)++Z)))→H' N=some (.rows 1 (aL (Q.set A.length (val W/val v))))→K .normal F' H') :
  aC.wp C (.block 3 (.seq (.draw EW) (.seq (.draw EX) (.seq (.block 4 (.loop wG)) (.seq (.seq (.region FB) (.cond (.tmp 146) (.seq (.region FC) (.region FD)) .skip)) (.region wH)))))) K F H:=by
 have Kk:=aNR hW hv ν μ ht hlt;have l:∀ i (h:i<W.length),(aL (A++W++Z))[A.length+i]?=some [.int .u32 ((W[i]:Nat):Int)]:=fun i h=>aHV h;have g0:=l (m+2) Om;have g1:=l (m+1) Om;have g2:=l m Om;have hq:=Kk.aKU;have htop:v[m+1]<4294967296:=hv _ (aUQ _);have r':=hW _ (aUQ (Om:m+2<W.length));have s':=hW _ (aUQ (Om:m+1<W.length));have V:=Kk.Ie.1;generalize q':v[m+1]=top at *
 generalize o':v[m]=next at *
 generalize t':W[m+2]=x at *
 generalize u':W[m+1]=Y at *
 generalize v':W[m]=u2 at *
 have f8:=O 8 _ (by unfold dF; simp only[go_sem]; rfl);have f9:=O 9 _ (by unfold dF; simp only[go_sem]; rfl);have Γ:=O 10 _ (by unfold dF; simp only[go_sem]; rfl);have f11:=O 11 _ (by unfold dF; simp only[go_sem]; rfl);have Δ:=O 12 _ (by unfold dF; simp only[go_sem]; rfl);have f13:=O 13 _ (by unfold dF; simp only[go_sem]; rfl);have f14:=O 14 _ (by unfold dF; simp only[go_sem]; rfl);have δ:=O 15 _ (by unfold dF; simp only[go_sem]; rfl);have e1:IntKind.i64.wrap ((A.length:Int)+((m+2:Nat):Int))=((A.length+(m+2):Nat):Int):=gS Om;have e2:IntKind.i64.wrap (((A.length+(m+2):Nat):Int)-1)=((A.length+(m+1):Nat):Int):=by rw[wrap_i64 Om Om]; omega
 have c0:((A.length+(m+2):Nat):Int)<(M:Nat):=Om;have c1:((A.length+(m+1):Nat):Int)<(M:Nat):=Om;have ψ:IntKind.u64.wrap ((x:Nat):Int)=((x:Nat):Int):=bH Om;have ω:IntKind.u64.wrap ((Y:Nat):Int)=((Y:Nat):Int):=bH Om;have γ:shift .shl .u64 (x:Int) 32=some (.int .u64 ((2 ^ 32*x:Nat):Int)):=NJ (s:=32) Om Om;have χ:(2:Nat) ^ 32=4294967296:=by decide
 have S:=orI (a:=2 ^ 32*x) (b:=Y) (n:=2 ^ 32*x+Y) Om Om (Nat.two_pow_add_eq_or_of_lt Om x).symm Om;rw[χ] at γ S;have Λ:4294967296*x+Y=x*4294967296+Y:=Om;rw[Λ] at S;simp only[go_sem];refine bS H dT b_ ?_;simp only[go_sem,EW,f9,δ,f11,e1,e2,c0,c1,hH,g0,g1,ψ,ω,γ,S];refine bS H dT b_ ?_;have p':0<top:=Om;have c':¬ ((top:Nat):Int)=0:=Om;generalize m':x*4294967296+Y=head at *
 have α:IntKind.u64.wrap (Int.tdiv ((head:Nat):Int) ((top:Nat):Int))=((head/top:Nat):Int):=by rw[show Int.tdiv ((head:Nat):Int) ((top:Nat):Int)=((head/top:Nat):Int) from rfl];exact bH (by have:=Kk.g4; omega)
 have β:Int.tmod ((head:Nat):Int) ((top:Nat):Int)=((head%top:Nat):Int):=rfl;simp only[go_sem,EX,f13,c',α,β];have e:=Gs (C:=C) Kk htop o M m A.length s (aK v) (.osl N 1 0 Q.length) Om Om (A++W++Z) g2;simp only[go_sem] at e;refine e _ _ H ?_ hH ?_
 ·unfold dG;refine c_ (c_ (c_ (c_ (c_ (c_ (c_ (c_ (c_ (c_ d_ ?_) ?_) ?_) ?_) ?_) ?_) ?_) ?_) ?_) ?_<;>simp only[go_sem,f8,f9,Γ,f11,Δ,f13,f14,δ]
 clear e;intro g r F' q1 q2 q3 c;have h8:=c 8 _ (by unfold dG; simp only[go_sem]; rfl);have h9:=c 9 _ (by unfold dG; simp only[go_sem]; rfl);have y:=c 10 _ (by unfold dG; simp only[go_sem]; rfl);have B:=c 11 _ (by unfold dG; simp only[go_sem]; rfl);have ε:=c 12 _ (by unfold dG; simp only[go_sem]; rfl);have ζ:=c 13 _ (by unfold dG; simp only[go_sem]; rfl);have η:=c 14 _ (by unfold dG; simp only[go_sem]; rfl);have E:=c 15 _ (by unfold dG; simp only[go_sem]; rfl);have U:=c 17 _ (by unfold dG; simp only[go_sem]; rfl);have e3:IntKind.i64.wrap (((A.length+(m+2):Nat):Int)+1)=((A.length+(m+3):Nat):Int):=by rw[wrap_i64 Om Om]; omega
 have c3:(A.length:Int)≤((A.length+(m+3):Nat):Int):=Om;have c4:((A.length+(m+3):Nat):Int)≤(M:Nat):=Om;have e4:A.length+(m+3)-A.length=v.length+1:=Om;have u:v.length+1=m+3:=Om;have l':val v*(val W/val v)+val W%val v=val W:=aYC _ _;have ι:=fG hW;rw[μ] at ι;have φ:val W%val v<val v:=aWJ _ V;have σ:=fG hv;rw[ν] at σ;have ο:4294967296 ^ (m+3)=4294967296 ^ (m+2)*4294967296:=aWL _ _;generalize j':val W/val v=w at *
 generalize k':val W%val v=rd at *
 have R:∀ (p:PF) (H2:PH),p 8=some (.int .u64 s)→p 9=some (.osl o 1 0 M)→p 10=some (aK v)→p 11=some (.int .i64 ((m+2:Nat):Int))→p 12=some (.osl N 1 0 Q.length)→p 13=some (.int .u64 top)→p 14=some (.int .u64 next)→p 15=some (.int .i64 A.length)→p 17=some (.int .u64 w) →
   H2 o=some (.rows 1 (aL (A++dZ (m+3) rd++Z)))→H2 N=some (.rows 1 (aL Q))→aC.wp C (.region wH) (eQ 3 K) p H2:=by
  intro p H2 k8 k9 d' e' τ f' g' υ h' kH kQ;have b':(aL Q)[A.length]?=some [.int .u32 ((Q[A.length]:Nat):Int)]:=bU Q Ψ;have a':(A.length:Int)<(Q.length:Nat):=Om;have eq:IntKind.u32.wrap ((w:Nat):Int)=((w:Nat):Int):=by rw[cL,aWA hq]
  have ρ:=fP Q A.length w;have ξ:¬ o=N:=fun h=>X h.symm;simp only[go_sem,wH,τ,υ,h',eq,a',kQ,b',ρ];refine hK _ _ ?_ (by simp only[go_sem,ξ,kH]) Sq;unfold dF;refine c_ (c_ (c_ (c_ (c_ (c_ (c_ (c_ d_ ?_) ?_) ?_) ?_) ?_) ?_) ?_) ?_<;>simp only[go_sem,k8,k9,d',e',τ,f',g',υ]
 have Ω:(PH.nil.set o (.rows 1 (aL (A++W++Z)))).le H:=e_ a_ hH;have κ:val v*g≤val W+4294967296 ^ (v.length+1):=by have:val v*g≤val v*(w+1):=aXA _ q2;rw[aVF,Nat.mul_one] at this;rw[u,ο]; omega
 simp only[go_sem,FB,h9,E,B,e1,e3,c3,c4,e4,y,U];refine kI (D.subtract A W Z v g o hW hv Om Om q3 κ) rfl Ω ?_;rintro rr H' ⟨rfl,rfl⟩ -;rw[PH.uB];by_cases Φ:g=w
 ·subst Φ;have d:¬ val W<val v*g:=Om;have hN:NN (v.length+1) (val W) (val v*g)=rd:=by unfold NN; rw[if_neg d]; omega
  rw[hN,u];simp only[go_sem,d];have:=R;simp only[go_sem] at this;refine this _ _ ?_ ?_ ?_ ?_ ?_ ?_ ?_ ?_ ?_ ?_ ?_<;>simp only[go_sem,h8,h9,y,B,ε,ζ,η,E,U,X,θ]
 ·have Ξ:g=w+1:=Om;subst Ξ;rw[aVF,Nat.mul_one];have d:val W<val v*w+val v:=Om;have hN:NN (v.length+1) (val W) (val v*w+val v)=rd+4294967296 ^ (m+3)-val v:=by unfold NN; rw[if_pos d,u]; omega
  rw[hN];have w1:IntKind.u64.wrap (((w+1:Nat):Int)-1)=((w:Nat):Int):=by rw[wrap_u64 Om Om]; omega
  simp only[go_sem,d,FC,U,w1,FD,h9,E,B,e1,e3,c3,c4,e4,y];have Θ:val (dZ (v.length+1) (rd+4294967296 ^ (m+3)-val v))=rd+4294967296 ^ (m+3)-val v:=pB (by rw[u]; omega);refine kI (D.restore A (dZ (v.length+1) (rd+4294967296 ^ (m+3)-val v)) Z v o (nC _ _) hv (lO _ _) Om) rfl (e_ a_ Sq) ?_;rintro rr H' ⟨rfl,rfl⟩ -;rw[PH.uB,PH.set_set,Θ];have J:dZ (v.length+1) (rd+4294967296 ^ (m+3)-val v+val v)=dZ (m+3) rd:=by rw[u,← Jw (m+3) (rd+4294967296 ^ (m+3)-val v+val v)];rw[show rd+4294967296 ^ (m+3)-val v+val v=rd+4294967296 ^ (m+3) by omega,Nat.add_mod_right,Jw]
  rw[J];simp only[go_sem];have:=R;simp only[go_sem] at this;refine this _ _ ?_ ?_ ?_ ?_ ?_ ?_ ?_ ?_ ?_ ?_ ?_<;>simp only[go_sem,h8,h9,y,B,ε,ζ,η,E,X,θ]
open Go
section
variable {C:Ctx} {K:bR} {F:PF} {H Hs:PH} {S:Spec}
theorem X6 {name:Nat} {vs:List PV} {R:PV→PH→Prop} {args:List aQ} {st:Bool} {d:Option Nat} {K:PF→PH→Prop} (p:S name vs=some ([],fun _=>R)) (h:aH C name vs .nil R) (c:aQ.evs F args=some vs)
  (e:∀ G:PH,∃ r H',R r H'∧mM G .nil H') (u:∀ r H',R r H'→mM H .nil H'→Hs.le (H.over .nil H')∧K (F.put d r) (H.over .nil H')):dOp C Hs S st (.call name args) d K F H:=by
 refine⟨vs,[],fun _=>R,c,p,fun o w=>by simp at w,by rw[MQ]; exact h,fun G=>?_,fun r H' y c=>?_⟩
 ·obtain⟨r,H',i,l⟩:=e G;exact⟨r,H',i,fun o x A B=>l o x A (by simp[PH.nil])⟩
 ·rw[MQ] at c ⊢;exact u r H' y c
theorem PH.over_self (c:PH) (h:c.le H):H.over c c=H:=PH.ext fun q=>by
 rw[hM];cases e:c q with
 | none=>rfl
 | some x=>exact (h q x e).symm
theorem dr {o:Nat} {x:cB} (h:H o=some x):H.only [o]=PH.nil.set o x:=PH.ext fun q=>by
 rw[sU,aN];by_cases e:q=o
 ·subst e; simp[h]
 ·simp[e,WJ]
theorem al {name o:Nat} {x:cB} {vs:List PV} {v:PV} {R:PH→PV→PH→Prop} {args:List aQ} {st:Bool} {d:Option Nat} {K:PF→PH→Prop} (B:S name vs=some ([o],R)) (w:H o=some x)
  (h:aH C name vs (PH.nil.set o x) (fun r H'=>r=v∧H'=PH.nil.set o x)) (c:R (PH.nil.set o x) v (PH.nil.set o x)) (l:∀ r H',R (PH.nil.set o x) r H'→r=v∧H'=PH.nil.set o x) (E:aQ.evs F args=some vs) (p:Hs.le H) (J:K (F.put d v) H) :
  dOp C Hs S st (.call name args) d K F H:=by
 have e:=dr w;refine⟨vs,[o],_,E,B,fun q A=>?_,?_,fun G=>⟨v,_,by rw[e]; exact c,fun q y M u=>?_⟩,fun r H' i _=>?_⟩
 ·simp at A; subst A; exact⟨x,w⟩
 ·rw[e];exact h.post fun r H' i=>⟨r,.refl _,by rw[i.1,i.2]; exact c⟩
 ·rw[e] at u; rw[M] at u; cases u
 ·rw[e] at i;obtain⟨rfl,rfl⟩:=l r H' i;rw[e,PH.over_self _ (by rw[← e]; exact HT H [o])];exact⟨p,J⟩
theorem Xh {c:aC} {α:Type} (d:α→PF) (Hs:α→PH) (e:α→Prop) (m:α→Nat) (i:α) (o:Nat) {s:Nat} {rs:List (List PV)} (x:H o=some (.rows s rs)) (l:e i) (p:(d i).le (F.frz o s rs)) (u:(Hs i).le (H.frz o s rs))
  (w:∀ a,e a→c.wp C (eY d Hs e m (m a) K) (d a) (Hs a)):aC.wp C (.loop c) K F H :=
 ⟨α,d,Hs,e,m,i,_,_,.step o x (.refl _ _),l,p,u,w⟩
@[go_sem] theorem zO (o s:Nat) (rs:List (List PV)) (q:Nat):(H.frz o s rs) q=if q=o then none else (H q).map (cB.frz o s rs):=(rfl)
theorem arN {t u o1 o2 s1 s2 k1 k2:Nat} {rs1 rs2:List (List PV)} {R:PV→PH→Prop} {e:mC} (N:e=.normal∨e=.ret) (d:o1≠o2) (E:F t=some (.osl o1 s1 0 k1)) (J:F u=some (.osl o2 s2 0 k2)) (i:H o1=some (.rows s1 rs1)) (l:H o2=some (.rows s2 rs2))
  (O:k1≤rs1.length) (Q:k2≤rs2.length) (p:rs2.map (fun r=>r.map (PV.dH o1 s1 rs1))=rs2) (U:(rs1.take k1)=rs1.take k1) (M:R (.tup [.sl s1 (rs1.take k1),.sl s2 (rs2.take k2)]) .nil):aU [.tmp t,.tmp u] R e F H:=by
 have x:∃ vs,eA.evs F H [.tmp t,.tmp u]=some vs∧∃ y A H2,jM (PF.nil.set 0 (bQ vs)) H y A∧H2.le A∧∃ w,y 0=some w∧R w H2:=by
  have c:o2≠o1:=fun h=>d h.symm;have B:(H.frz o1 s1 rs1) o2=some (.rows s2 rs2):=by rw[zO,if_neg c,l]; simp only[aWC,cB.frz,p]
  refine⟨[.osl o1 s1 0 k1,.osl o2 s2 0 k2],by rw[kV,nS,E,kV,nS,J,oZ],_,_,.nil,.step o1 i (.step o2 B (.refl _ _)),a_,_,?_,M⟩;have a1:0+k1≤rs1.length:=Om;have a2:0+k2≤rs2.length:=Om;simp only[PF.frz,kY,if_true,bQ,aWC,PV.frz,PV.tQ,PV.dH,aVZ,aWS,true_and,if_pos a1,if_pos a2,aVY,if_neg c]
 rcases N with rfl | rfl<;>exact x
end
end Go.PM
namespace Go.Na
structure pM (U0 V n lu lq:Nat) (k:Nat) (U Q:List Nat):Prop where
 lu':U.length=lu
 lq':Q.length=lq
 limU:Lim U
 limQ:Lim Q
 v:val U+val Q*V=U0
 r:val (U.drop k)<V
 z:∀ i x,i<k→Q[i]?=some x→x=0
theorem Jx {J V n H u j:Nat} {U Q:List Nat} (h:pM J V n H u (j+1) U Q) (hV:V<4294967296 ^ n) (hj:j<u) (hl:H=u+n) :
  val ((U.drop j).take (n+1))<V*4294967296∧pM J V n H u j (U.take j++dZ (n+1) (val ((U.drop j).take (n+1))%V)++U.drop (j+(n+1))) (Q.set j (val ((U.drop j).take (n+1))/V)):=by
 have S:=h.lu';have E:=h.lq';have c:0<V:=by have:=h.r; omega
 have e:j<U.length:=Om;have X:val (U.drop j)=U[j]+4294967296*val (U.drop (j+1)):=by rw[aWM e]; rfl
 have O:=h.limU _ (aUQ e);have hlt:val (U.drop j)<V*4294967296:=by have:=h.r; omega
 have B:((U.drop j).take (n+1)).length=n+1:=by rw[aVJ,aWR]; omega
 have K:val (U.drop j)=val ((U.drop j).take (n+1))+4294967296 ^ (n+1)*val (U.drop (j+(n+1))):=by
  conv=>lhs; rw[← aXG (n+1) (U.drop j),gI,B,List.drop_drop]
 have M:4294967296 ^ (n+1)=4294967296 ^ n*4294967296:=aWL _ _;have R:V*4294967296≤4294967296 ^ n*4294967296:=aVV _ (Nat.le_of_lt hV);have y:val (U.drop (j+(n+1)))=0:=by
  rcases aWZ (val (U.drop (j+(n+1)))) with h0 | h0
  ·exact h0
  ·have:=aXA (4294967296 ^ (n+1)) h0;omega
 rw[y,Nat.mul_zero,aWY] at K;generalize hW:val ((U.drop j).take (n+1))=W at *
 have Y:val U=val (U.take j)+4294967296 ^ j*W:=by
  conv=>lhs; rw[← aXG j U,gI,aVJ,aWW Om,K]
 have p:W%V<V:=aWJ _ c;have A:V*(W/V)+W%V=W:=aYC _ _;have F:W/V<4294967296:=by rw[aXP c,aVR]; omega
 have hD:val (dZ (n+1) (W%V))=W%V:=pB Om;have w:Q[j]=0:=h.z j _ Om (aVB Om);have d:=HZ (Om:j<Q.length) (W/V);rw[w,Nat.mul_zero,aWY] at d;have l:(U.take j).length=j:=by rw[aVJ]; omega
 refine⟨by omega,?_,?_,?_,?_,?_,?_,?_⟩
 ·simp only[aUS,lO,aWR,aVJ]; omega
 ·rw[aWU]; exact E
 ·exact ((h.limU.take j).app (nC _ _)).app (h.limU.drop _)
 ·exact h.limQ.set _ F
 ·rw[aVS,gI,gI,l,hD,lO,y,Nat.mul_zero,aWY,d];have:=h.v;have h5:(val Q+4294967296 ^ j*(W/V))*V=val Q*V+4294967296 ^ j*(V*(W/V)):=by rw[aVU,aVO,aVR (W/V) V]
  have Z:4294967296 ^ j*W=4294967296 ^ j*(V*(W/V))+4294967296 ^ j*(W%V):=by rw[← aVF,A]
  omega
 ·rw[aVS,List.drop_append_of_le_length Om,aYI Om,List.nil_append,gI,hD,y,Nat.mul_zero,aWY];exact p
 ·intro i x hi N;rw[List.getElem?_set_ne Om] at N;exact h.z i x Om N
end Go.Na
namespace Go.PM
open Go Go.Na
def dI (u v:PV) (n:Nat) (q:PV) (top next s:Nat) (j:Int):PF:=((((((((PF.nil.set 8 (.int .u64 s)).set 9 (u)).set 10 (v)).set 11 (.int .i64 n)).set 12 (q)).set 13 (.int .u64 top)).set 14 (.int .u64 next)).set 15 (.int .i64 j))
theorem sR (o s:Nat) (rs:List (List PV)) (L:List Nat):(aL L).map (fun r=>r.map (PV.dH o s rs))=aL L:=by
 unfold aL;rw[List.map_map];rfl
theorem Qb {C:Ctx} (D:G5 C) (S m p e o o2 i s:Nat) (v c:List Nat) (h2:o2≠o) (h3:i≠o) (h4:i≠o2) (hv:Lim v) (M:v.length=m+2) (ψ:(aL c).take (m+2)=aL v) (ω:m+2≤c.length) (ht:2147483648≤v[m+1])
  (χ:p=e+(m+2)) (N:p≤10000) (U:List Nat) (x:pM S (val v) (m+2) p e e U (aUR e 0)) (K:bR) (F:PF) (H:PH)
  (w:(dI (.osl o 1 0 p) (.osl o2 1 0 (m+2)) (m+2) (.osl i 1 0 e) (v[m+1]) (v[m]) s ((e:Int)-1)).le F) (hH:H o=some (.rows 1 (aL U))) (ι:H o2=some (.rows 1 (aL c))) (θ:H i=some (.rows 1 (aL (aUR e 0))))
  (hK:∀ U' Q' R,pM S (val v) (m+2) p e 0 U' Q'→(dI (.osl o 1 0 p) (aK v) (m+2) (.osl i 1 0 e) (v[m+1]) (v[m]) s (-1)).le R→K .normal R ((PH.nil.set o (.rows 1 (aL U'))).set i (.rows 1 (aL Q')))) :
  aC.wp C (.block 2 (.loop EU)) K F H:=by
 have f8:=w 8 _ (by unfold dI; simp only[go_sem]; rfl);have f9:=w 9 _ (by unfold dI; simp only[go_sem]; rfl);have W:=w 10 _ (by unfold dI; simp only[go_sem]; rfl);have f11:=w 11 _ (by unfold dI; simp only[go_sem]; rfl);have X:=w 12 _ (by unfold dI; simp only[go_sem]; rfl);have f13:=w 13 _ (by unfold dI; simp only[go_sem]; rfl);have f14:=w 14 _ (by unfold dI; simp only[go_sem]; rfl);have Y:=w 15 _ (by unfold dI; simp only[go_sem]; rfl);have y:¬ o=o2:=fun h=>h2 h.symm;have A:¬ i=o2:=h4;have O:¬ o=i:=fun h=>h3 h.symm;have ρ:∀ (k:IntKind) (n:Int),PV.frz o2 1 (aL c) (.int k n)=.int k n:=fun _ _=>rfl;have τ:∀ l,PV.frz o2 1 (aL c) (.osl o 1 0 l)=.osl o 1 0 l:=fun l=>by simp only[PV.frz,PV.tQ,PV.dH,if_neg y]
 have σ:∀ l,PV.frz o2 1 (aL c) (.osl i 1 0 l)=.osl i 1 0 l:=fun l=>by simp only[PV.frz,PV.tQ,PV.dH,if_neg A]
 have υ:PV.frz o2 1 (aL c) (.osl o2 1 0 (m+2))=aK v:=by
  have:0+(m+2)≤(aL c).length:=by rw[cD]; omega
  simp only[PV.frz,PV.tQ,PV.dH,if_true,true_and,if_pos this,aVY,ψ]
 simp only[go_sem];refine Xh (α:=Nat × List Nat × List Nat) (fun t=>dI (.osl o 1 0 p) (aK v) (m+2) (.osl i 1 0 e) (v[m+1]) (v[m]) s ((t.1:Int)-1)) (fun t=>(PH.nil.set o (.rows 1 (aL t.2.1))).set i (.rows 1 (aL t.2.2)))
  (fun t=>t.1≤e∧pM S (val v) (m+2) p e t.1 t.2.1 t.2.2) (fun t=>t.1) (e,U,aUR e 0) o2 ι ⟨aUU _,x⟩ ?_ ?_ ?_
 ·unfold dI;refine c_ (c_ (c_ (c_ (c_ (c_ (c_ (c_ d_ ?_) ?_) ?_) ?_) ?_) ?_) ?_) ?_<;>simp only[go_sem,f8,f9,W,f11,X,f13,f14,Y,ρ,τ,σ,υ]
 ·refine e_ (e_ a_ ?_) ?_
  ·simp only[go_sem,y,hH,cB.frz,sR]
  ·simp only[go_sem,A,θ,cB.frz,sR]
 rintro⟨k,U,Q⟩ ⟨hk,x⟩;simp only at hk x;simp only[go_sem,EU,YC,dI];by_cases h0:0<k
 ·obtain⟨j,rfl⟩:∃ j,k=j+1:=⟨k-1,by omega⟩;have hz:((j+1:Nat):Int)-1=(j:Int):=Om;have φ:(j:Int)≥0:=Om;have J:val v<4294967296 ^ (m+2):=by have:=fG hv; rw[M] at this; exact this
  obtain⟨hlt,κ⟩:=Jx x J Om χ;have ν:=x.lu';have μ:=x.lq';have hA:(U.take j).length=j:=by rw[aVJ]; omega
  have ξ:((U.drop j).take (m+3)).length=m+3:=by rw[aVJ,aWR]; omega
  have u:U.take j++(U.drop j).take (m+3)++U.drop (j+(m+3))=U:=by rw[aVS,← List.drop_drop,aXG,aXG]
  have ο:(U.drop (j+(m+3))).length=p-(j+(m+3)):=by rw[aWR,ν]
  have B:=Gr (C:=C) D (U.take j) ((U.drop j).take (m+3)) (U.drop (j+(m+3))) v Q m o i p s h3 ((x.limU.drop _).take _) hv M ξ ht hlt (by rw[hA,ο]; omega) N (by rw[hA]; omega);rw[hA,u,μ] at B;have V:IntKind.i64.wrap ((j:Int)-1)=(j:Int)-1:=wrap_i64 Om Om;simp only[go_sem,hz,φ];simp only[go_sem] at B;refine B _ _ _ ?_ (by simp only[go_sem,O]) Sq ?_
  ·unfold dF;exact Lq
  ·intro R H' d η E;have g8:=d 8 _ (by unfold dF; simp only[go_sem]; rfl);have g9:=d 9 _ (by unfold dF; simp only[go_sem]; rfl);have Z:=d 10 _ (by unfold dF; simp only[go_sem]; rfl);have β:=d 11 _ (by unfold dF; simp only[go_sem]; rfl);have γ:=d 12 _ (by unfold dF; simp only[go_sem]; rfl);have δ:=d 13 _ (by unfold dF; simp only[go_sem]; rfl);have ε:=d 14 _ (by unfold dF; simp only[go_sem]; rfl);have ζ:=d 15 _ (by unfold dF; simp only[go_sem]; rfl);simp only[go_sem,YE,ζ,V];refine aG (j,_,_) ⟨by simp only; omega,κ⟩ (by simp only; omega) ?_ (e_ (e_ a_ η) E);refine c_ (c_ (c_ (c_ (c_ (c_ (c_ (c_ d_ ?_) ?_) ?_) ?_) ?_) ?_) ?_) ?_<;>simp only[go_sem,g8,g9,Z,β,γ,δ,ε]
 ·have:k=0:=Om;subst this;have hz:¬ ((0:Nat):Int)-1≥0:=by decide
  simp only[go_sem,hz];refine hK U Q _ x ?_;unfold dI
  (repeat' (first|exact d_|refine c_ ?_ ?_))<;>first|(simp only[go_sem,show ((0:Nat):Int)-1=-1 from rfl]<;>rfl)|rfl
open Go Go.Na
def rFr (o d e c or n s i:Nat):PF:=((((((PF.nil.set 8 (.int .u64 s)).set 9 (.osl o 1 0 d)).set 12 (.osl e 1 0 c)).set 19 (.osl or 1 0 n)).set 166 (.int .i64 n)).set 167 (.int .i64 i))
theorem aLF {x s:Nat} (c:s≤64):shift .shr .u64 (x:Int) (s:Int)=some (.int .u64 ((x/2 ^ s:Nat):Int)):=by
 unfold shift;rw[if_neg Om];simp only;have:min (Int.toNat (s:Int)) IntKind.u64.bits=s:=by rw[show IntKind.u64.bits=64 from rfl]; omega
 rw[this,Int.fdiv_eq_ediv_of_nonneg _ (by exact_mod_cast aUT _)]
 norm_cast
theorem Qc {C:Ctx} (o l c lq n s:Nat) (U Q:List Nat) (hs:s<32) (h3:c≠o) (W:Lim U) (hl:U.length=l) (hn:n<l) (β:l≤10000) (K:bR) (F:PF)
  (f8:F 8=some (.int .u64 s)) (f9:F 9=some (.osl o 1 0 l)) (f11:F 11=some (.int .i64 n)) (γ:F 12=some (.osl c 1 0 lq))
  (hK:∀ or F' H',or≠o→or≠c→(rFr o l c lq or n s n).le F'→H' c=some (.rows 1 (aL Q))→H' or=some (.rows 1 (aL (dZ n (val U/2 ^ s))))→K .normal F' H') :
  aC.wp C (.seq (.region FF) (.seq (.region FG) (.block 6 (.loop EV)))) K F ((PH.nil.set o (.rows 1 (aL U))).set c (.rows 1 (aL Q))):=by
 have Y:((n:Nat):Int)*((4:Nat):Int)≤140737488355328:=Om;have Z:((n:Nat):Int)≤9223372036854775807:=Om;have hz:aUR n [PV.int .u32 0]=aL ([]++aUR n 0):=by simp[aL]
 simp only[go_sem,FF,f11,Y,Z,hz];refine aO fun or J=>?_;have n1:¬ or=c:=(jF.1 J).1;have n2:¬ or=o:=(jF.1 (jF.1 J).2).1;have u:¬ c=or:=fun h=>n1 h.symm;have w:¬ o=or:=fun h=>n2 h.symm;have n3:¬ c=o:=h3;have y:¬ o=c:=fun h=>n3 h.symm;simp only[go_sem,FG];refine wp_loop (α:=List Nat) (fun P=>rFr o l c lq or n s P.length) (fun P=>((PH.nil.set o (.rows 1 (aL U))).set c (.rows 1 (aL Q))).set or (.rows 1 (aL (P++aUR (n-P.length) 0)))) (fun P=>P.length≤n∧P=dZ P.length (val U/2 ^ s)) (fun P=>n-P.length) []
  ⟨by simp,rfl⟩ ?_ ?_ ?_
 ·unfold rFr;exact Lq
 ·refine e_ (e_ (e_ a_ ?_) ?_) ?_<;>simp only[go_sem,n1,u,n2,w,n3,y,aXD]
 rintro P ⟨hP,hD⟩;simp only[go_sem,EV,YF,rFr];by_cases c1:P.length<n
 ·have i:(P.length:Int)<(n:Nat):=Om;obtain⟨k,hk⟩:∃ k,n-P.length=k+1:=⟨n-P.length-1,by omega⟩;have X:(aL (P++aUR (k+1) 0))[P.length]?=some [.int .u32 ((0:Nat):Int)]:=by rw[bU _ (by simp)]; simp
  have O:P.length<U.length:=Om;have a1:P.length+1<U.length:=Om;have b0:(P.length:Int)<(l:Nat):=Om;have b1:((P.length+1:Nat):Int)<(l:Nat):=Om;have δ:=W _ (aUQ O);have ε:=W _ (aUQ a1);have e:val U/4294967296 ^ P.length=U[P.length]+4294967296*(U[P.length+1]+4294967296*val (U.drop (P.length+2))):=by rw[← vX W Om,aWM O,aWM a1];rfl
  have H:=YV hs e;have g0:=bU U O;have g1:=bU U a1;generalize ζ:U[P.length]=p at *
  generalize η:U[P.length+1]=d at *
  have e1:IntKind.i64.wrap ((P.length:Int)+1)=((P.length+1:Nat):Int):=dA Om;have S:IntKind.u64.wrap ((p:Nat):Int)=((p:Nat):Int):=bH Om;have V:IntKind.u64.wrap ((d:Nat):Int)=((d:Nat):Int):=bH Om;have B:shift .shl .u64 (d:Int) 32=some (.int .u64 ((2 ^ 32*d:Nat):Int)):=NJ (s:=32) Om Om;have R:(2:Nat) ^ 32=4294967296:=by decide
  have A:=orI (a:=2 ^ 32*d) (b:=p) (n:=2 ^ 32*d+p) Om Om (Nat.two_pow_add_eq_or_of_lt Om d).symm Om;rw[R] at B A;have E:=aLF (x:=4294967296*d+p) (s:=s) Om;have N:(aL (P++aUR (k+1) 0)).set P.length [.int .u32 (((4294967296*d+p)/2 ^ s%4294967296:Nat):Int)]=aL ((P++[(4294967296*d+p)/2 ^ s%4294967296])++aUR k 0):=by rw[fP,zV]
  simp only[go_sem,i,YG];refine bS .nil dT a_ ?_;simp only[go_sem,YH,i,e1,b0,b1,w,y,g0,g1,S,V,B,A,E,cL,hk,X,N];refine⟨a_,?_⟩;simp only[go_sem,YI,e1];refine aG (P++[(4294967296*d+p)/2 ^ s%4294967296]) ⟨by simp; omega,?_⟩ (by simp; omega) ?_ (e_ (e_ (e_ a_ ?_) ?_) ?_)
  ·rw[aUS,aUX,wU,← hD,H]
  ·rw[aUS,aUX];exact Lq
  ·simp only[go_sem,w,y]
  ·simp only[go_sem,u]
  ·rw[aUS,aUX,show n-(P.length+1)=k by omega];simp only[go_sem]
 ·have e:P.length=n:=Om;have i:¬ (P.length:Int)<(n:Nat):=Om;have M:aUR (n-P.length) 0=[]:=by rw[show n-P.length=0 by omega]; rfl
  rw[e] at hD;simp only[go_sem,i,M,aWF];refine hK or _ _ n2 n1 ?_ (by simp only[go_sem,u]) (by simp only[go_sem]; rw[← hD]);unfold rFr;rw[e];exact Lq
structure Hx (C:Ctx):Prop where
 L:rQ C
 D:G5 C
 up:∀ (a:List Nat) (s:Nat),Lim a→s<32→a.length≤1000→aH C 143 [aK a,.int .u64 s] .nil (upR a s)
 short:∀ (a:List Nat) (d:Nat),Lim a→0<d→d<4294967296→a.length≤1000→aH C 140 [aK a,.int .u32 d] .nil (aI (.tup [aK (aJ (val a/d)),.int .u32 ((val a%d:Nat):Int)]))
 lengthO:∀ (xs:List Nat) (o:Nat),Lim xs→xs.length≤35184372087808→aH C 138 [.osl o 1 0 xs.length] (PH.nil.set o (.rows 1 (aL xs))) (fun r H'=>r=.int .i64 (nl (val xs):Nat)∧H'=PH.nil.set o (.rows 1 (aL xs)))
def awC:Spec:=fun name vs=>match name,vs with
 | 143,[x,.int _ s]=>some ([],fun _=>upR (jN x) s.toNat)
 | 138,[.osl q _ _ _]=>some ([q],fun c r H'=>H'=c∧∀ xs,Lim xs→c q=some (.rows 1 (aL xs))→r=.int .i64 (nl (val xs):Nat))
 | _,_=>none
theorem X7 (a:List Nat) (s:Nat):awC 143 [aK a,.int .u64 s]=some ([],fun _=>upR a s):=by
 show some _=_; rw[eJ,aWK]
theorem Um (a:List Nat) (s:Nat):∀ G:PH,∃ r H',upR a s r H'∧mM G .nil H':=fun G=>by
 obtain⟨o,d⟩:=G.fresh;refine⟨_,_,⟨o,rfl,rfl⟩,fun q x c _=>?_⟩;rw[aN] at c;split at c
 ·rename_i e; subst e; exact d
 ·cases c
theorem TE {xs ys:List Nat} (h:aL xs=aL ys):xs=ys:=by
 have:=congrArg jN (show aK xs=aK ys by show PV.sl 1 (aL xs)=PV.sl 1 (aL ys); rw[h])
 rwa [eJ,eJ] at this
theorem B9 (q:Nat) (L:List Nat):(PH.nil.set q (.rows 1 (aL L)))=(PH.nil.set q (.rows 1 (aL L)))∧∀ xs,Lim xs→(PH.nil.set q (.rows 1 (aL L))) q=some (.rows 1 (aL xs))→(PV.int .i64 (nl (val L):Nat))=.int .i64 (nl (val xs):Nat):=by
 refine⟨rfl,fun xs c e=>?_⟩;rw[cO] at e;have:aL L=aL xs:=(cB.rows.inj (aXC.inj e)).2;rw[TE this]
def rD (A B:Nat):PV:=.tup [aK (aJ (A/B)),aK (aJ (A%B))]
def akM (a b:List Nat) (s:Nat):PF:=(((PF.nil.set 0 (aK a)).set 1 (aK b)).set 8 (.int .u64 s))
theorem aHY {x s:Nat} (c:s≤31) (h:x*2 ^ s<4294967296):shift .shl .u32 (x:Int) (s:Int)=some (.int .u32 ((x*2 ^ s:Nat):Int)):=by
 unfold shift;rw[if_neg Om];simp only;have:min (Int.toNat (s:Int)) IntKind.u32.bits=s:=by rw[show IntKind.u32.bits=32 from rfl]; omega
 rw[this,show (x:Int)*2 ^ s=((x*2 ^ s:Nat):Int) by simp,cL,aWA h]
theorem Vx {n i x:Nat} (c:(aUR n 0)[i]?=some x):x=0:=by
 have:=aXL c;rw[List.mem_replicate] at this;exact this.2
theorem akO {C:Ctx} (F:Hx C) (A B:Nat) (hB:B≠0) (hA:nl A≤900) (i':nl B≤900) :
  BB.wp C (aU u9.res (bX (rD A B))) (PF.args [aK (aJ A),aK (aJ B)]) .nil:=by
 have LA:=aV A;have Y:=aV B;have vA:=aT A;have vB:=aT B;have lA:(aJ A).length=nl A:=rfl;have lB:(aJ B).length=nl B:=rfl;simp only[go_sem,BB,mh,mi,u9];refine aA (F.L.cmp _ _ LA Y Om Om) rfl ?_;rw[vA,vB];by_cases c1:A<B
 ·have hc:dQ A B<0:=by simp[dQ,c1]
  simp only[go_sem,hc,mj];refine aA (F.L.trim _ LA Om) rfl ?_;rw[vA];simp only[go_sem];refine aX (vs:=[.aB,aK (aJ A)]) (.inr rfl) .nil rfl a_ ⟨?_,rfl⟩;rw[rD,aYD c1,aWA c1,fR];refine .tup rfl fun j p q hp hq=>?_
  match j with
  | 0=>simp at hp hq; subst hp; subst hq; exact .nil 1
  | 1=>simp at hp hq; subst hp; subst hq; exact .refl _
  | j+2=>simp at hp
 have hc:¬ dQ A B<0:=by unfold dQ;rw[if_neg c1];split<;>decide
 have Q:0<B:=aXB hB;have l':nl B≠0:=fun h=>hB (iY.1 h);simp only[go_sem,hc,ml];by_cases c2:nl B=1
 ·have γ:B<4294967296:=by have:=(jI B 1).1 Om; simpa using this
  have Ξ:aJ B=[B]:=oW hB γ;have X:A%B<B:=aWJ _ Q;have ew:IntKind.u64.wrap ((A%B:Nat):Int)=((A%B:Nat):Int):=bH Om;rw[Ξ];have ξ:=F.short (aJ A) B LA Q γ Om;rw[vA] at ξ;simp only[go_sem,show (((1:Nat):Int)==1)=true from rfl,mm];refine aA ξ rfl ?_;simp only[go_sem,mo,ew];refine aA (F.L.make (A%B) Om) rfl ?_;simp only[go_sem];exact aX (vs:=[aK (aJ (A/B)),aK (aJ (A%B))]) (.inr rfl) .nil rfl a_ ⟨.refl _,rfl⟩
 obtain⟨m,hm⟩:∃ m,nl B=m+2:=⟨nl B-2,by omega⟩;have h':nl B≤nl A:=fX Om;obtain⟨bt,u,e'⟩:=Sp Y (n:=m+1) (by rw[vB]; exact hm);have K:m+1<(aJ B).length:=Om;have ι:bt<4294967296:=Y bt (aXL u);have j':B=val ((aJ B).take (m+1))+4294967296 ^ (m+1)*bt:=by have e:=cI (aJ B) K;rw[aVI Om,vB] at e;rw[aVB K] at u;rw[aXC.inj u] at e;exact e
 have S:=fG (Y.take (m+1));rw[aVJ,aWW Om] at S;have ν:(aL (aJ B))[m+1]?=some [.int .u32 ((bt:Nat):Int)]:=by rw[bU _ K];rw[aVB K] at u;rw[aXC.inj u]
 have i1:IntKind.i64.wrap ((((aJ B).length:Nat):Int)-1)=((m+1:Nat):Int):=by rw[wrap_i64 Om Om]; omega
 have κ:¬ (((aJ B).length:Nat):Int)=1:=Om;simp only[go_sem,bG κ,mp];refine wp_loop (α:=Nat) (fun s=>akM (aJ A) (aJ B) s) (fun _=>.nil) (fun s=>s≤31∧bt*2 ^ s<4294967296) (fun s=>32-s) 0 ⟨by omega,by simpa using ι⟩ ?_ a_ ?_
 ·unfold akM;exact Lq
 rintro s ⟨hs,Θ⟩;have υ:=aHY hs Θ;simp only[go_sem,mg,mq,akM,i1,ν,υ];refine avS ?_ ?_
 ·intro c3;have τ:=of_decide_eq_true c3;have f':s<31:=by
   rcases aVL s 31 with h | h
   ·exact h
   ·exfalso;have e:2147483648≤2 ^ s:=aYK (show 0<2 by decide) h;have H:1*2 ^ s≤bt*2 ^ s:=aVV _ Om;omega
  have es:IntKind.u64.wrap ((s:Int)+1)=((s+1:Nat):Int):=by rw[wrap_u64 Om Om]; omega
  simp only[go_sem,mr,es];refine aG (s+1) ⟨by omega,by rw[aWL,← aVO]; omega⟩ Om ?_ a_;exact Lq
 intro c3;have τ:=of_decide_eq_false c3;have y:s<32:=Om;have w:0<2 ^ s:=aXK (by decide);have O:2147483648*4294967296 ^ (m+1)≤B*2 ^ s:=by
  have e:2147483648*4294967296 ^ (m+1)≤(bt*2 ^ s)*4294967296 ^ (m+1):=aVV _ Om;have H:(4294967296 ^ (m+1)*bt)*2 ^ s≤B*2 ^ s:=aVV _ Om;have h3:(4294967296 ^ (m+1)*bt)*2 ^ s=(bt*2 ^ s)*4294967296 ^ (m+1):=by rw[aVO,aVR]
  omega
 have θ:B*2 ^ s<4294967296 ^ (m+2):=by
  have h0:(bt+1)*2 ^ s≤4294967296:=by
   have g':(4294967296:Nat)=2 ^ (32-s)*2 ^ s:=by rw[← Nat.pow_add,show 32-s+s=32 by omega]
   have:bt<2 ^ (32-s):=by
    rcases aVL bt (2 ^ (32-s)) with h | h
    ·exact h
    ·have:=aVV (2 ^ s) h;omega
   have:=aVV (2 ^ s) (show bt+1≤2 ^ (32-s) from this);omega
  have e:B<(bt+1)*4294967296 ^ (m+1):=by rw[aVU,Nat.one_mul,aVR bt]; omega
  have H:B*2 ^ s<(bt+1)*4294967296 ^ (m+1)*2 ^ s:=Nat.mul_lt_mul_of_pos_right e w;have h3:(bt+1)*4294967296 ^ (m+1)*2 ^ s=(bt+1)*2 ^ s*4294967296 ^ (m+1):=Nat.mul_right_comm _ _ _;have h4:(bt+1)*2 ^ s*4294967296 ^ (m+1)≤4294967296*4294967296 ^ (m+1):=aVV _ h0;have h5:4294967296 ^ (m+2)=4294967296*4294967296 ^ (m+1):=by rw[aWL,aVR]
  omega
 have N:A<4294967296 ^ nl A:=(jI A _).1 (aUU _);simp only[go_sem];refine bS .nil awC a_ ?_;simp only[go_sem,XW];have ua:=F.up (aJ A) s LA y Om;have ub:=F.up (aJ B) s Y y Om;refine X6 (X7 (aJ A) s) ua rfl (Um _ _) ?_;rintro r H' ⟨o,rfl,rfl⟩ -;rw[PH.nP,lA,vA];refine⟨a_,?_⟩;simp only[go_sem];refine X6 (X7 (aJ B) s) ub rfl (Um _ _) ?_;rintro r H' ⟨o2,rfl,rfl⟩ Δ;rw[PH.nP,lB,vB,hm];refine⟨a_,?_⟩;have Λ:=Δ o2 _ (by rw[aN,if_pos rfl]) (by rfl);have ρ:¬ o2=o:=(jF.1 Λ).1;have c':¬ o=o2:=fun h=>ρ h.symm;have k1:((m+2:Nat):Int)≤((m+2+1:Nat):Int):=Om;have k2:IntKind.i64.wrap (((nl A+1:Nat):Int)-((m+2:Nat):Int))=((nl A+1-(m+2):Nat):Int):=by rw[wrap_i64 Om Om]; omega
 obtain⟨c,Φ⟩:∃ c,nl A+1-(m+2)=c:=⟨_,rfl⟩;have Ψ:nl A+1=c+(m+2):=Om;rw[Φ] at k2;have k3:((c:Nat):Int)*((4:Nat):Int)≤140737488355328:=Om;have k4:((c:Nat):Int)≤9223372036854775807:=Om;have hz:aUR c [PV.int .u32 0]=aL (aUR c 0):=by simp[aL]
 have k5:m+2-0=m+2:=Om;simp only[go_sem,lB,hm,k1,k5,XY,XZ,k2,k3,k4,hz];refine aO fun E μ=>?_;have q2:¬ E=o2:=(jF.1 μ).1;have q1:¬ E=o:=(jF.1 (jF.1 μ).2).1;have σ:¬ o2=E:=fun h=>q2 h.symm;have d':¬ o=E:=fun h=>q1 h.symm;have Ω:dZ (m+2+1) (B*2 ^ s)=dZ (m+2) (B*2 ^ s)++[B*2 ^ s/4294967296 ^ (m+2)%4294967296]:=wU _ _;have Lv:=nC (m+2) (B*2 ^ s);have lv:=lO (m+2) (B*2 ^ s);have vv:val (dZ (m+2) (B*2 ^ s))=B*2 ^ s:=pB θ;have ο:(aL (dZ (m+2+1) (B*2 ^ s))).take (m+2)=aL (dZ (m+2) (B*2 ^ s)):=by unfold aL;rw[← List.map_take,Ω,List.take_append_of_le_length Om,aVI Om]
 generalize o':dZ (m+2) (B*2 ^ s)=v at *
 have p':(dZ (m+2+1) (B*2 ^ s)).length=m+2+1:=lO _ _;have M:∀ i (h:i<v.length),(aL (dZ (m+2+1) (B*2 ^ s)))[i]?=some [.int .u32 ((v[i]:Nat):Int)]:=by intro i h;have e:(aL v)[i]?=some [.int .u32 ((v[i]:Nat):Int)]:=bU v h;rw[← ο,List.getElem?_take_of_lt Om] at e;exact e
 have g1:=M (m+1) Om;have g0:=M m Om;have htop:2147483648≤v[m+1]:=by
  have e:=cI v (Om:m+1<v.length);rw[aVI Om,vv] at e;have H:=fG (Lv.take (m+1));rw[aVJ,aWW Om] at H;rcases aVL v[m+1] 2147483648 with h | h
  ·exfalso;have h3:4294967296 ^ (m+1)*(v[m+1]+1)≤4294967296 ^ (m+1)*2147483648:=aXA _ h;rw[aVF,Nat.mul_one] at h3;rw[aVR 2147483648] at O;omega
  ·exact h
 have n':=Lv _ (aUQ (Om:m+1<v.length));have m':=Lv _ (aUQ (Om:m<v.length));have w1:IntKind.u64.wrap ((v[m+1]:Nat):Int)=((v[m+1]:Nat):Int):=bH Om;have w0:IntKind.u64.wrap ((v[m]:Nat):Int)=((v[m]:Nat):Int):=bH Om;have j1:IntKind.i64.wrap (((m+2:Nat):Int)-1)=((m+1:Nat):Int):=by rw[wrap_i64 Om Om]; omega
 have j0:IntKind.i64.wrap (((m+2:Nat):Int)-2)=((m:Nat):Int):=by rw[wrap_i64 Om Om]; omega
 have d1:((m+1:Nat):Int)<((m+2:Nat):Int):=Om;have d0:((m:Nat):Int)<((m+2:Nat):Int):=Om;have jq:IntKind.i64.wrap ((c:Int)-1)=(c:Int)-1:=wrap_i64 Om Om;simp only[go_sem];refine bS .nil dT a_ ?_;simp only[go_sem,YA,j1,j0,d1,d0,σ,g1,g0,w1,w0,YB,jq];have η:A*2 ^ s<4294967296 ^ (nl A+1):=by
  have h0:2 ^ s≤4294967296:=by have:(2:Nat) ^ s≤2 ^ 32:=aYK (by decide) Om;simpa using this
  have e:A*2 ^ s<4294967296 ^ nl A*2 ^ s:=Nat.mul_lt_mul_of_pos_right N w;have H:4294967296 ^ nl A*2 ^ s≤4294967296 ^ nl A*4294967296:=aXA _ h0;rw[aWL]; omega
 have LU:=nC (nl A+1) (A*2 ^ s);have lU:=lO (nl A+1) (A*2 ^ s);have vU:val (dZ (nl A+1) (A*2 ^ s))=A*2 ^ s:=pB η;have hI:pM (A*2 ^ s) (val v) (m+2) (nl A+1) c c (dZ (nl A+1) (A*2 ^ s)) (aUR c 0):=by
  refine⟨lU,List.length_replicate,LU,xA _,by rw[vU,tA]; omega,?_,fun i x _ hx=>Vx hx⟩
  ·rw[vX LU Om,vU,vv,aXP (aXK (by decide))];have e:A*2 ^ s<4294967296 ^ nl A*2 ^ s:=Nat.mul_lt_mul_of_pos_right N w;have hx:nl A=m+1+c:=Om;have H:4294967296 ^ nl A=4294967296 ^ (m+1)*4294967296 ^ c:=by rw[hx,Nat.pow_add]
   have h3:2 ^ s≤2147483648:=by have:(2:Nat) ^ s≤2 ^ 31:=aYK (by decide) hs;simpa using this
   have h4:4294967296 ^ nl A*2 ^ s≤(2147483648*4294967296 ^ (m+1))*4294967296 ^ c:=by rw[H,aVR (4294967296 ^ (m+1)*4294967296 ^ c),← aVO];exact aVV _ (aVV _ h3)
   have h5:(2147483648*4294967296 ^ (m+1))*4294967296 ^ c≤B*2 ^ s*4294967296 ^ c:=aVV _ O;omega
 have W:=Qb (C:=C) F.D (A*2 ^ s) m (nl A+1) c o o2 E s v (dZ (m+2+1) (B*2 ^ s)) ρ q1 q2 Lv lv ο Om htop Ψ Om _ hI;simp only[go_sem] at W;refine W _ _ _ ?_ (by simp only[go_sem,c',d']) (by simp only[go_sem,σ]) Sq ?_
 ·unfold dI;exact Lq
 clear W;intro U' l F' d J;have hu:val U'<val v:=by have:=d.r; rwa [aVY] at this
 have V:=d.v;rw[vv] at hu V;have Γ:0<B*2 ^ s:=Om;have ψ:val l=A/B:=by
  have:A*2 ^ s/(B*2 ^ s)=val l:=by rw[← V,Nat.add_mul_div_right _ _ Γ,aYD hu,aVH]
  rw[← this,Nat.mul_div_mul_right _ _ w]
 have ω:val U'/2 ^ s=A%B:=by
  have:A*2 ^ s%(B*2 ^ s)=val U':=by rw[← V,Nat.add_mul_mod_self_right,aWA hu]
  rw[← this,Nat.mul_mod_mul_right,Nat.mul_div_cancel _ w]
 have g8:=J 8 _ (by unfold dI; simp only[go_sem]; rfl);have g9:=J 9 _ (by unfold dI; simp only[go_sem]; rfl);have φ:=J 11 _ (by unfold dI; simp only[go_sem]; rfl);have χ:=J 12 _ (by unfold dI; simp only[go_sem]; rfl);have rest:=Qc (C:=C) o (nl A+1) E c (m+2) s U' l y q1 d.limU d.lu' Om Om;simp only[go_sem] at rest;simp only[go_sem];refine rest _ _ g8 g9 φ χ ?_;clear rest;intro or F2 H2 r1 r2 δ ε U;rw[ω] at U;have a':=δ 12 _ (by unfold rFr; simp only[go_sem]; rfl);have b':=δ 19 _ (by unfold rFr; simp only[go_sem]; rfl);have ζ:A%B<4294967296 ^ (m+2):=by have e:A%B<B:=aWJ _ Q;have H:B<4294967296 ^ nl B:=(jI B _).1 (aUU _);rw[hm] at H; omega
 have LR:=nC (m+2) (A%B);have lR:=lO (m+2) (A%B);have vR:val (dZ (m+2) (A%B))=A%B:=pB ζ;have nQ:=fO d.limQ;have nR:=fO LR;have e1:=d.lq';generalize k':dZ (m+2) (A%B)=R at *
 simp only[go_sem];refine bS .nil awC a_ ?_;simp only[go_sem,YJ,a'];have Z:=F.lengthO l E d.limQ Om;rw[e1] at Z;have β:=F.lengthO R or LR Om;rw[lR] at β;refine al (o:=E) (x:=.rows 1 (aL l)) (v:=.int .i64 (nl (val l):Nat)) rfl ε Z (B9 E l) (fun r H' X=>⟨X.2 l d.limQ (by rw[cO]),X.1⟩) rfl a_ ?_;have c4:((nl (val l):Nat):Int)≤(c:Nat):=Om;simp only[go_sem,c4,b',Nat.sub_zero];refine al (o:=or) (x:=.rows 1 (aL R)) (v:=.int .i64 (nl (val R):Nat)) rfl U β (B9 or R) (fun r H' X=>⟨X.2 R LR (by rw[cO]),X.1⟩) rfl a_ ?_;have c5:((nl (val R):Nat):Int)≤((m+2:Nat):Int):=Om;simp only[go_sem,c5];refine arN (o1:=E) (o2:=or) (s1:=1) (s2:=1) (k1:=nl (val l)) (k2:=nl (val R)) (rs1:=aL l) (rs2:=aL R) (.inr rfl) (fun h=>r2 h.symm) rfl rfl ε U (by rw[cD]; exact nQ) (by rw[cD]; exact nR) (sR _ _ _ _) rfl ⟨?_,rfl⟩;have t1:(aL l).take (nl (val l))=aL (aJ (A/B)):=by have:=jP d.limQ;rw[ψ] at this ⊢;exact this
 have t2:(aL R).take (nl (val R))=aL (aJ (A%B)):=by have:=jP LR;rw[vR] at this ⊢;exact this
 rw[t1,t2];exact .refl _
def axH (a b:Nat):PF:=((PF.nil.set 0 (aK (aJ a))).set 1 (aK (aJ b)))
theorem aHD {C:Ctx} (L:rQ C) (c:∀ A B:Nat,B≠0→nl A≤900→nl B≤900→aH C 136 [aK (aJ A),aK (aJ B)] .nil (aI (rD A B))) (a b:List Nat) (p:Lim a) (u:Lim b) (E:a.length≤35184372087808) (F:b.length≤35184372087808) :
  TB.wp C (aU azO.res (bX (if eC (val a) (val b) then .tup [aK [],.int .i64 2] else .tup [aK (aJ (aUP (val a) (val b))),.int .i64 0]))) (PF.args [aK a,aK b]) .nil:=by
 simp only[go_sem,TB,abT,abU,azO];refine aA (L.large a p E) rfl ?_;by_cases d:nl (val a)>512
 ·simp only[go_sem,d,va];rw[if_pos (by simp[eC,d])];exact eW rfl
 simp only[go_sem,d];refine aA (L.large b u F) rfl ?_;by_cases e:nl (val b)>512
 ·simp only[go_sem,e,va];rw[if_pos (by simp[eC,e])];exact eW rfl
 rw[if_neg (by simp[eC,d,e])];simp only[go_sem,e,abV];refine aA (L.trim a p E) rfl ?_;simp only[go_sem];refine aA (L.trim b u F) rfl ?_;simp only[go_sem];refine wp_loop (α:=Nat × Nat) (fun t=>axH t.1 t.2) (fun _=>.nil) (fun t=>aUP t.1 t.2=aUP (val a) (val b)∧nl t.1≤512∧nl t.2≤512) (fun t=>t.2) (val a,val b) ⟨rfl,by simp only; omega,by simp only; omega⟩ ?_ a_ ?_
 ·unfold axH;exact Lq
 rintro⟨x,y⟩ ⟨l,H,w⟩;simp only at l H w;simp only[go_sem,abS,abW,axH,bB];by_cases i:y=0
 ·subst i;have:¬ ((nl 0:Nat):Int)>0:=by rw[zT]; decide
  simp only[go_sem,this,abZ];refine aX (vs:=[aK (aJ x),.int .i64 0]) (.inr rfl) .nil rfl a_ ⟨?_,rfl⟩;rw[← l,Nat.gcd_zero_right];exact .refl _
 ·have J:nl y≠0:=fun h=>i (iY.1 h);have:((nl y:Nat):Int)>0:=Om;simp only[go_sem,this,abX];refine aA (c x y i Om Om) rfl ?_;simp only[go_sem,rD,abY];have hlt:x%y<y:=aWJ _ (aXB i);refine aG (y,x%y) ⟨?_,w,?_⟩ hlt ?_ a_
  ·simp only;rw[← l,Nat.gcd_comm y,← Nat.gcd_rec y x,Nat.gcd_comm]
  ·have:=fX (Nat.le_of_lt hlt);simp only; omega
  ·exact Lq
def nG (A B:Nat):PV:=if eC A B then .tup [aK [],aK [],.int .i64 2] else if B=0 then .tup [aK [],aK [],.int .i64 3] else .tup [aK (aJ (A/B)),aK (aJ (A%B)),.int .i64 0]
def akN:Spec:=fun name vs=>match name,vs with
 | 138,[x]=>some ([],fun _=>aI (.int .i64 (nl (val (jN x)):Nat)))
 | 136,[x,y]=>some ([],fun _=>aI (rD (val (jN x)) (val (jN y))))
 | _,_=>none
theorem SY (xs:List Nat):akN 138 [aK xs]=some ([],fun _=>aI (.int .i64 (nl (val xs):Nat))):=by
 show some _=_; rw[eJ]
theorem Qa (A B:Nat):akN 136 [aK (aJ A),aK (aJ B)]=some ([],fun _=>aI (rD A B)):=by
 show some _=_; rw[eJ,eJ,aT,aT]
theorem sT {res:List eA} {F:PF} {H:PH} {e:Int} (h:eA.evs F H res=some [.aB,.aB,.int .i64 e]):aU res (bX (.tup [aK [],aK [],.int .i64 e])) .ret F H:=by
 refine aX (.inr rfl) .nil h a_ ⟨?_,rfl⟩;refine .tup rfl fun j p q c d=>?_
 match j with
 | 0=>simp at c d; subst c; subst d; exact .nil 1
 | 1=>simp at c d; subst c; subst d; exact .nil 1
 | 2=>simp at c d; subst c; subst d; exact .refl _
 | j+3=>simp at c
theorem aHA {C:Ctx} (L:rQ C) (i:∀ A B:Nat,B≠0→nl A≤900→nl B≤900→aH C 136 [aK (aJ A),aK (aJ B)] .nil (aI (rD A B))) (a b:List Nat) (p:Lim a) (e:Lim b) (y:a.length≤35184372087808) (x:b.length≤35184372087808) :
  SZ.wp C (aU azM.res (bX (nG (val a) (val b)))) (PF.args [aK a,aK b]) .nil:=by
 simp only[go_sem,SZ,abM,abN,azM];refine aA (L.large a p y) rfl ?_;by_cases c:nl (val a)>512
 ·simp only[go_sem,c,u7];rw[show nG (val a) (val b)=.tup [aK [],aK [],.int .i64 2] by simp[nG,eC,c]];exact sT rfl
 simp only[go_sem,c];refine aA (L.large b e x) rfl ?_;by_cases l:nl (val b)>512
 ·simp only[go_sem,l,u7];rw[show nG (val a) (val b)=.tup [aK [],aK [],.int .i64 2] by simp[nG,eC,l]];exact sT rfl
 simp only[go_sem,l,abO];refine aA (L.length b e x) rfl ?_;by_cases d:val b=0
 ·have:((nl (val b):Nat):Int)=0:=by rw[d,zT]; rfl
  simp only[go_sem,bP this,abP];rw[show nG (val a) (val b)=.tup [aK [],aK [],.int .i64 3] by simp[nG,eC,c,d,zT]];exact sT rfl
 have E:nl (val b)≠0:=fun h=>d (iY.1 h);rw[show nG (val a) (val b)=.tup [aK (aJ (val a/val b)),aK (aJ (val a%val b)),.int .i64 0] by simp[nG,eC,c,l,d]];simp only[go_sem,bG (show ((nl (val b):Nat):Int)≠0 by omega)];refine bS .nil akN a_ ?_;simp only[go_sem,abQ];have F:=fO p;have H:=fO e;have u:((nl (val a):Nat):Int)≤(a.length:Nat):=Om;have w:((nl (val b):Nat):Int)≤(b.length:Nat):=Om;refine bY (SY a) (L.length a p y) rfl a_ ?_;simp only[go_sem,u,or_true,aVY,jP p];refine bY (SY b) (L.length b e x) rfl a_ ?_;simp only[go_sem,w,or_true,aVY,jP e];refine bY (Qa (val a) (val b)) (i _ _ d Om Om) rfl a_ ?_;simp only[go_sem,rD,abR];exact aX (.inr rfl) .nil rfl a_ ⟨.refl _,rfl⟩
def jr:Rg:=[iA 6 (.alloc [zB,.aB,.aB]),iI 7 0]
def js:Rg:=[iM 11 1,iM 12 2,iK2 13 131 11 12,iM 10 13,iE 14 10 0,iE 15 10 1,iM 8 14,iM 9 15]
def jt:Rg:=[iM 16 8,iK 17 128 16,iC 18 .gtr 17 1]
def ju:Rg:=[iM 20 1,iM 21 8,iK2 22 130 20 21,iM 19 22,iE 23 19 0,iE 24 19 1,iE 25 19 2,iM 1 23]
def jv:Rg:=[iM 27 2,iM 28 8,iK2 29 130 27 28,iM 26 29,iE 30 26 0,iE 31 26 1,iE 32 26 2,iM 2 30]
def JK:Rg:=[iM 33 1,iK 34 128 33,iC 35 .gtr 34 4096,iM 36 35,gM 37 2 36 false,gK 38 128 37 36 false,gC 39 .gtr 38 4096 36 false,iQ 40 36 39]
def yA:Rg:=[iA 41 (.build [zB,.aB,.aB] []),iS 3 6 41,iI 7 2]
def JL:Rg:=[iM 42 0,iM 43 42,gM 44 1 43 true,gK 45 128 44 43 true,gC 46 .gtr 45 0 43 true,iP 47 43 46,iM 48 1,iK 49 135 48,iM 50 2,iK 51 135 50,iA 52 (.build [zB,.aB,.aB] [(0,1,(Tm 47)),(1,1,(Tm 49)),(2,1,(Tm 51))]),iS 3 6 52,iI 7 0]
def AN:aC:=(sq jr (.seq (sq js (sq jt (.cond (Tm 18) (sq ju (.region jv)) .skip))) (.seq (sq JK (.cond (Tm 40) (sq yA .ret) .skip)) (sq JL .ret))))
def aiM:List Nat:=[]
def uY:aZ:=⟨3,53,AN,[.cell 6 (some 3),.tmp 7]⟩
def y9:Rg:=[iZ 4]
def za:Rg:=[iM 8 0,iM 9 1,iK2 10 133 8 9,iM 7 10,iE 11 7 0,iE 12 7 1,iM 5 11,iM 6 12]
def zb:Rg:=[iM 13 5,iM 4 13]
def ED:aC:=(sq y9 (sq za (sq zb .ret)))
def aoZ:List Nat:=[]
def K6:aZ:=⟨2,14,ED,[.tmp 4]⟩
def K8:Rg:=[iA 1 (.box true (Tm 0)),iT 2 false]
def K9:Rg:=[iF 3 1 1,iL 4 3,iK 5 128 4,iC 6 .eql 5 0,iM 2 6]
def JO:aC:=(sq K8 (sq K9 .ret))
def axA:List Nat:=[1]
def aiR:aZ:=⟨1,7,JO,[.tmp 2]⟩
def Kv:Rg:=[iA 4 (.alloc [zB,.aB,.aB]),iI 5 0]
def Kw:Rg:=[iM 6 1,iC 7 .eql 6 0]
def Kx:Rg:=[iA 8 (.build [zB,.aB,.aB] []),iS 3 4 8,iI 5 3]
def Ky:Rg:=[iM 9 0,iC 10 .lss 9 0,iM 11 1,iC 12 .lss 11 0,iA 13 (.eqb true (Tm 10) (Tm 12)),iM 14 0,iK 15 119 14,iM 16 1,iK 17 119 16,iA 18 (.call 120 [(Tm 13),(Tm 15),(Tm 17)]),iE 19 18 0,iE 20 18 1,iS 3 4 19,iM 5 20]
def JM:aC:=(sq Kv (.seq (sq Kw (.cond (Tm 7) (sq Kx .ret) .skip)) (sq Ky .ret)))
def awY:List Nat:=[]
def G9:aZ:=⟨2,21,JM,[.cell 4 (some 3),.tmp 5]⟩
def Ye:Rg:=[iZ 2]
def Yf:Rg:=[iM 3 0,iC 4 .lss 3 0]
def Yg:Rg:=[iM 5 0,iA 6 (.conv .u64 (Tm 5)),iA 7 (.un .neg (Tm 6)),iK 8 132 7,iM 2 8]
def Yh:Rg:=[iM 9 0,iA 10 (.conv .u64 (Tm 9)),iK 11 132 10,iM 2 11]
def RS:aC:=(sq Ye (.seq (sq Yf (.cond (Tm 4) (sq Yg .ret) .skip)) (sq Yh .ret)))
def aEX:List Nat:=[]
def awU:aZ:=⟨1,12,RS,[.tmp 2]⟩
def zc:Rg:=[iA 1 (.box true (Tm 0)),iT 2 false]
def zd:Rg:=[iF 4 2 1,iL 5 4,iK 6 128 5,iM 3 6]
def CD:Rg:=[iM 7 3,iC 8 .gtr 7 0,iM 9 8,gM 10 3 9 true,gC 11 .leq 10 4096 9 true,iP 12 9 11,iM 13 12,gF 14 1 1 13 true,gL 15 14 13 true,gK 16 128 15 13 true,gC 17 .leq 16 4096 13 true,iP 18 13 17,iM 2 18]
def EE:aC:=(sq zc (sq zd (sq CD .ret)))
def apB:List Nat:=[1]
def K7:aZ:=⟨1,19,EE,[.tmp 2]⟩
def jy:Rg:=[iA 1 (.box true (Tm 0)),iA 2 (.alloc [zB,.aB,.aB]),iI 3 0]
def jz:Rg:=[iO 4 3 1,iK 5 118 4,iA 6 (.un .not (Tm 5))]
def j2:Rg:=[iA 7 (.build [zB,.aB,.aB] []),iS 3 2 7,iI 3 1]
def j3:Rg:=[iF 8 0 1,iL 9 8,iF 10 1 1,iL 11 10,iF 12 2 1,iL 13 12,iA 14 (.call 120 [(Tm 9),(Tm 11),(Tm 13)]),iE 15 14 0,iE 16 14 1,iS 3 2 15,iM 3 16]
def AO:aC:=(sq jy (.seq (sq jz (.cond (Tm 6) (sq j2 .ret) .skip)) (sq j3 .ret)))
def aiO:List Nat:=[1]
def WF:aZ:=⟨1,17,AO,[.cell 2 (some 3),.tmp 3]⟩
def Yr:Rg:=[iA 2 (.box true (Tm 0)),iA 3 (.box true (Tm 1)),iI 4 0,iI 5 0]
def Ys:Rg:=[iO 9 3 2,iK 10 118 9,iA 11 (.un .not (Tm 10)),iM 12 11,gO 13 3 3 12 false,gK 14 118 13 12 false,iG 15 (.un .not (Tm 14)) 12 false,iQ 16 12 15]
def tv:Rg:=[iI 4 0,iI 5 1]
def Yt:Rd:=[(iF 17 1 2,false),(iL 18 17,false),(iF 19 2 3,false),(iL 20 19,false),(iK2 21 121 18 20,true),(iF 22 1 3,true),(iL 23 22,true),(iF 24 2 2,true),(iL 25 24,true),(iK2 26 121 23 25,true),(iK2 27 129 21 26,true),(iM 6 27,false)]
def Yu:Rd:=[(iF 28 0 2,false),(iL 29 28,false),(iM 30 29,false),(gO 31 3 2 30 true,false),(gK 32 122 31 30 true,true),(iG 33 (.un .not (Tm 32)) 30 true,true),(iP 34 30 33,true),(iF 35 0 3,true),(iL 36 35,true),(iM 37 36,false),(gO 38 3 3 37 true,false),(gK 39 122 38 37 true,true),(iG 40 (.un .not (Tm 39)) 37 true,false),(iP 41 37 40,false),(iM 7 34,false),(iM 8 41,false)]
def zH:Rg:=[iM 43 7,iM 44 43,gM 45 8 44 true,iP 46 44 45,iM 42 46]
def tw:Rg:=[iM 47 6,iA 48 (.un .neg (Tm 47)),iM 4 48,iI 5 0]
def HI:Rg:=[iM 50 7,iM 49 50]
def tx:Rg:=[iI 4 (-1),iI 5 0]
def WE:Rg:=[iM 52 8,iM 51 52]
def ao:Rg:=[iI 4 1,iI 5 0]
def ap:Rg:=[iM 53 6,iM 4 53,iI 5 0]
def RU:aC:=(sq Yr (.seq (sq Ys (.cond (Tm 16) (sq tv .ret) .skip)) (dq Yt (dq Yu (.seq (.block 0 (sq zH (.cond (Tm 42) (sq tw .ret) (sq HI (.cond (Tm 49) (sq tx .ret) (sq WE (.cond (Tm 51) (sq ao .ret) .skip))))))) (sq ap .ret))))))
def aFB:List Nat:=[2,3]
def awV:aZ:=⟨2,54,RU,[.tmp 4,.tmp 5]⟩
def Yi:Rg:=[iA 2 (.box true (Tm 0)),iA 3 (.box true (Tm 1)),iA 4 (.alloc [zB,.aB,.aB]),iI 5 0]
def Yj:Rg:=[iO 15 3 2,iK 16 118 15,iA 17 (.un .not (Tm 16)),iM 18 17,gO 19 3 3 18 false,gK 20 118 19 18 false,iG 21 (.un .not (Tm 20)) 18 false,iQ 22 18 21]
def tu:Rg:=[iA 23 (.build [zB,.aB,.aB] []),iS 3 4 23,iI 5 1]
def Yk:Rd:=[(iF 24 1 2,false),(iL 25 24,false),(iF 26 2 3,false),(iL 27 26,false),(iK2 28 121 25 27,true),(iF 29 1 3,true),(iL 30 29,true),(iF 31 2 2,true),(iL 32 31,true),(iK2 33 121 30 32,true),(iF 34 2 2,true),(iL 35 34,true),(iF 36 2 3,true),(iL 37 36,true),(iK2 38 121 35 37,true),(iM 6 28,false),(iM 7 33,false),(iM 8 38,false)]
def Yl:Rg:=[iF 39 0 2,iL 40 39,iF 41 0 3,iL 42 41,iA 43 (.eqb false (Tm 40) (Tm 42))]
def Ym:Rg:=[iM 45 6,iM 46 7,iK2 47 127 45 46,iM 44 47,iE 48 44 0,iE 49 44 1,iM 9 48,iM 10 49]
def Yn:Rg:=[iF 50 0 2,iL 51 50,iM 52 9,iM 53 8,iA 54 (.call 120 [(Tm 51),(Tm 52),(Tm 53)]),iE 55 54 0,iE 56 54 1,iS 3 4 55,iM 5 56]
def Yo:Rg:=[iM 57 6,iM 58 7,iK2 59 129 57 58,iC 60 .geq 59 0]
def Yp:Rg:=[iM 62 6,iM 63 7,iK2 64 134 62 63,iM 61 64,iE 65 61 0,iE 66 61 1,iM 11 65,iM 12 66]
def Yq:Rg:=[iF 67 0 2,iL 68 67,iM 69 11,iM 70 8,iA 71 (.call 120 [(Tm 68),(Tm 69),(Tm 70)]),iE 72 71 0,iE 73 71 1,iS 3 4 72,iM 5 73]
def Km:Rg:=[iM 75 7,iM 76 6,iK2 77 134 75 76,iM 74 77,iE 78 74 0,iE 79 74 1,iM 13 78,iM 14 79]
def Ko:Rg:=[iF 80 0 3,iL 81 80,iM 82 13,iM 83 8,iA 84 (.call 120 [(Tm 81),(Tm 82),(Tm 83)]),iE 85 84 0,iE 86 84 1,iS 3 4 85,iM 5 86]
def RT:aC:=(sq Yi (.seq (sq Yj (.cond (Tm 22) (sq tu .ret) .skip)) (dq Yk (.seq (sq Yl (.cond (Tm 43) (sq Ym (sq Yn .ret)) .skip)) (.seq (sq Yo (.cond (Tm 60) (sq Yp (sq Yq .ret)) .skip)) (sq Km (sq Ko .ret)))))))
def aEZ:List Nat:=[2,3]
def tt:aZ:=⟨2,87,RT,[.cell 4 (some 3),.tmp 5]⟩
def Yw:Rg:=[iA 2 (.alloc [zB,.aB,.aB]),iI 3 0]
def Yx:Rg:=[iA 9 (.call 132 [(.const (.int .u64 1))]),iA 10 (.build [zB,.aB,.aB] [(2,1,(Tm 9))]),iA 4 (.alloc [zB,.aB,.aB]),iS 3 4 10]
def Yy:Rg:=[iM 11 0,iN 12 11,iI 13 0]
def Yz:Rg:=[iB 14 .lss 13 12]
def Y0:Rg:=[iX 15 3 11 13,iO 16 3 15,iA 6 (.alloc [zB,.aB,.aB]),iS 3 6 16]
def Y1:Rg:=[iO 18 3 4,iO 19 3 6,iK2 20 113 18 19,iM 17 20,iE 21 17 0,iE 22 17 1,iA 7 (.alloc [zB,.aB,.aB]),iS 3 7 21,iM 8 22]
def t6:Rg:=[iM 23 8,iC 24 .neq 23 0]
def Y2:Rg:=[iA 25 (.build [zB,.aB,.aB] []),iM 26 8,iS 3 2 25,iM 3 26]
def Y3:Rg:=[iO 27 3 7,iS 3 4 27]
def Y4:Rg:=[iC 28 .add 13 1,iM 13 28]
def K5:aC:=(sq Yz (.seq (.cond (Tm 14) .skip (.exit 0)) (.seq (.block 1 (sq Y0 (sq Y1 (.seq (sq t6 (.cond (Tm 24) (sq Y2 .ret) .skip)) (.region Y3))))) (.region Y4))))
def aw:Rg:=[iO 29 3 4,iS 3 2 29,iI 3 0]
def SA:aC:=(sq Yw (sq Yx (.seq (sq Yy (.block 0 (.loop K5))) (sq aw .ret))))
def aFH:List Nat:=[]
def K4:aZ:=⟨1,30,SA,[.cell 2 (some 3),.tmp 3]⟩
theorem CoL.nil:CoL [] []:=.refl _
theorem CoL.cons {p q:PV} {ps i:List PV} (h:Co p q) (e:CoL ps i):CoL (p::ps) (q::i) :=
 ⟨by simp[e.len],fun j a b c d=>by
  cases j with
  | zero=>simp at c d; subst c; subst d; exact h
  | succ j=>exact e.at_ j a b (by simpa using c) (by simpa using d)⟩
theorem CoL.agg {ps c:List PV} (h:CoL ps c):Co (.agg ps) (.agg c):=.agg h.len h.at_
theorem CoL.tup {ps c:List PV} (h:CoL ps c):Co (.tup ps) (.tup c):=.tup h.len h.at_
structure tH (C:Ctx):Prop extends rQ C where
 bits:∀ xs,Lim xs→xs.length≤35184372087808→aH C 128 [aK xs] .nil (aI (.int .i64 (cM (val xs):Nat)))
 add:∀ xs ys,Lim xs→Lim ys→xs.length≤35184372087808→ys.length≤35184372087808→aH C 127 [aK xs,aK ys] .nil (aI (opV (eC (val xs) (val ys)) (val xs+val ys)))
 sub:∀ xs ys,Lim xs→Lim ys→xs.length≤35184372087808→ys.length≤35184372087808→aH C 134 [aK xs,aK ys] .nil (aI (sM (val xs) (val ys)))
 mul:∀ xs ys,Lim xs→Lim ys→xs.length≤35184372087808→ys.length≤35184372087808→aH C 133 [aK xs,aK ys] .nil (aI (opV (eC (val xs) (val ys)) (val xs*val ys)))
 gcd:∀ xs ys,Lim xs→Lim ys→xs.length≤35184372087808→ys.length≤35184372087808→aH C 131 [aK xs,aK ys] .nil (aI (if eC (val xs) (val ys) then .tup [aK [],.int .i64 2] else .tup [aK (aJ (aUP (val xs) (val ys))),.int .i64 0]))
 div:∀ xs ys,Lim xs→Lim ys→xs.length≤35184372087808→ys.length≤35184372087808→aH C 130 [aK xs,aK ys] .nil (aI (nG (val xs) (val ys)))
theorem iV {a b:Nat} (c:nl a≤512) (d:nl b≤512):eC a b=false:=by
 simp[eC]; omega
theorem mA {a b m n:Nat} (c:nl a≤m) (d:nl b≤n):nl (a*b)≤m+n:=by
 rw[jI] at c d ⊢;rw[Nat.pow_add];by_cases h:b=0
 ·subst h; exact Nat.mul_pos (aXK (by decide)) (aXK (by decide))
 ·calc a*b<4294967296 ^ m*b:=Nat.mul_lt_mul_of_pos_right c (aXB h)
   _≤4294967296 ^ m*4294967296 ^ n:=aXA _ (Nat.le_of_lt d)
theorem BG {n:Nat} (h:nl n≤512):szV n=.tup [aK (aJ n),.int .i64 0]:=by
 have:¬ nl n>512:=Om;simp[szV,szL,szE,this]
theorem aoY {C:Ctx} (L:tH C) (a b:List Nat) (c:Lim a) (d:Lim b) (e:a.length≤35184372087808) (i:b.length≤35184372087808) (l:nl (val a)≤256) (p:nl (val b)≤256) :
  ED.wp C (aU K6.res (aI (aK (aJ (val a*val b))))) (PF.args [aK a,aK b]) .nil:=by
 simp only[go_sem,ED,y9,za,K6];refine aA (L.mul a b c d e i) rfl ?_;have:=mA l p;rw[iV Om Om,opV,BG Om];simp only[go_sem,zb];refine aR (.inr rfl) rfl ?_;rfl
abbrev eM (neg:Bool) (a b:List Nat):List PV:=[.bool neg,aK a,aK b]
theorem awZ {C:Ctx} (L:tH C) (neg:Bool) (a b:List Nat) (d:Lim a) (e:a.length≤35184372087808) :
  JO.wp C (aU aiR.res (aI (.bool (decide (val a=0))))) (PF.args [.agg (eM neg a b)]) .nil:=by
 simp only[go_sem,JO,K8,K9,aiR];refine aA (L.bits a d e) rfl ?_;simp only[go_sem];refine aR (.inr rfl) rfl ?_;have:=@kK (val a);by_cases c:val a=0
 ·rw[bP Om,decide_eq_true c]; rfl
 ·rw[bG Om,decide_eq_false c]; rfl
def cX (a b:Nat):Bool:=decide (0<cM b)&&decide (cM b≤4096)&&decide (cM a≤4096)
theorem apA {C:Ctx} (L:tH C) (neg:Bool) (a b:List Nat) (l:Lim a) (p:Lim b) (u:a.length≤35184372087808) (w:b.length≤35184372087808) :
  EE.wp C (aU K7.res (aI (.bool (cX (val a) (val b))))) (PF.args [.agg (eM neg a b)]) .nil:=by
 simp only[go_sem,EE,zc,zd,K7];refine aA (L.bits b p w) rfl ?_;by_cases e:0<cM (val b)
 ·have c:((cM (val b):Nat):Int)>0:=Om;by_cases i:cM (val b)≤4096
  ·have d:((cM (val b):Nat):Int)≤4096:=Om;simp only[go_sem,CD,c,d];refine aA (L.bits a l u) rfl ?_;simp only[go_sem];refine aR (.inr rfl) rfl ?_;show PV.bool (decide _)=_;rw[cX,decide_eq_true e,decide_eq_true i,aVA,aVA];congr 1;rw[decide_eq_decide];omega
  ·have d:¬ ((cM (val b):Nat):Int)≤4096:=Om;simp only[go_sem,CD,c,d];refine aR (.inr rfl) rfl ?_;show PV.bool _=_;simp[cX,e,i]
 ·have c:¬ ((cM (val b):Nat):Int)>0:=Om;simp only[go_sem,CD,c];refine aR (.inr rfl) rfl ?_;show PV.bool _=_;simp[cX,e]
theorem aEW {C:Ctx} (L:tH C) (v:Int) (d:-9223372036854775808≤v) (i:v≤9223372036854775807) :
  RS.wp C (aU awU.res (aI (aK (aJ v.natAbs)))) (PF.args [.int .i64 v]) .nil:=by
 simp only[go_sem,RS,Ye,Yf,awU];by_cases c:v<0
 ·have e:IntKind.u64.wrap (0-IntKind.u64.wrap v)=(v.natAbs:Int):=by rw[fY,fY]; omega
  simp only[go_sem,c,Yg,e];refine aA (L.make v.natAbs Om) rfl ?_;simp only[go_sem];refine aR (.inr rfl) rfl ?_;rfl
 ·have e:IntKind.u64.wrap v=(v.natAbs:Int):=by rw[fY]; omega
  simp only[go_sem,c,Yh,e];refine aA (L.make v.natAbs Om) rfl ?_;simp only[go_sem];refine aR (.inr rfl) rfl ?_;rfl
abbrev CC (e:Int):PV:=.tup [.agg (eM false [] []),.int .i64 e]
abbrev aiP (neg:Bool) (a b:Nat):PV:=.tup [.agg (eM neg (aJ a) (aJ b)),.int .i64 0]
def KT (neg:Bool) (a b:Nat):PV :=
 if cM (a/aUP a b)>4096∨cM (b/aUP a b)>4096 then CC 2 else aiP (neg&&decide (a/aUP a b≠0)) (a/aUP a b) (b/aUP a b)
theorem iW {res:List eA} {F:PF} {H:PH} {e:Int} (h:eA.evs F H res=some [.agg [.bool false,.aB,.aB],.int .i64 e]):aU res (bX (CC e)) .ret F H :=
 aX (.inr rfl) .nil h a_ ⟨CoL.tup (.cons (CoL.agg (.cons (.refl _) (.cons (.nil 1) (.cons (.nil 1) .nil)))) (.cons (.refl _) .nil)),rfl⟩
theorem Ip {n:Nat}:cM n>1↔n>1:=by
 have:=mJ n 1;omega
theorem np {a n:Nat} (g:Nat) (h:nl a≤n):nl (a/g)≤n:=aWE (fX (aXM _ _)) h
theorem RZ {C:Ctx} (L:tH C) (neg:Bool) (a b:List Nat) (l:Lim a) (u:Lim b) (p:a.length≤35184372087808) (w:b.length≤35184372087808) (o:Nat) (F:PF) (H:PH)
  (f0:F 0=some (.bool neg)) (f1:F 1=some (aK a)) (f2:F 2=some (aK b)) (f6:F 6=some (.ptr o 3 0 0)) (f7:F 7=some (.int .i64 0)) (c:H o=some (.rows 3 [[.bool false,.aB,.aB]])) :
  aC.wp C (.seq (.seq (.region JK) (.cond (.tmp 40) (.seq (.region yA) .ret) .skip)) (.seq (.region JL) .ret)) (aU uY.res (bX (if cM (val a)>4096∨cM (val b)>4096 then CC 2 else aiP (neg&&decide (val a≠0)) (val a) (val b)))) F H:=by
 have fin:∀ (r:List (List PV)) F H,F 6=some (.ptr o 3 0 0)→F 7=some (.int .i64 2)→H o=some (.rows 3 [[.bool false,.aB,.aB]])→aU uY.res (bX (CC 2)) .ret F H:=by intro r F H A h7 h;refine iW ?_;simp only[go_sem,uY,A,h7,h]
 simp only[go_sem,JK,f1];refine aA (L.bits a l p) rfl ?_;by_cases x:cM (val a)>4096
 ·have d:((cM (val a):Nat):Int)>4096:=Om;rw[if_pos (.inl x)];simp only[go_sem,d,yA,f6,c];exact fin [] _ _ (by simp only[go_sem,f6]) rfl Sq
 ·have d:¬ ((cM (val a):Nat):Int)>4096:=Om;simp only[go_sem,d,f2];refine aA (L.bits b u w) rfl ?_;by_cases y:cM (val b)>4096
  ·have i:((cM (val b):Nat):Int)>4096:=Om;rw[if_pos (.inr y)];simp only[go_sem,i,yA,f6,c];exact fin [] _ _ (by simp only[go_sem,f6]) rfl Sq
  ·have i:¬ ((cM (val b):Nat):Int)>4096:=Om;rw[if_neg Om];have last:∀ F:PF,F 1=some (aK a)→F 2=some (aK b)→F 6=some (.ptr o 3 0 0)→∀ (q:Bool),q=(neg&&decide (val a≠0))→F 47=some (.bool q) →
     True:=fun _ _ _ _ _ _ _=>trivial
   simp only[go_sem,i,JL,f0,f1,f2,f6,c];cases neg with
   | false =>simp only[go_sem,f0,f1,f2,f6,c];refine aA (L.trim a l p) rfl ?_;simp only[go_sem,f0,f1,f2,f6,c];refine aA (L.trim b u w) rfl ?_;simp only[go_sem,f0,f1,f2,f6,c,aUV];refine aX (.inr rfl) .nil (vs:=[.agg (eM false (aJ (val a)) (aJ (val b))),.int .i64 0]) ?_ a_ ⟨.refl _,rfl⟩;simp only[go_sem,uY,f6,c]
   | true =>
    simp only[go_sem,f0,f1,f2,f6,c];refine aA (L.bits a l p) rfl ?_;have e:decide (((cM (val a):Nat):Int)>0)=decide (val a≠0):=by have:=@kK (val a);rw[decide_eq_decide]; omega
    simp only[go_sem,f0,f1,f2,f6,c,e];refine aA (L.trim a l p) rfl ?_;simp only[go_sem,f0,f1,f2,f6,c];refine aA (L.trim b u w) rfl ?_;simp only[go_sem,f0,f1,f2,f6,c,aVA];refine aX (.inr rfl) .nil (vs:=[.agg (eM (decide (val a≠0)) (aJ (val a)) (aJ (val b))),.int .i64 0]) ?_ a_ ⟨.refl _,rfl⟩;simp only[go_sem,uY,f6,c]
theorem aiL {C:Ctx} (L:tH C) (neg:Bool) (a b:List Nat) (u:Lim a) (w:Lim b) (x:a.length≤35184372087808) (y:b.length≤35184372087808) (A:nl (val a)≤512) (l:nl (val b)≤512) (B:val b≠0) :
  AN.wp C (aU uY.res (bX (KT neg (val a) (val b)))) (PF.args [.bool neg,aK a,aK b]) .nil:=by
 simp only[go_sem,AN,jr,js];refine aO fun o J=>?_;simp only[go_sem];refine aA (L.gcd a b u w x y) rfl ?_;rw[iV A l];simp only[go_sem,jt];have e:aUP (val a) (val b)≠0:=by intro h; exact B (Nat.gcd_eq_zero_iff.1 h).2
 have i:nl (aUP (val a) (val b))≤512:=aWE (fX (Nat.gcd_le_right _ (aXB B))) l;have d:(aJ (aUP (val a) (val b))).length≤35184372087808:=by rw[bB]; omega
 refine aA (L.bits _ (aV _) d) rfl ?_;rw[aT];by_cases c:aUP (val a) (val b)>1
 ·have p:((cM (aUP (val a) (val b)):Nat):Int)>1:=by have:=Ip.2 c; omega
  simp only[go_sem,p,ju];refine aA (L.div a _ u (aV _) x d) rfl ?_;rw[aT,nG,iV A i,if_neg (by decide),if_neg e];simp only[go_sem,jv];refine aA (L.div b _ w (aV _) y d) rfl ?_;rw[aT,nG,iV l i,if_neg (by decide),if_neg e];simp only[go_sem];have:=RZ L neg (aJ (val a/aUP (val a) (val b))) (aJ (val b/aUP (val a) (val b))) (aV _) (aV _) (by rw[bB]; have:=np (aUP (val a) (val b)) A; omega) (by rw[bB]; have:=np (aUP (val a) (val b)) l; omega) o;rw[aT,aT] at this;have:=fun F H=>this F H;simp only[aC.wp,go_sem] at this;exact this _ _ rfl rfl rfl rfl rfl Sq
 ·have p:¬ ((cM (aUP (val a) (val b)):Nat):Int)>1:=by have:=(@Ip (aUP (val a) (val b))); omega
  have E:aUP (val a) (val b)=1:=Om;simp only[go_sem,p];rw[KT,E,Nat.div_one,Nat.div_one];have:=RZ L neg a b u w x y o;simp only[aC.wp,go_sem] at this;exact this _ _ rfl rfl rfl rfl rfl Sq
structure IE (C:Ctx):Prop extends tH C where
 times:∀ a b,Lim a→Lim b→a.length≤35184372087808→b.length≤35184372087808→nl (val a)≤256→nl (val b)≤256→aH C 121 [aK a,aK b] .nil (aI (aK (aJ (val a*val b))))
 zero:∀ neg a b,Lim a→a.length≤35184372087808→aH C 122 [.agg (eM neg a b)] .nil (aI (.bool (decide (val a=0))))
 valid:∀ neg a b,Lim a→Lim b→a.length≤35184372087808→b.length≤35184372087808→aH C 118 [.agg (eM neg a b)] .nil (aI (.bool (cX (val a) (val b))))
 abs:∀ v:Int,-9223372036854775808≤v→v≤9223372036854775807→aH C 119 [.int .i64 v] .nil (aI (aK (aJ v.natAbs)))
 lowest:∀ neg a b,Lim a→Lim b→a.length≤35184372087808→b.length≤35184372087808→nl (val a)≤512→nl (val b)≤512→val b≠0→aH C 120 [.bool neg,aK a,aK b] .nil (aI (KT neg (val a) (val b)))
def kj (n d:Int):PV:=if d=0 then CC 3 else KT (decide (n<0) != decide (d<0)) n.natAbs d.natAbs
theorem oL {n k:Nat} (h:n<4294967296 ^ k):nl n≤k:=(jI _ _).2 h
theorem N7 (neg:Bool) (a b:Nat):∃ c x y e,KT neg a b=.tup [.agg (eM c x y),.int .i64 e]:=by
 unfold KT;split
 ·exact⟨_,_,_,_,rfl⟩
 ·exact⟨_,_,_,_,rfl⟩
theorem awX {C:Ctx} (L:IE C) (n d:Int) (l:-9223372036854775808≤n) (p:n≤9223372036854775807) (u:-9223372036854775808≤d) (w:d≤9223372036854775807) :
  JM.wp C (aU G9.res (bX (kj n d))) (PF.args [.int .i64 n,.int .i64 d]) .nil:=by
 simp only[go_sem,JM,Kv,Kw];refine aO fun o B=>?_;unfold kj;by_cases c:d=0
 ·subst c;simp only[go_sem,Kx];refine iW ?_;simp only[go_sem,G9]
 ·rw[if_neg c];simp only[go_sem,bG c,Ky];refine aA (L.abs n l p) rfl ?_;simp only[go_sem];refine aA (L.abs d u w) rfl ?_;simp only[go_sem];have E:nl n.natAbs≤2:=oL Om;have F:nl d.natAbs≤2:=oL Om;have low:=L.lowest (decide (n<0) != decide (d<0)) (aJ n.natAbs) (aJ d.natAbs) (aV _) (aV _) (by rw[bB]; omega) (by rw[bB]; omega);rw[aT,aT] at low;have low:=low Om Om Om;refine aA low rfl ?_;obtain⟨i,x,y,e,A⟩:=N7 (decide (n<0) != decide (d<0)) n.natAbs d.natAbs;rw[A];simp only[go_sem];exact aX (.inr rfl) .nil (vs:=[.agg (eM i x y),.int .i64 e]) (by simp only[go_sem,G9]) a_ ⟨.refl _,rfl⟩
theorem fU {a b:Nat}:cX a b=true↔b≠0∧nl b≤128∧nl a≤128:=by
 have c:=mK b 128;have d:=mK a 128;have e:=@kK b;simp only[cX,aVE,decide_eq_true_eq];omega
def WT (neg:Bool) (a b:Nat):PV:=if cX a b then KT neg a b else CC 1
theorem aiN {C:Ctx} (L:IE C) (neg:Bool) (a b:List Nat) (d:Lim a) (i:Lim b) (l:a.length≤35184372087808) (p:b.length≤35184372087808) :
  AO.wp C (aU WF.res (bX (WT neg (val a) (val b)))) (PF.args [.agg (eM neg a b)]) .nil:=by
 simp only[go_sem,AO,jy,jz];refine aO fun o B=>?_;simp only[go_sem];refine aA (L.valid neg a b d i l p) rfl ?_;unfold WT;cases w:cX (val a) (val b) with
 | false =>simp only[go_sem,j2,aVG];refine iW ?_;simp only[go_sem,WF]
 | true =>obtain⟨A,E,F⟩:=fU.1 w;simp only[go_sem,j3,aUW];refine aA (L.lowest neg a b d i l p Om Om A) rfl ?_;obtain⟨c,x,y,e,u⟩:=N7 neg (val a) (val b);rw[u];simp only[go_sem];exact aX (.inr rfl) .nil (vs:=[.agg (eM c x y),.int .i64 e]) (by simp only[go_sem,WF]) a_ ⟨.refl _,rfl⟩
def pV (c:Bool) (a1 b1:Nat) (d:Bool) (a2 b2:Nat):Int :=
 match c&&decide (a1≠0),d&&decide (a2≠0) with
 | true,true=>- dQ (a1*b2) (a2*b1)
 | true,false=>-1
 | false,true=>1
 | false,false=>dQ (a1*b2) (a2*b1)
def CB (c:Bool) (a1 b1:Nat) (d:Bool) (a2 b2:Nat):PV :=
 if cX a1 b1&&cX a2 b2 then .tup [.int .i64 (pV c a1 b1 d a2 b2),.int .i64 0] else .tup [.int .i64 0,.int .i64 1]
def fr1:PV→List Nat
 | .agg [_,a,_]=>jN a
 | _=>[]
def frS:Spec:=fun name vs=>match name,vs with
 | 121,[x,y]=>some ([],fun _=>aI (aK (aJ (val (jN x)*val (jN y)))))
 | 129,[x,y]=>some ([],fun _=>aI (.int .i64 (dQ (val (jN x)) (val (jN y)))))
 | 122,[x]=>some ([],fun _=>aI (.bool (decide (val (fr1 x)=0))))
 | _,_=>none
theorem wX (a b:List Nat):frS 121 [aK a,aK b]=some ([],fun _=>aI (aK (aJ (val a*val b)))):=by
 show some _=_; rw[eJ,eJ]
theorem aFE (a b:List Nat):frS 129 [aK a,aK b]=some ([],fun _=>aI (.int .i64 (dQ (val a) (val b)))):=by
 show some _=_; rw[eJ,eJ]
theorem au (neg:Bool) (a b:List Nat):frS 122 [.agg (eM neg a b)]=some ([],fun _=>aI (.bool (decide (val a=0)))):=by
 show some _=_; rw[fr1,eJ]
theorem avP (a b:Nat):IntKind.i64.wrap (0-dQ a b)=- dQ a b:=by
 unfold dQ; split
 ·rfl
 ·split<;>rfl
theorem aFA {C:Ctx} (L:IE C) (p l:Bool) (a1 b1 a2 b2:List Nat) (e:Lim a1) (u:Lim b1) (c:Lim a2) (w:Lim b2)
  (i:a1.length≤35184372087808) (x:b1.length≤35184372087808) (d:a2.length≤35184372087808) (y:b2.length≤35184372087808) :
  RU.wp C (aU awV.res (bX (CB p (val a1) (val b1) l (val a2) (val b2)))) (PF.args [.agg (eM p a1 b1),.agg (eM l a2 b2)]) .nil:=by
 simp only[go_sem,RU,Yr,Ys];refine aA (L.valid p a1 b1 e u i x) rfl ?_;unfold CB;cases N:cX (val a1) (val b1) with
 | false =>simp only[go_sem,aVG,tv,aUV];exact aX (.inr rfl) .nil (vs:=[.int .i64 0,.int .i64 1]) rfl a_ ⟨.refl _,rfl⟩
 | true =>
  obtain⟨Y,Q,R⟩:=fU.1 N;simp only[go_sem,aUW];refine aA (L.valid l a2 b2 c w d y) rfl ?_;cases O:cX (val a2) (val b2) with
  | false =>simp only[go_sem,aVG,tv,aWB];exact aX (.inr rfl) .nil (vs:=[.int .i64 0,.int .i64 1]) rfl a_ ⟨.refl _,rfl⟩
  | true =>
   obtain⟨Z,S,U⟩:=fU.1 O;simp only[go_sem,aUW,aWQ];refine bS .nil frS a_ ?_;simp only[go_sem,Yt];refine bY (wX a1 b2) (L.times a1 b2 e w i y Om Om) rfl a_ ?_;simp only[go_sem];refine bY (wX a2 b1) (L.times a2 b1 c u d x Om Om) rfl a_ ?_;simp only[go_sem];have W:=mA R S;have X:=mA U Q;have H:=L.cmp (aJ (val a1*val b2)) (aJ (val a2*val b1)) (aV _) (aV _) (by rw[bB]; omega) (by rw[bB]; omega);have J:=aFE (aJ (val a1*val b2)) (aJ (val a2*val b1));rw[aT,aT] at H J;refine bY J H rfl a_ ?_;simp only[go_sem];refine bS .nil frS a_ ?_;have V:(!decide (val a1=0))=decide (val a1≠0):=by by_cases h:val a1=0<;>simp[h]
   have K:(!decide (val a2=0))=decide (val a2≠0):=by by_cases h:val a2=0<;>simp[h]
   have fin:∀ (F:PF) (A B:Bool),F 6=some (.int .i64 (dQ (val a1*val b2) (val a2*val b1)))→F 7=some (.bool A)→F 8=some (.bool B)→A=(p&&decide (val a1≠0))→B=(l&&decide (val a2≠0)) →
     aC.wp C (.seq (.block 0 (.seq (.region zH) (.cond (.tmp 42) (.seq (.region tw) .ret) (.seq (.region HI) (.cond (.tmp 49) (.seq (.region tx) .ret) (.seq (.region WE) (.cond (.tmp 51) (.seq (.region ao) .ret) .skip))))))) (.seq (.region ap) .ret)) (aU awV.res (bX (.tup [.int .i64 (pV p (val a1) (val b1) l (val a2) (val b2)),.int .i64 0]))) F .nil:=by
    intro F A B f6 f7 E M hB;rw[pV,← M,← hB];cases A<;>cases B
    ·simp only[go_sem,zH,HI,WE,ap,f6,f7,E];exact aX (.inr rfl) .nil rfl a_ ⟨.refl _,rfl⟩
    ·simp only[go_sem,zH,HI,WE,ao,f6,f7,E];exact aX (.inr rfl) .nil rfl a_ ⟨.refl _,rfl⟩
    ·simp only[go_sem,zH,HI,tx,f6,f7,E];exact aX (.inr rfl) .nil rfl a_ ⟨.refl _,rfl⟩
    ·simp only[go_sem,zH,tw,f6,f7,E,avP];exact aX (.inr rfl) .nil rfl a_ ⟨.refl _,rfl⟩
   simp only[aC.wp,go_sem] at fin;simp only[go_sem,Yu];cases p with
   | false =>
    simp only[go_sem];cases l with
    | false =>simp only[go_sem];exact fin _ false false rfl rfl rfl rfl rfl
    | true =>simp only[go_sem];refine bY (au true a2 b2) (L.zero true a2 b2 c d) rfl a_ ?_;simp only[go_sem,K];exact fin _ false (decide (val a2≠0)) rfl rfl rfl rfl (by rw[aVA])
   | true =>
    simp only[go_sem];refine bY (au true a1 b1) (L.zero true a1 b1 e i) rfl a_ ?_;simp only[go_sem,V];cases l with
    | false =>simp only[go_sem];exact fin _ (decide (val a1≠0)) false rfl rfl rfl (by rw[aVA]) rfl
    | true =>simp only[go_sem];refine bY (au true a2 b2) (L.zero true a2 b2 c d) rfl a_ ?_;simp only[go_sem,K];exact fin _ (decide (val a1≠0)) (decide (val a2≠0)) rfl rfl rfl (by rw[aVA]) (by rw[aVA])
abbrev FV:=Bool × Nat × Nat
abbrev FR:=Except Int FV
def jB (neg:Bool) (a b:Nat):FR :=
 if cM (a/aUP a b)>4096∨cM (b/aUP a b)>4096 then .error 2 else .ok (neg&&decide (a/aUP a b≠0),a/aUP a b,b/aUP a b)
def frV:FR→PV
 | .ok (n,a,b)=>aiP n a b
 | .error e=>CC e
theorem uo (neg:Bool) (a b:Nat):KT neg a b=frV (jB neg a b):=by
 unfold KT jB;split<;>rfl
def gY:FV→FV→FR
 | (c,a1,b1),(d,a2,b2)=>if cX a1 b1&&cX a2 b2 then
   (if c=d then jB c (a1*b2+a2*b1) (b1*b2) else if a2*b1≤a1*b2 then jB c (a1*b2-a2*b1) (b1*b2) else jB d (a2*b1-a1*b2) (b1*b2))
  else .error 1
theorem Qe {a b m:Nat} (c:nl a≤m) (d:nl b≤m):nl (a+b)≤m+1:=by
 rw[jI] at c d ⊢;rw[aWL]; omega
theorem WA (a b:Nat):(dQ a b≥0)↔b≤a:=by
 unfold dQ;split
 ·constructor
  ·intro h; exact absurd h (by decide)
  ·intro h; omega
 ·split
  ·constructor
   ·intro h; omega
   ·intro h; decide
  ·constructor
   ·intro h; omega
   ·intro h; decide
theorem uZ (r:FR):∃ c x y e,frV r=.tup [.agg (eM c x y),.int .i64 e]:=by
 rcases r with e | ⟨n,a,b⟩
 ·exact⟨_,_,_,_,rfl⟩
 ·exact⟨_,_,_,_,rfl⟩
theorem aEY {C:Ctx} (L:IE C) (i p:Bool) (a1 b1 a2 b2:List Nat) (N:Lim a1) (E:Lim b1) (O:Lim a2) (J:Lim b2)
  (Q:a1.length≤35184372087808) (K:b1.length≤35184372087808) (R:a2.length≤35184372087808) (M:b2.length≤35184372087808) :
  RT.wp C (aU tt.res (bX (frV (gY (i,val a1,val b1) (p,val a2,val b2))))) (PF.args [.agg (eM i a1 b1),.agg (eM p a2 b2)]) .nil:=by
 simp only[go_sem,RT,Yi];refine aO fun o ho=>?_;simp only[go_sem,Yj];refine aA (L.valid i a1 b1 N E Q K) rfl ?_;simp only[gY];cases hv:cX (val a1) (val b1) with
 | false =>simp only[go_sem,aVG,tu,aUV];refine iW ?_;simp only[go_sem,tt]
 | true =>
  obtain⟨v1,v2,v3⟩:=fU.1 hv;simp only[go_sem,aUW];refine aA (L.valid p a2 b2 O J R M) rfl ?_;cases hw:cX (val a2) (val b2) with
  | false =>simp only[go_sem,aVG,tu,aWB];refine iW ?_;simp only[go_sem,tt]
  | true =>
   obtain⟨w1,w2,w3⟩:=fU.1 hw;simp only[go_sem,aUW,aWQ];refine bS .nil frS a_ ?_;simp only[go_sem,Yk];refine bY (wX a1 b2) (L.times a1 b2 N J Q M Om Om) rfl a_ ?_;simp only[go_sem];refine bY (wX a2 b1) (L.times a2 b1 O E R K Om Om) rfl a_ ?_;simp only[go_sem];refine bY (wX b1 b2) (L.times b1 b2 E J K M Om Om) rfl a_ ?_;simp only[go_sem];have m1:=mA v3 w2;have m2:=mA w3 v2;have m3:=mA v2 w2;have d0:val b1*val b2≠0:=Nat.mul_ne_zero v1 w1;generalize hA:val a1*val b2=A at *
   generalize hB:val a2*val b1=B at *
   generalize hD:val b1*val b2=D at *
   have fin:∀ (F:PF) (H:PH) (r:FR),(∃ d x y e,frV r=.tup [.agg (eM d x y),.int .i64 e]∧F 4=some (.ptr o 3 0 0)∧F 5=some (.int .i64 e)∧H o=some (.rows 3 [eM d x y]))→aU tt.res (bX (frV r)) .ret F H:=by rintro F H r ⟨d,x,y,e,he,f4,f5,hH⟩;rw[he];exact aX (.inr rfl) .nil (vs:=[.agg (eM d x y),.int .i64 e]) (by simp only[go_sem,tt,f4,f5,hH]) a_ ⟨.refl _,rfl⟩
   have V:(i==p)=decide (i=p):=by cases i<;>cases p<;>rfl
   have low:∀ neg x,nl x≤257→aH C 120 [.bool neg,aK (aJ x),aK (aJ D)] .nil (aI (frV (jB neg x D))):=by
    intro neg x hx;have W:(aJ x).length≤35184372087808:=by rw[bB]; omega
    have Z:(aJ D).length≤35184372087808:=by rw[bB]; omega
    have:=L.lowest neg (aJ x) (aJ D) (aV _) (aV _) W Z;rw[aT,aT,uo] at this;exact this Om Om d0
   have lA:(aJ A).length≤35184372087808:=by rw[bB]; omega
   have lB:(aJ B).length≤35184372087808:=by rw[bB]; omega
   simp only[go_sem,Yl];by_cases c:i=p
   ·rw[if_pos c];have S:(i==p)=true:=by rw[V,decide_eq_true c]
    simp only[go_sem,S,Ym];have u:=L.add (aJ A) (aJ B) (aV _) (aV _) lA lB;have α:=Qe m1 m2;rw[aT,aT,iV Om Om,opV,BG Om] at u;refine aA u rfl ?_;simp only[go_sem,Yn];refine aA (low i _ Om) rfl ?_;obtain⟨d,x,y,e,l⟩:=uZ (jB i (A+B) D);rw[l];simp only[go_sem];rw[← l];exact fin _ _ _ ⟨d,x,y,e,l,by simp only[go_sem],by simp only[go_sem],by simp only[go_sem]⟩
   ·rw[if_neg c];have S:(i==p)=false:=by rw[V,decide_eq_false c]
    simp only[go_sem,S,Yo];have hc:=L.cmp (aJ A) (aJ B) (aV _) (aV _) lA lB;rw[aT,aT] at hc;refine aA hc rfl ?_;have w:∀ X Y:Nat,nl X≤256→nl Y≤256→Y≤X→aH C 134 [aK (aJ X),aK (aJ Y)] .nil (aI (.tup [aK (aJ (X-Y)),.int .i64 0])):=by intro X Y W Z h;have:=L.sub (aJ X) (aJ Y) (aV _) (aV _) (by rw[bB]; omega) (by rw[bB]; omega);have h3:=fX (Om:X-Y≤X);rw[aT,aT,sM,iV Om Om,if_neg (by decide),if_neg Om,BG Om] at this;exact this
    by_cases g:B≤A
    ·have U:dQ A B≥0:=(WA A B).2 g;rw[if_pos g];simp only[go_sem,U,Yp];refine aA (w A B Om Om g) rfl ?_;simp only[go_sem,Yq];have h3:=fX (Om:A-B≤A);refine aA (low i (A-B) Om) rfl ?_;obtain⟨d,x,y,e,l⟩:=uZ (jB i (A-B) D);rw[l];simp only[go_sem];rw[← l];exact fin _ _ _ ⟨d,x,y,e,l,by simp only[go_sem],by simp only[go_sem],by simp only[go_sem]⟩
    ·have U:¬ dQ A B≥0:=fun h=>g ((WA A B).1 h);rw[if_neg g];simp only[go_sem,U,Km];refine aA (w B A Om Om Om) rfl ?_;simp only[go_sem,Ko];have h3:=fX (Om:B-A≤B);refine aA (low p (B-A) Om) rfl ?_;obtain⟨d,x,y,e,l⟩:=uZ (jB p (B-A) D);rw[l];simp only[go_sem];rw[← l];exact fin _ _ _ ⟨d,x,y,e,l,by simp only[go_sem],by simp only[go_sem],by simp only[go_sem]⟩
structure RF where
 neg:Bool
 num:List Nat
 den:List Nat
abbrev RF.cells (x:RF):List PV:=eM x.neg x.num x.den
def RF.Ok (x:RF):Prop:=Lim x.num∧Lim x.den∧x.num.length≤35184372087808∧x.den.length≤35184372087808
def RF.v (x:RF):FV:=(x.neg,val x.num,val x.den)
abbrev frs (l:List RF):PV:=.sl 3 (l.map RF.cells)
def FV.rf:FV→RF
 | (n,a,b)=>⟨n,aJ a,aJ b⟩
def FV.Small:FV→Prop
 | (_,a,b)=>nl a≤900000∧nl b≤900000
theorem FV.aKW (x:FV):x.rf.v=x:=by
 obtain⟨n,a,b⟩:=x;show (n,val (aJ a),val (aJ b))=_;rw[aT,aT]
def nY (l:List FV):FR:=l.foldlM gY (false,0,1)
theorem tV {neg:Bool} {a b:Nat} {r:FV} (h:jB neg a b=.ok r):r.Small∧r.rf.Ok:=by
 unfold jB at h;split at h
 ·cases h
 ·rename_i e;have c:=(mK (a/aUP a b) 128).1 Om;have d:=(mK (b/aUP a b) 128).1 Om;injection h with h
  subst h;refine⟨⟨by omega,by omega⟩,aV _,aV _,?_,?_⟩
  ·show (aJ _).length≤_;rw[bB]; omega
  ·show (aJ _).length≤_;rw[bB]; omega
theorem ta {x y r:FV} (h:gY x y=.ok r):r.rf.Ok:=by
 obtain⟨c,a1,b1⟩:=x;obtain⟨d,a2,b2⟩:=y;simp only[gY] at h;split at h
 ·split at h
  ·exact (tV h).2
  ·split at h
   ·exact (tV h).2
   ·exact (tV h).2
 ·cases h
theorem XN {α β:Type} {f:β→α→Except Int β} (l:List α) (b:β) {k:Nat} (h:k<l.length):(l.take (k+1)).foldlM f b=((l.take k).foldlM f b).bind fun x=>f x l[k]:=by
 rw[aWN h,List.foldlM_append];cases (l.take k).foldlM f b with
 | error e=>rfl
 | ok x =>show ([l[k]]:List α).foldlM f x=f x l[k];rw[List.foldlM_cons];cases f x l[k]<;>rfl
theorem jw {α β:Type} {f:β→α→Except Int β} (l:List α) (b:β) {k:Nat} {e:Int} (h:(l.take k).foldlM f b=.error e):l.foldlM f b=.error e:=by
 conv=>lhs; rw[← aXG k l,List.foldlM_append,h]
 rfl
def aAW (l:List RF) (o2 o4:Nat) (k:Nat):PF:=((((((PF.nil.set 2 (.ptr o2 3 0 0)).set 3 (.int .i64 0)).set 4 (.ptr o4 3 0 0)).set 11 (frs l)).set 12 (.int .i64 (l.length:Nat))).set 13 (.int .i64 k))
def el (o2 o4:Nat) (c:List PV):PH:=(PH.nil.set o2 (.rows 3 [[.bool false,.aB,.aB]])).set o4 (.rows 3 [c])
theorem aFG {C:Ctx} (L:IE C) (Q:∀ x y:RF,x.Ok→y.Ok→aH C 113 [.agg x.cells,.agg y.cells] .nil (aI (frV (gY x.v y.v)))) (l:List RF) (hl:∀ x∈l,x.Ok) (Y:l.length≤9223372036854775807) :
  SA.wp C (aU K4.res (bX (frV (nY (l.map RF.v))))) (PF.args [frs l]) .nil:=by
 simp only[go_sem,SA,Yw];refine aO fun o2 β=>?_;simp only[go_sem,Yx];refine aA (L.make 1 (by decide)) rfl ?_;simp only[go_sem];refine aO fun o4 R=>?_;have i:o4≠o2:=by rintro rfl; simp only[aN,if_true] at R; cases R
 have c:o2≠o4:=Ne.symm i;simp only[go_sem,Yy];refine wp_loop (α:=Nat × FV × PV) (fun t=>aAW l o2 o4 t.1) (fun t=>el o2 o4 [.bool t.2.1.1,t.2.2,aK (aJ t.2.1.2.2)]) (fun t=>t.1≤l.length∧((l.map RF.v).take t.1).foldlM gY (false,0,1)=.ok t.2.1∧(t.2.2=.aB∧t.2.1.2.1=0∨t.2.2=aK (aJ t.2.1.2.1))∧(FV.rf t.2.1).Ok) (fun t=>l.length-t.1)
  (0,(false,0,1),.aB) ⟨aUT _,rfl,.inl ⟨rfl,rfl⟩,⟨aV _,aV _,?_,?_⟩⟩ ?_ ?_ ?_
 ·show (aJ 0).length≤_;rw[fR]; simp
 ·show (aJ 1).length≤_;rw[oW (by decide) (by decide)]; simp
 ·unfold aAW
  (repeat' (first|exact d_|refine c_ ?_ ?_))<;>first|(simp only[go_sem,aUN]<;>rfl)|rfl
 ·unfold el;exact e_ (e_ a_ (by simp only[go_sem,c,i])) (by simp only[go_sem,c,i])
 rintro⟨k,⟨O,S,N⟩,X⟩ ⟨hk,V,M,H⟩;simp only at hk V M H ⊢;have J:CoL [.bool O,X,aK (aJ N)] (FV.rf (O,S,N)).cells:=by
  refine .cons (.refl _) (.cons ?_ (.cons (.refl _) .nil));rcases M with ⟨rfl,rfl⟩ | rfl
  ·show Co .aB (aK (aJ 0));rw[fR]; exact .nil 1
  ·exact .refl _
 simp only[go_sem,K5,Yz,aAW];by_cases hlt:k<l.length
 ·have w:(k:Int)<(l.length:Nat):=Om;have hr:(l.map RF.cells)[k]?=some (l[k]).cells:=by simp[hlt]
  simp only[go_sem,w,Y0,hr];refine aO fun o6 E=>?_;have A:o4≠o6:=by rintro rfl; simp only[el,aN,if_true] at E; cases E
  have u:o2≠o6:=by rintro rfl; simp only[el,aN,if_true,if_neg c] at E; cases E
  simp only[go_sem,Y1,el,A,u,i,c];refine aA ((Q (FV.rf (O,S,N)) l[k] H (hl _ (aUQ hlt))).args (.cons (CoL.agg J) (.cons (.refl _) .nil))) rfl ?_;rw[FV.aKW];have d:=XN (f:=gY) (l.map RF.v) (false,0,1) (k:=k) (by simpa using hlt);rw[V] at d;simp only[Except.bind,aWD] at d;cases U:gY (O,S,N) (l[k]).v with
  | error e =>
   simp only[go_sem,frV];refine aO fun o7 p=>?_;have W:e≠0:=by
    revert U;obtain⟨n2,a2,b2⟩:=(l[k]).v;simp only[gY,jB]
    repeat' split
    all_goals (intro h; first | (injection h with h; subst h; decide) | cases h)
   have B:o2≠o7:=by rintro rfl; simp only[aN,u,c,if_true,if_false] at p; cases p
   simp only[go_sem,t6,dO W,Y2,B,u,c];rw[U] at d;rw[nY,jw _ _ d];refine iW ?_;simp only[go_sem,K4]
  | ok r =>
   obtain⟨rn,Z,rb⟩:=r;simp only[go_sem,frV];refine aO fun o7 p=>?_;have F:o4≠o7:=by rintro rfl; simp only[aN,A,if_true,if_false] at p; cases p
   have B:o2≠o7:=by rintro rfl; simp only[aN,u,c,if_true,if_false] at p; cases p
   simp only[go_sem,t6,Y3,F,B,A,u,i,c,Ne.symm F,Y4,wZz k];rw[U] at d;refine aG (k+1,(rn,Z,rb),aK (aJ Z)) ⟨hlt,d,.inr rfl,ta U⟩ (by simp only; omega) ?_ ?_
   ·exact Lq
   ·refine e_ (e_ a_ ?_) ?_
    ·simp only[go_sem,c,i,F,B,A,u]
    ·simp only[go_sem,c,i,F,B,A,u]
 ·have w:¬ (k:Int)<(l.length:Nat):=Om;have:k=l.length:=Om;subst this;rw[aVI (by simp)] at V;rw[nY,V];have K:bX (frV (.ok (O,S,N))) (bQ [.agg [.bool O,X,aK (aJ N)],.int .i64 0]) .nil:=⟨CoL.tup (.cons (CoL.agg J) (.cons (.refl _) .nil)),rfl⟩;rcases M with ⟨rfl,rfl⟩ | rfl
  ·simp only[go_sem,w,aw,el,i,c];refine aX (.inr rfl) .nil ?_ a_ K;simp only[go_sem,K4,i,c]
  ·simp only[go_sem,w,aw,el,i,c];refine aX (.inr rfl) .nil ?_ a_ K;simp only[go_sem,K4,i,c]
def qQ:Rg:=[iT 2 false]
def qR:Rg:=[iM 3 0,iA 4 (.bin .geq (Tm 3) (.const (.int .u8 97))),iM 5 4,gM 6 0 5 true,iG 7 (.bin .leq (Tm 6) (.const (.int .u8 122))) 5 true,iP 8 5 7,iM 9 8,gM 10 0 9 false,iG 11 (.bin .geq (Tm 10) (.const (.int .u8 65))) 9 false,gM 12 11 9 false,gM 13 0 12 true,iG 14 (.bin .leq (Tm 13) (.const (.int .u8 90))) 12 true,iG 15 (.pick (Tm 12) (Tm 14) (.const zB)) 9 false,iQ 16 9 15,iM 2 16]
def lY:aC:=(sq qQ (sq qR .ret))
def ajV:List Nat:=[]
def WM:aZ:=⟨1,17,lY,[.tmp 2]⟩
def CJ:Rg:=[iT 2 false]
def CK:Rg:=[iM 3 0,iA 4 (.bin .geq (Tm 3) (.const (.int .u8 48))),iM 5 4,gM 6 0 5 true,iG 7 (.bin .leq (Tm 6) (.const (.int .u8 57))) 5 true,iP 8 5 7,iM 2 8]
def rN:aC:=(sq CJ (sq CK .ret))
def apN:List Nat:=[]
def kg:aZ:=⟨1,9,rN,[.tmp 2]⟩
def zy:Rg:=[iT 2 false]
def zz:Rg:=[iM 3 0,iK 4 126 3,iM 5 4,gM 6 0 5 false,gK 7 124 6 5 false,iQ 8 5 7,iM 9 8,gM 10 0 9 false,iG 11 (.bin .eql (Tm 10) (.const (.int .u8 45))) 9 false,iQ 12 9 11,iM 13 12,gM 14 0 13 false,iG 15 (.bin .eql (Tm 14) (.const (.int .u8 46))) 13 false,iQ 16 13 15,iM 2 16]
def EI:aC:=(sq zy (sq zz .ret))
def apR:List Nat:=[]
def kh:aZ:=⟨1,17,EI,[.tmp 2]⟩
def KM:Rg:=[iT 2 false]
def KN:Rg:=[iM 4 0,iA 5 (.bin .eql (Tm 4) (.const (.str []))),iM 6 5,gM 7 0 6 false,iG 8 (.aUC (Tm 7)) 6 false,gC 9 .gtr 8 16 6 false,iQ 10 6 9,iM 11 10,gM 12 0 11 false,iG 13 (.aUD (Tm 12) (Ci 0)) 11 false,gK 14 126 13 11 false,iG 15 (.un .not (Tm 14)) 11 false,iQ 16 11 15]
def KO:Rg:=[iT 2 false]
def Nx:Rg:=[iI 3 0]
def Ny:Rg:=[iM 17 3,iM 18 0,iA 19 (.aUC (Tm 18)),iB 20 .lss 17 19]
def Nz:Rg:=[iM 23 0,iM 24 3,iA 25 (.aUD (Tm 23) (Tm 24)),iK 26 125 25,iA 27 (.un .not (Tm 26))]
def N0:Rg:=[iT 2 false]
def N1:Rg:=[iM 21 3,iC 22 .add 21 1,iM 3 22]
def Nw:aC:=(.seq (sq Ny (.cond (Tm 20) .skip (.exit 0))) (.seq (.block 1 (sq Nz (.cond (Tm 27) (sq N0 .ret) .skip))) (.region N1)))
def N2:Rg:=[iT 2 true]
def tU:aC:=(sq KM (.seq (sq KN (.cond (Tm 16) (sq KO .ret) .skip)) (.seq (sq Nx (.block 0 (.loop Nw))) (sq N2 .ret))))
def ayJ:List Nat:=[]
def Ha:aZ:=⟨1,28,tU,[.tmp 2]⟩
def j6:Rg:=[iT 6 false]
def j7:Rg:=[iM 7 0,iM 8 1,iB 9 .geq 7 8,iM 10 9,gM 11 0 10 true,gM 12 2 10 true,gB 13 .leq 11 12 10 true,iP 14 10 13,iM 6 14]
def AP:aC:=(sq j6 (sq j7 .ret))
def aKG:List Nat:=[]
def gin:aZ:=⟨3,15,AP,[.tmp 6]⟩
def ze:Rg:=[iA 1 (.box true (Tm 0)),iT 2 false]
def zf:Rg:=[iF 3 1 1,iL 4 3,iK 5 128 4,iC 6 .gtr 5 0,iM 2 6]
def EF:aC:=(sq ze (sq zf .ret))
def apD:List Nat:=[1]
def La:aZ:=⟨1,7,EF,[.tmp 2]⟩
def Zj:Rg:=[iA 1 (.box true (Tm 0)),iT 2 false]
def Zk:Rg:=[iO 6 3 1,iK 7 116 6,iM 5 7,iE 8 5 0,iE 9 5 1,iA 3 (.alloc [zB,.aB,.aB]),iS 3 3 8,iM 4 9]
def WH:Rg:=[iM 10 4,iC 11 .eql 10 0,iM 12 11,gF 13 0 3 12 true,gL 14 13 12 true,iG 15 (.un .not (Tm 14)) 12 true,iP 16 12 15,iM 17 16,gF 18 1 3 17 true,gL 19 18 17 true,gK 20 128 19 17 true,gC 21 .leq 20 32 17 true,iP 22 17 21,iM 23 22,gF 24 2 3 23 true,gL 25 24 23 true,gK 26 128 25 23 true,gC 27 .leq 26 32 23 true,iP 28 23 27,iM 2 28]
def SE:aC:=(sq Zj (sq Zk (sq WH .ret)))
def aFN:List Nat:=[1]
def axL:aZ:=⟨1,29,SE,[.tmp 2]⟩
def Zo:Rg:=[iA 1 (.box true (Tm 0)),iT 2 false]
def Zp:Rg:=[iA 8 (.call 115 [(Ci 1),(Ci 1)]),iM 7 8,iE 9 7 0,iE 10 7 1,iA 3 (.alloc [zB,.aB,.aB]),iS 3 3 9,iM 4 10]
def Zq:Rg:=[iO 12 3 1,iO 13 3 3,iK2 14 114 12 13,iM 11 14,iE 15 11 0,iE 16 11 1,iM 5 15,iM 6 16]
def uc:Rg:=[iM 17 6,iC 18 .eql 17 0,iM 19 18,gM 20 5 19 true,gC 21 .leq 20 0 19 true,iP 22 19 21,iM 2 22]
def SG:aC:=(sq Zo (sq Zp (sq Zq (sq uc .ret))))
def aFR:List Nat:=[1]
def gone:aZ:=⟨1,23,SG,[.tmp 2]⟩
def Lm:Rg:=[iT 4 false]
def Ln:Rg:=[iM 7 0,iN 8 7,iI 9 0]
def Lo:Rg:=[iB 10 .lss 9 8]
def Lp:Rg:=[iX 11 3 7 9,iO 12 3 11,iA 6 (.alloc [zB,.aB,.aB]),iS 3 6 12]
def Lr:Rg:=[iM 13 1,iO 14 3 6,iA 15 (.aUE (Tm 13) [(Tm 14)]),iA 16 (.un .not (Tm 15))]
def Ls:Rg:=[iT 4 false]
def Lt:Rg:=[iC 17 .add 9 1,iM 9 17]
def Ll:aC:=(sq Lo (.seq (.cond (Tm 10) .skip (.exit 0)) (.seq (.block 1 (sq Lp (sq Lr (.cond (Tm 16) (sq Ls .ret) .skip)))) (.region Lt))))
def Lu:Rg:=[iT 4 true]
def JQ:aC:=(sq Lm (.seq (sq Ln (.block 0 (.loop Ll))) (sq Lu .ret)))
def axE:List Nat:=[]
def aiU:aZ:=⟨2,18,JQ,[.tmp 4]⟩
def Lx:Rg:=[iT 4 false]
def Ly:Rg:=[iM 7 0,iN 8 7,iI 9 0]
def Lz:Rg:=[iB 10 .lss 9 8]
def L0:Rg:=[iX 11 1 7 9,iL 12 11,iM 6 12]
def L3:Rg:=[iM 13 1,iM 14 6,iA 15 (.aUE (Tm 13) [(Tm 14)]),iA 16 (.un .not (Tm 15))]
def L4:Rg:=[iT 4 false]
def L5:Rg:=[iC 17 .add 9 1,iM 9 17]
def Lw:aC:=(sq Lz (.seq (.cond (Tm 10) .skip (.exit 0)) (.seq (.block 1 (sq L0 (sq L3 (.cond (Tm 16) (sq L4 .ret) .skip)))) (.region L5))))
def L6:Rg:=[iT 4 true]
def JR:aC:=(sq Lx (.seq (sq Ly (.block 0 (.loop Lw))) (sq L6 .ret)))
def axG:List Nat:=[]
def aiV:aZ:=⟨2,18,JR,[.tmp 4]⟩
def Ld:Rg:=[iT 4 false]
def Le:Rg:=[iM 7 0,iN 8 7,iI 9 0]
def Lf:Rg:=[iB 10 .lss 9 8]
def Lg:Rg:=[iX 11 1 7 9,iL 12 11,iM 6 12]
def Lh:Rg:=[iM 13 1,iM 14 6,iA 15 (.aUE (Tm 13) [(Tm 14)]),iA 16 (.un .not (Tm 15))]
def Li:Rg:=[iT 4 false]
def Lj:Rg:=[iC 17 .add 9 1,iM 9 17]
def Lc:aC:=(sq Lf (.seq (.cond (Tm 10) .skip (.exit 0)) (.seq (.block 1 (sq Lg (sq Lh (.cond (Tm 16) (sq Li .ret) .skip)))) (.region Lj))))
def Lk:Rg:=[iT 4 true]
def JP:aC:=(sq Ld (.seq (sq Le (.block 0 (.loop Lc))) (sq Lk .ret)))
def axC:List Nat:=[]
def aiT:aZ:=⟨2,18,JP,[.tmp 4]⟩
def zg:Rg:=[iT 2 false]
def zh:Rg:=[iM 3 0,iM 2 3]
def EG:aC:=(sq zg (sq zh .ret))
def apF:List Nat:=[]
def Ma:aZ:=⟨1,4,EG,[.tmp 2]⟩
def Mb:Rg:=[iA 1 (.box true (Tm 0)),iT 2 false]
def Mc:Rg:=[iF 8 3 1,iL 9 8,iN 10 9,iA 11 (.aTK 1 1 [zB] (Tm 10) (Tm 10)),iM 3 11]
def Md:Rg:=[iI 4 0]
def Me:Rg:=[iM 12 4,iM 13 3,iN 14 13,iB 15 .leq 12 14]
def Mf:Rg:=[iM 18 3,iN 19 18,iI 20 0]
def ay:Rg:=[iB 21 .lss 20 19]
def Mg:Rg:=[iM 22 20,iM 5 22]
def ba:Rg:=[iM 23 3,iM 24 5,iM 25 3,iM 26 5,iX 27 1 25 26,iL 28 27,iM 29 28,gF 30 3 1 29 false,gL 31 30 29 false,gM 32 5 29 false,iG 33 (.aTT 3 (Tm 31) (Tm 32)) 29 false,gO 34 3 33 29 false,gK 35 97 34 29 false,iQ 36 29 35,iX 37 1 23 24,iS 1 37 36]
def bb:Rg:=[iF 38 2 1,iL 39 38,iM 40 5,iX 41 1 39 40,iL 42 41,iN 43 42,iI 44 0]
def Mh:Rg:=[iB 45 .lss 44 43]
def zj:Rg:=[iM 46 44,iX 47 3 42 44,iO 48 3 47,iA 7 (.alloc [zB,.aB,.aB]),iM 6 46,iS 3 7 48]
def SB:Rg:=[iM 49 3,iM 50 5,iM 51 3,iM 52 5,iX 53 1 51 52,iL 54 53,iM 55 54,gO 56 3 7 55 false,gK 57 97 56 55 false,gM 58 57 55 false,gM 59 3 58 true,gM 60 6 58 true,iG 61 (.aTT 1 (Tm 59) (Tm 60)) 58 true,gL 62 61 58 true,iG 63 (.pick (Tm 58) (Tm 62) (.const zB)) 55 false,iQ 64 55 63,iX 65 1 49 50,iS 1 65 64]
def CH:Rg:=[iC 66 .add 44 1,iM 44 66]
def CF:aC:=(sq Mh (.seq (.cond (Tm 45) .skip (.exit 4)) (.seq (.block 5 (sq zj (.region SB))) (.region CH))))
def SC:Rg:=[iC 67 .add 20 1,iM 20 67]
def CG:aC:=(sq ay (.seq (.cond (Tm 21) .skip (.exit 2)) (.seq (.block 3 (sq Mg (sq ba (sq bb (.block 4 (.loop CF)))))) (.region SC))))
def zk:Rg:=[iM 16 4,iC 17 .add 16 1,iM 4 17]
def zi:aC:=(.seq (sq Me (.cond (Tm 15) .skip (.exit 0))) (.seq (.block 1 (sq Mf (.block 2 (.loop CG)))) (.region zk)))
def zl:Rg:=[iM 68 3,iA 69 (.call 98 [(Tm 68),(.const (.fn 103 []))]),iM 2 69]
def JS:aC:=(sq Mb (sq Mc (.seq (sq Md (.block 0 (.loop zi))) (sq zl .ret))))
def axJ:List Nat:=[1]
def aiZ:aZ:=⟨1,70,JS,[.tmp 2]⟩
def Zb:Rg:=[iA 1 (.box true (Tm 0)),iT 2 false]
def Zc:Rg:=[iF 12 1 1,iL 13 12,iN 14 13,iM 3 14]
def Zd:Rg:=[iM 15 3,iA 16 (.call 104 [(Tm 15),(Ci 1),(Ci 4)]),iA 17 (.un .not (Tm 16)),iM 18 17,gF 19 3 1 18 false,gL 20 19 18 false,gN 21 20 18 false,gM 22 3 18 false,gB 23 .neq 21 22 18 false,iQ 24 18 23,iM 25 24,gF 26 2 1 25 false,gL 27 26 25 false,gN 28 27 25 false,gM 29 3 25 false,gB 30 .neq 28 29 25 false,iQ 31 25 30,iM 32 31,gF 33 1 1 32 false,gL 34 33 32 false,iG 35 (.call 99 [(Tm 34),(.const (.fn 105 []))]) 32 false,iG 36 (.un .not (Tm 35)) 32 false,iQ 37 32 36,iM 38 37,gF 39 3 1 38 false,gL 40 39 38 false,iG 41 (.call 99 [(Tm 40),(.const (.fn 105 []))]) 38 false,iG 42 (.un .not (Tm 41)) 38 false,iQ 43 38 42]
def zM:Rg:=[iT 2 false]
def Ze:Rg:=[iF 44 2 1,iL 45 44,iN 46 45,iI 47 0]
def Zf:Rg:=[iB 48 .lss 47 46]
def Zg:Rg:=[iM 49 47,iX 50 1 45 47,iL 51 50,iM 4 49,iM 5 51]
def Zh:Rg:=[iM 52 5,iN 53 52,iM 54 3,iB 55 .neq 53 54,iM 56 55,gM 57 5 56 false,iG 58 (.call 99 [(Tm 57),(.const (.fn 105 []))]) 56 false,iG 59 (.un .not (Tm 58)) 56 false,iQ 60 56 59,iM 61 60,gM 62 5 61 false,gM 63 4 61 false,iG 64 (.aTT 3 (Tm 62) (Tm 63)) 61 false,gO 65 3 64 61 false,gK 66 97 65 61 false,iQ 67 61 66]
def WG:Rg:=[iT 2 false]
def Zi:Rg:=[iC 68 .add 47 1,iM 47 68]
def Mi:aC:=(sq Zf (.seq (.cond (Tm 48) .skip (.exit 0)) (.seq (.block 1 (sq Zg (sq Zh (.cond (Tm 67) (sq WG .ret) .skip)))) (.region Zi))))
def bc:Rg:=[iF 70 1 1,iL 71 70,iK 72 117 71,iM 69 72,iE 73 69 0,iE 74 69 1,iA 6 (.alloc [zB,.aB,.aB]),iS 3 6 73,iM 7 74]
def JT:Rg:=[iA 76 (.call 115 [(Ci 1),(Ci 1)]),iM 75 76,iE 77 75 0,iE 78 75 1,iA 8 (.alloc [zB,.aB,.aB]),iS 3 8 77,iM 9 78]
def JU:Rg:=[iO 80 3 6,iO 81 3 8,iK2 82 114 80 81,iM 79 82,iE 83 79 0,iE 84 79 1,iM 10 83,iM 11 84]
def vG:Rg:=[iM 85 7,iC 86 .eql 85 0,iM 87 86,gM 88 10 87 true,gC 89 .eql 88 0 87 true,iP 90 87 89,iM 91 90,gO 92 4 1 91 true,gK 93 102 92 91 true,iP 94 91 93,iM 2 94]
def SD:aC:=(sq Zb (sq Zc (.seq (sq Zd (.cond (Tm 43) (sq zM .ret) .skip)) (.seq (sq Ze (.block 0 (.loop Mi))) (sq bc (sq JT (sq JU (sq vG .ret))))))))
def aFL:List Nat:=[1]
def axK:aZ:=⟨1,95,SD,[.tmp 2]⟩
def Mw:Rg:=[iT 2 false]
def Mx:Rg:=[iA 6 (.aUI (false,[.str])),iM 3 6]
def My:Rg:=[iM 7 0,iN 8 7,iI 9 0]
def Mz:Rg:=[iB 10 .lss 9 8]
def M0:Rg:=[iX 11 1 7 9,iL 12 11,iM 5 12]
def M1:Rg:=[iM 13 5,iK 14 123 13,iA 15 (.un .not (Tm 14)),iM 16 15,gM 17 3 16 false,gM 18 5 16 false,iG 19 (.lookup (false,[.str]) zB (Tm 17) (Tm 18) false) 16 false,iQ 20 16 19]
def bf:Rg:=[iT 2 false]
def M2:Rg:=[iM 21 3,iM 22 5,⟨none,.aTU (false,[.str]) (Tm 21) (Tm 22) (.const (.bool true)),none⟩]
def M3:Rg:=[iC 23 .add 9 1,iM 9 23]
def Mv:aC:=(sq Mz (.seq (.cond (Tm 10) .skip (.exit 0)) (.seq (.block 1 (sq M0 (.seq (sq M1 (.cond (Tm 20) (sq bf .ret) .skip)) (.region M2)))) (.region M3))))
def zo:Rg:=[iT 2 true]
def JY:aC:=(sq Mw (sq Mx (.seq (sq My (.block 0 (.loop Mv))) (sq zo .ret))))
def axU:List Nat:=[]
def ajE:aZ:=⟨1,24,JY,[.tmp 2]⟩
def t7:Rg:=[iA 1 (.box true (Tm 0)),iT 2 false]
def t8:Rg:=[iF 6 3 1,iL 7 6,iN 8 7,iC 9 .eql 8 0]
def Y5:Rg:=[iT 2 false]
def Y6:Rg:=[iF 10 3 1,iL 11 10,iA 12 (.aTT 7 (Tm 11) (Ci 0)),iO 13 7 12,iA 3 (.alloc [(.str []),zI,zI,zI,zB,.aB,.aB]),iS 7 3 13]
def zL:Rg:=[iF 14 0 3,iL 15 14,iA 16 (.bin .neq (Tm 15) (.const (.str []))),iM 17 16,gF 18 1 3 17 false,gL 19 18 17 false,gC 20 .neq 19 0 17 false,iQ 21 17 20,iM 22 21,gF 23 2 3 22 false,gL 24 23 22 false,gC 25 .neq 24 (-1) 22 false,iQ 26 22 25,iM 27 26,gF 28 3 3 27 false,gL 29 28 27 false,gC 30 .neq 29 0 27 false,iQ 31 27 30,iM 32 31,gF 33 4 3 32 false,gO 34 3 33 32 false,gK 35 105 34 32 false,iG 36 (.un .not (Tm 35)) 32 false,iQ 37 32 36,iM 38 37,gF 39 4 3 38 false,gO 40 3 39 38 false,gK 41 97 40 38 false,iQ 42 38 41]
def vF:Rg:=[iT 2 false]
def Y7:Rg:=[iF 43 3 1,iL 44 43,iA 45 (.slice 7 (Tm 44) (some (Ci 1)) none none),iN 46 45,iI 47 0]
def Y8:Rg:=[iB 48 .lss 47 46]
def Y9:Rg:=[iM 49 47,iX 50 7 45 47,iO 51 7 50,iA 5 (.alloc [(.str []),zI,zI,zI,zB,.aB,.aB]),iM 4 49,iS 7 5 51]
def Za:Rd:=[(iF 52 2 5,false),(iL 53 52,false),(iM 54 4,false),(iA 55 (.call 104 [(Tm 53),(Ci 0),(Tm 54)]),true),(iA 56 (.un .not (Tm 55)),false),(iM 57 56,false),(gF 58 3 1 57 false,false),(gL 59 58 57 false,false),(gF 60 2 5 57 false,false),(gL 61 60 57 false,false),(iG 62 (.aTT 7 (Tm 59) (Tm 61)) 57 false,false),(gF 63 1 62 57 false,false),(gL 64 63 57 false,false),(gF 65 1 5 57 false,false),(gL 66 65 57 false,false),(gC 67 .sub 66 1 57 false,false),(gB 68 .neq 64 67 57 false,false),(iQ 69 57 68,false),(iM 70 69,false),(gF 71 1 5 70 false,false),(gL 72 71 70 false,false),(iG 73 (.call 104 [(Tm 72),(Ci 1),(Ci 4)]) 70 false,true),(iG 74 (.un .not (Tm 73)) 70 false,false),(iQ 75 70 74,false),(iM 76 75,false),(gF 77 3 5 76 false,false),(gL 78 77 76 false,false),(iG 79 (.call 104 [(Tm 78),(Ci 1),(Ci 64)]) 76 false,true),(iG 80 (.un .not (Tm 79)) 76 false,false),(iQ 81 76 80,false),(iM 82 81,false),(gF 83 4 5 82 false,false),(gO 84 3 83 82 false,false),(gK 85 105 84 82 false,true),(iG 86 (.un .not (Tm 85)) 82 false,false),(iQ 87 82 86,false)]
def vE:Rg:=[iT 2 false]
def L8:Rg:=[iC 88 .add 47 1,iM 47 88]
def L7:aC:=(sq Y8 (.seq (.cond (Tm 48) .skip (.exit 0)) (.seq (.block 1 (sq Y9 (dq Za (.cond (Tm 87) (sq vE .ret) .skip)))) (.region L8))))
def L9:Rg:=[iT 2 true]
def CE:aC:=(sq t7 (.seq (sq t8 (.cond (Tm 9) (sq Y5 .ret) .skip)) (sq Y6 (.seq (sq zL (.cond (Tm 42) (sq vF .ret) .skip)) (.seq (sq Y7 (.block 0 (.loop L7))) (sq L9 .ret))))))
def aFJ:List Nat:=[1]
def aiX:aZ:=⟨1,89,CE,[.tmp 2]⟩
def Mj:Rg:=[iT 2 false]
def Mk:Rg:=[iM 3 0,iA 4 (.call 104 [(Tm 3),(Ci 0),(Ci 8)]),iM 2 4]
def JV:aC:=(sq Mj (sq Mk .ret))
def axO:List Nat:=[]
def ajA:aZ:=⟨1,5,JV,[.tmp 2]⟩
def Zl:Rg:=[iA 7 (.box true (Tm 3)),iT 8 false]
def Zm:Rg:=[iM 9 0,iA 10 (.call 104 [(Tm 9),(Ci 1),(Ci 6)]),iA 11 (.un .not (Tm 10)),iM 12 11,gM 13 1 12 false,iG 14 (.call 104 [(Tm 13),(Ci 0),(Ci 4)]) 12 false,iG 15 (.un .not (Tm 14)) 12 false,iQ 16 12 15,iM 17 16,gM 18 0 17 false,gM 19 1 17 false,gB 20 .add 18 19 17 false,gC 21 .gtr 20 8 17 false,iQ 22 17 21,iM 23 22,gM 24 2 23 false,gM 25 0 23 false,gM 26 0 23 false,gM 27 1 23 false,gB 28 .add 26 27 23 false,iG 29 (.call 104 [(Tm 24),(Tm 25),(Tm 28)]) 23 false,iG 30 (.un .not (Tm 29)) 23 false,iQ 31 23 30,iM 32 31,iG 33 (.idxA 5 1 (Tm 7) (Ci 0)) 32 false,gL 34 33 32 false,gC 35 .neq 34 0 32 false,iQ 36 32 35]
def zN:Rg:=[iT 8 false]
def Zn:Rg:=[iA 37 (.sliceA 5 1 (Tm 7) none none none),iA 38 (.call 100 [(Tm 37),(.const (.fn 107 []))]),iM 8 38]
def SF:aC:=(sq Zl (.seq (sq Zm (.cond (Tm 36) (sq zN .ret) .skip)) (sq Zn .ret)))
def aFP:List Nat:=[7]
def axM:aZ:=⟨4,39,SF,[.tmp 8]⟩
def zm:Rg:=[iA 1 (.box true (Tm 0)),iT 2 false]
def zn:Rg:=[iO 3 3 1,iK 4 105 3,iM 5 4,gO 6 3 1 5 true,gK 7 97 6 5 true,iP 8 5 7,iM 2 8]
def EH:aC:=(sq zm (sq zn .ret))
def apI:List Nat:=[1]
def Mo:aZ:=⟨1,9,EH,[.tmp 2]⟩
def Mp:Rg:=[iA 6 (.box true (Tm 2)),iA 7 (.box true (Tm 3)),iT 8 false]
def Mq:Rg:=[iM 9 1,iN 10 9,iM 11 0,iA 12 (.aTX true (Tm 11) (Ci 1)),iB 13 .eql 10 12,iM 14 13,gM 15 1 14 true,iG 16 (.call 99 [(Tm 15),(.const (.fn 109 []))]) 14 true,iP 17 14 16,iM 18 17,gO 19 3 6 18 true,gK 20 105 19 18 true,iP 21 18 20,iM 22 21,gO 23 3 6 22 true,gK 24 101 23 22 true,iP 25 22 24,iM 26 25,gO 27 3 7 26 true,gK 28 105 27 26 true,iP 29 26 28,iM 8 29]
def JW:aC:=(sq Mp (sq Mq .ret))
def axR:List Nat:=[6,7]
def ajB:aZ:=⟨4,30,JW,[.tmp 8]⟩
def Zr:Rg:=[iA 2 (.box true (Tm 0)),iT 4 false]
def Zs:Rg:=[iF 8 1 2,iL 9 8,iF 10 2 2,iL 11 10,iF 12 3 2,iL 13 12,iF 14 4 2,iO 15 5 14,iA 16 (.call 106 [(Tm 9),(Tm 11),(Tm 13),(Tm 15)]),iA 17 (.un .not (Tm 16)),iM 18 17,gF 19 9 2 18 false,gL 20 19 18 false,gN 21 20 18 false,gC 22 .eql 21 0 18 false,iQ 23 18 22,iM 24 23,gF 25 2 2 24 false,gL 26 25 24 false,gF 27 10 2 24 false,gL 28 27 24 false,gF 29 11 2 24 false,gO 30 3 29 24 false,gF 31 14 2 24 false,gO 32 3 31 24 false,iG 33 (.call 108 [(Tm 26),(Tm 28),(Tm 30),(Tm 32)]) 24 false,iG 34 (.un .not (Tm 33)) 24 false,iQ 35 24 34]
def WI:Rg:=[iT 4 false]
def Zt:Rg:=[iM 36 1,iA 37 (.aTK 1 1 [zB] (Tm 36) (Tm 36)),iM 5 37]
def Zu:Rg:=[iF 38 9 2,iL 39 38,iN 40 39,iI 41 0]
def Zv:Rg:=[iB 42 .lss 41 40]
def Zw:Rg:=[iX 43 1 39 41,iL 44 43,iM 7 44]
def Zx:Rg:=[iM 45 7,iM 46 1,iC 47 .sub 46 1,iA 48 (.call 104 [(Tm 45),(Ci 0),(Tm 47)]),iA 49 (.un .not (Tm 48)),iM 50 49,gM 51 5 50 false,gM 52 7 50 false,iG 53 (.aTT 1 (Tm 51) (Tm 52)) 50 false,gL 54 53 50 false,iQ 55 50 54]
def ud:Rg:=[iT 4 false]
def Zy:Rg:=[iM 56 5,iM 57 7,iX 58 1 56 57,⟨none,.store 1 (Tm 58) (.const (.bool true)),none⟩]
def Mm:Rg:=[iC 59 .add 41 1,iM 41 59]
def Ml:aC:=(sq Zv (.seq (.cond (Tm 42) .skip (.exit 0)) (.seq (.block 1 (sq Zw (.seq (sq Zx (.cond (Tm 55) (sq ud .ret) .skip)) (.region Zy)))) (.region Mm))))
def Mn:Rg:=[iT 4 true]
def SH:aC:=(sq Zr (.seq (sq Zs (.cond (Tm 35) (sq WI .ret) .skip)) (sq Zt (.seq (sq Zu (.block 0 (.loop Ml))) (sq Mn .ret)))))
def aFT:List Nat:=[2]
def axP:aZ:=⟨2,60,SH,[.tmp 4]⟩
def Zz:Rg:=[iA 1 (.box true (Tm 0)),iI 2 0]
def Z1:Rg:=[iF 21 0 1,iL 22 21,iA 23 (.call 104 [(Tm 22),(Ci 1),(Ci 4)]),iA 24 (.un .not (Tm 23)),iM 25 24,gF 26 1 1 25 false,gL 27 26 25 false,gN 28 27 25 false,gC 29 .gtr 28 4 25 false,iQ 30 25 29,iM 31 30,gF 32 2 1 31 false,gL 33 32 31 false,gN 34 33 31 false,gC 35 .gtr 34 4 31 false,iQ 36 31 35,iM 37 36,gF 38 3 1 37 false,gL 39 38 37 false,gN 40 39 37 false,gC 41 .gtr 40 40 37 false,iQ 42 37 41,iM 43 42,gF 44 4 1 43 false,gL 45 44 43 false,gN 46 45 43 false,gC 47 .gtr 46 24 43 false,iQ 48 43 47,iM 49 48,gF 50 5 1 49 false,gL 51 50 49 false,gN 52 51 49 false,gC 53 .gtr 52 4 49 false,iQ 54 49 53,iM 55 54,gF 56 6 1 55 false,gL 57 56 55 false,gN 58 57 55 false,gC 59 .gtr 58 12 55 false,iQ 60 55 59,iM 61 60,gO 62 7 1 61 false,gK 63 111 62 61 false,iG 64 (.un .not (Tm 63)) 61 false,iQ 65 61 64]
def qN:Rg:=[iI 2 1]
def Z2:Rg:=[iZ 3,iZ 4,iZ 5,iZ 6,iZ 7]
def Z3:Rg:=[iT 8 true]
def ue:Rg:=[iF 66 1 1,iL 67 66,iN 68 67,iI 69 0]
def Z4:Rg:=[iB 70 .lss 69 68]
def Z5:Rg:=[iX 71 4 67 69,iO 72 4 71,iA 10 (.alloc [(.str []),.aB,.aB,.aB]),iS 4 10 72]
def Z6:Rg:=[iM 73 3,iF 74 0 10,iL 75 74,iA 76 (.aTI true 1 1 [(.str [])] [(0,(Tm 75))]),iA 77 (.append 1 16 (Tm 73) (Tm 76)),iM 3 77]
def ug:Rg:=[iM 78 8,iM 79 78,gO 80 4 10 79 true,gK 81 95 80 79 true,iP 82 79 81,iM 8 82]
def bg:Rg:=[iC 83 .add 69 1,iM 69 83]
def JZ:aC:=(sq Z4 (.seq (.cond (Tm 70) .skip (.exit 0)) (.seq (.block 1 (sq Z5 (sq Z6 (.region ug)))) (.region bg))))
def bi:Rg:=[iF 84 2 1,iL 85 84,iN 86 85,iI 87 0]
def M4:Rg:=[iB 88 .lss 87 86]
def M5:Rg:=[iX 89 4 85 87,iO 90 4 89,iA 12 (.alloc [(.str []),zI,zI,zI]),iS 4 12 90]
def M6:Rg:=[iM 91 4,iF 92 0 12,iL 93 92,iA 94 (.aTI true 1 1 [(.str [])] [(0,(Tm 93))]),iA 95 (.append 1 16 (Tm 91) (Tm 94)),iM 4 95]
def bj:Rg:=[iM 96 8,iM 97 96,gF 98 1 12 97 true,gL 99 98 97 true,iG 100 (.call 104 [(Tm 99),(Ci 1),(Ci 16)]) 97 true,iP 101 97 100,iM 102 101,gF 103 2 12 102 true,gL 104 103 102 true,iG 105 (.call 104 [(Tm 104),(Ci 1),(Ci 64)]) 102 true,iP 106 102 105,iM 107 106,gF 108 3 12 107 true,gL 109 108 107 true,gF 110 1 1 107 true,gL 111 110 107 true,gN 112 111 107 true,gC 113 .sub 112 1 107 true,iG 114 (.call 104 [(Tm 109),(Ci 0),(Tm 113)]) 107 true,iP 115 107 114,iM 8 115]
def AS:Rg:=[iC 116 .add 87 1,iM 87 116]
def KB:aC:=(sq M4 (.seq (.cond (Tm 88) .skip (.exit 2)) (.seq (.block 3 (sq M5 (sq M6 (.region bj)))) (.region AS))))
def bk:Rg:=[iF 117 3 1,iL 118 117,iA 119 (.slice 7 (Tm 118) (some (Ci 1)) none none),iN 120 119,iI 121 0]
def M7:Rg:=[iB 122 .lss 121 120]
def M8:Rg:=[iX 123 7 119 121,iO 124 7 123,iA 14 (.alloc [(.str []),zI,zI,zI,zB,.aB,.aB]),iS 7 14 124]
def M9:Rg:=[iM 125 5,iF 126 0 14,iL 127 126,iA 128 (.aTI true 1 1 [(.str [])] [(0,(Tm 127))]),iA 129 (.append 1 16 (Tm 125) (Tm 128)),iM 5 129]
def Nb:Rg:=[iC 130 .add 121 1,iM 121 130]
def KC:aC:=(sq M7 (.seq (.cond (Tm 122) .skip (.exit 4)) (.seq (.block 5 (sq M8 (.region M9))) (.region Nb))))
def bn:Rg:=[iF 131 4 1,iL 132 131,iN 133 132,iI 134 0]
def Nc:Rg:=[iB 135 .lss 134 133]
def Nd:Rg:=[iX 136 3 132 134,iO 137 3 136,iA 16 (.alloc [(.str []),zI,zI]),iS 3 16 137]
def Nf:Rg:=[iM 138 5,iF 139 0 16,iL 140 139,iA 141 (.aTI true 1 1 [(.str [])] [(0,(Tm 140))]),iA 142 (.append 1 16 (Tm 138) (Tm 141)),iM 5 142]
def bo:Rg:=[iM 143 8,iM 144 143,gF 145 1 16 144 true,gL 146 145 144 true,gF 147 2 1 144 true,gL 148 147 144 true,gN 149 148 144 true,gC 150 .sub 149 1 144 true,iG 151 (.call 104 [(Tm 146),(Ci 0),(Tm 150)]) 144 true,iP 152 144 151,iM 153 152,gF 154 2 16 153 true,gL 155 154 153 true,gF 156 3 1 153 true,gL 157 156 153 true,gN 158 157 153 true,gC 159 .sub 158 1 153 true,iG 160 (.call 104 [(Tm 155),(Ci 0),(Tm 159)]) 153 true,iP 161 153 160,iM 162 161,gF 163 3 1 162 true,gL 164 163 162 true,gF 165 2 16 162 true,gL 166 165 162 true,iG 167 (.aTT 7 (Tm 164) (Tm 166)) 162 true,gF 168 1 167 162 true,gL 169 168 162 true,gC 170 .eql 169 4 162 true,iP 171 162 170,iM 8 171]
def vH:Rg:=[iC 172 .add 134 1,iM 134 172]
def KD:aC:=(sq Nc (.seq (.cond (Tm 135) .skip (.exit 6)) (.seq (.block 7 (sq Nd (sq Nf (.region bo)))) (.region vH))))
def br:Rg:=[iF 173 5 1,iL 174 173,iN 175 174,iI 176 0]
def Ng:Rg:=[iB 177 .lss 176 175]
def Nh:Rg:=[iX 178 17 174 176,iO 179 17 178,iA 18 (.alloc [(.str []),zI,zI,zI,zI,zI,zI,zI,zI,.aB,.aB,zB,.aB,.aB,zB,.aB,.aB]),iS 17 18 179]
def Ni:Rg:=[iM 180 6,iF 181 0 18,iL 182 181,iA 183 (.aTI true 1 1 [(.str [])] [(0,(Tm 182))]),iA 184 (.append 1 16 (Tm 180) (Tm 183)),iM 6 184]
def bs:Rg:=[iM 185 8,iM 186 185,gO 187 17 18 186 true,gF 188 2 1 186 true,gL 189 188 186 true,gN 190 189 186 true,gK2 191 112 187 190 186 true,iP 192 186 191,iM 8 192]
def bu:Rg:=[iC 193 .add 176 1,iM 176 193]
def KE:aC:=(sq Ng (.seq (.cond (Tm 177) .skip (.exit 8)) (.seq (.block 9 (sq Nh (sq Ni (.region bs)))) (.region bu))))
def bv:Rg:=[iF 194 6 1,iL 195 194,iN 196 195,iI 197 0]
def Nj:Rg:=[iB 198 .lss 197 196]
def Nk:Rg:=[iX 199 2 195 197,iO 200 2 199,iA 20 (.alloc [(.str []),zI]),iS 2 20 200]
def Nl:Rg:=[iM 201 7,iF 202 0 20,iL 203 202,iA 204 (.aTI true 1 1 [(.str [])] [(0,(Tm 203))]),iA 205 (.append 1 16 (Tm 201) (Tm 204)),iM 7 205]
def bw:Rg:=[iM 206 8,iM 207 206,gF 208 1 20 207 true,gL 209 208 207 true,gF 210 5 1 207 true,gL 211 210 207 true,gN 212 211 207 true,gC 213 .sub 212 1 207 true,iG 214 (.call 104 [(Tm 209),(Ci 0),(Tm 213)]) 207 true,iP 215 207 214,iM 8 215]
def bx:Rg:=[iC 216 .add 197 1,iM 197 216]
def KF:aC:=(sq Nj (.seq (.cond (Tm 198) .skip (.exit 10)) (.seq (.block 11 (sq Nk (sq Nl (.region bw)))) (.region bx))))
def AU:Rg:=[iM 217 8,iA 218 (.un .not (Tm 217)),iM 219 218,gM 220 3 219 false,gK 221 110 220 219 false,iG 222 (.un .not (Tm 221)) 219 false,iQ 223 219 222,iM 224 223,gM 225 4 224 false,gK 226 110 225 224 false,iG 227 (.un .not (Tm 226)) 224 false,iQ 228 224 227,iM 229 228,gM 230 5 229 false,gK 231 110 230 229 false,iG 232 (.un .not (Tm 231)) 229 false,iQ 233 229 232,iM 234 233,gM 235 6 234 false,gK 236 110 235 234 false,iG 237 (.un .not (Tm 236)) 234 false,iQ 238 234 237,iM 239 238,gM 240 7 239 false,gK 241 110 240 239 false,iG 242 (.un .not (Tm 241)) 239 false,iQ 243 239 242]
def oK:Rg:=[iI 2 1]
def KG:Rg:=[iI 2 0]
def SI:aC:=(sq Zz (.seq (sq Z1 (.cond (Tm 65) (sq qN .ret) .skip)) (sq Z2 (sq Z3 (.seq (sq ue (.block 0 (.loop JZ))) (.seq (sq bi (.block 2 (.loop KB))) (.seq (sq bk (.block 4 (.loop KC))) (.seq (sq bn (.block 6 (.loop KD))) (.seq (sq br (.block 8 (.loop KE))) (.seq (sq bv (.block 10 (.loop KF))) (.seq (sq AU (.cond (Tm 243) (sq oK .ret) .skip)) (sq KG .ret))))))))))))
def aFW:List Nat:=[1,76,94,128,141,183,204]
def axV:aZ:=⟨1,244,SI,[.tmp 2]⟩
@[go_sem] theorem aMX (a b:List UInt8):QO .eql a b=some (.bool (a==b)):=(rfl)
@[go_sem] theorem aMY (a b:List UInt8):QO .neq a b=some (.bool !(a==b)):=(rfl)
@[go_sem] theorem ahG (a b:List UInt8):QO .add a b=if ((a.length+b.length:Nat):Int)>9223372036854775807 then none else some (.str (a++b)):=(rfl)
@[go_sem] theorem aJK:(([]:List UInt8)==[])=true:=(rfl)
@[go_sem] theorem aEG (c:UInt8) (t:List UInt8):((c::t)==[])=false:=(rfl)
theorem qG {a b:List UInt8} (h:a=b):(a==b)=true:=by simp[h]
theorem gs {a b:List UInt8} (h:a≠b):(a==b)=false:=by simp[h]
section
variable {C:Ctx} {F:PF} {H:PH}
theorem rO {name o s:Nat} {rs:List (List PV)} {vs:List PV} {v:PV} {args:List aQ} {d:Option Nat} {K:PF→PH→Prop} (h:aH C name vs .nil (aI v)) (i:H o=some (.rows s rs))
  (e:aQ.evs (F.frz o s rs) args=some vs) (c:K ((F.frz o s rs).put d v) (H.frz o s rs)):iU C name args [] d K F H:=by
 refine .inr ⟨_,_,.step o i (.refl _ _),vs,.nil,aI v,?_,a_,h,?_⟩
 ·rw[e]; simp
 ·rintro r H' ⟨rfl,rfl⟩ -;rw[PH.BC];exact c
theorem jM.trans {c d e:PF} {i H2 l:PH} (h:jM c i d H2) (k:jM d H2 e l):jM c i e l:=by
 induction h with
 | refl=>exact k
 | step o p h u=>exact .step o p (u k)
theorem rC {c:aC} {K:bR} {s:Nat} {v:PV} {rows:List (List PV)} (M:bE H s v rows)
  (h:∀ e,Seen s e rows→∀ d l,(∀ t,F t=some v→d t=some e)→(∀ i u,F i=some u→Pure u→d i=some u)→aC.wp C (.loop c) K d l):aC.wp C (.loop c) K F H:=by
 obtain⟨e,N,J⟩:=M.frz;obtain⟨d,l,O,B,E⟩:=J F;obtain⟨α,x,Hs,y,m,A,w,H2,p,rest⟩:=h e N d l B E;exact⟨α,x,Hs,y,m,A,w,H2,O.trans p,rest⟩
theorem aH.alM {name s:Nat} {v:PV} {rows:List (List PV)} {d:PH} {R:PV→PH→Prop} (h:aH C name [.sl s rows] d R) (i:Seen s v rows):aH C name [v] d R:=by
 rcases i with ⟨rfl,rfl⟩ | rfl
 ·refine h.args ⟨rfl,fun j p q c e=>?_⟩;cases j with
  | zero=>simp at c e; subst c; subst e; exact .nil s
  | succ j=>simp at c
 ·exact h
theorem bE.fresh {s:Nat} {v:PV} {rows:List (List PV)} {o:Nat} (h:bE H s v rows) (i:H o=none) (x:cB):bE (H.set o x) s v rows∧∀ l,v≠.osl o s 0 l:=by
 refine⟨h.ext fun q y d=>?_,fun l e=>?_⟩
 ·have:q≠o:=by rintro rfl; rw[i] at d; cases d
  simp only[aN,if_neg this,d]
 ·rcases h with ⟨_,c⟩ | ⟨q,rs,h1,c,_⟩
  ·rw[c] at e; cases e
  ·rw[h1] at e;injection e with p
   subst p;rw[i] at c; cases c
theorem nL {s b:Nat} {v:PV} {rows:List (List PV)} {r:List PV} {o:Nat} {x:cB} {K:PV→PH→Prop} (h:bE H s v rows) (l:H o=none) (u:roomFor rows.length 1 b)
  (i:∀ v' H',bE H' s v' (rows++[r])→H' o=some x→K v' H'):mB (H.set o x) s b v (.sl s [r]) K:=by
 obtain⟨c,d⟩:=h.fresh l x;refine iD (src:=[r]) c (by simp[dX]) u fun v' H' e p=>i v' H' e (p o x (by simp only[aN,if_true]) d)
theorem vD {o s k:Nat} {rs:List (List PV)} (c:k≤rs.length):PV.frz o s rs (.osl o s 0 k)=.sl s (rs.take k):=by
 have:0+k≤rs.length:=Om;simp only[PV.frz,PV.tQ,PV.dH,if_true,true_and,if_pos this,aVY]
end
def fB (n:Nat):Bool:=decide (97≤n)&&decide (n≤122)||decide (65≤n)&&decide (n≤90)
def mQ (n:Nat):Bool:=decide (48≤n)&&decide (n≤57)
def fN (n:Nat):Bool:=fB n||mQ n||decide (n=45)||decide (n=46)
theorem ajU {C:Ctx} (n:Nat):lY.wp C (aU WM.res (aI (.bool (fB n)))) (PF.args [.int .u8 n]) .nil:=by
 have fin:∀ (F:PF) (b:Bool),F 2=some (.bool b)→b=fB n→aU WM.res (aI (.bool (fB n))) .ret F .nil:=by intro F b h e;subst e;refine aR (.inr rfl) (vs:=[.bool (fB n)]) (by simp only[go_sem,WM,h]) rfl
 unfold fB at *
 by_cases a:97≤n
 ·have i:(n:Int)≥97:=Om;by_cases b:n≤122
  ·have p:(n:Int)≤122:=Om;simp only[go_sem,lY,qQ,qR,i,p];exact fin _ _ rfl (by simp[a,b])
  ·have p:¬ (n:Int)≤122:=Om;by_cases c:65≤n
   ·have l:(n:Int)≥65:=Om;have d:¬ (n:Int)≤90:=Om;simp only[go_sem,lY,qQ,qR,i,p,l,d];exact fin _ _ rfl (by simp[a,b,c]; omega)
   ·omega
 ·have i:¬ (n:Int)≥97:=Om;by_cases c:65≤n
  ·have l:(n:Int)≥65:=Om;by_cases d:n≤90
   ·have u:(n:Int)≤90:=Om;simp only[go_sem,lY,qQ,qR,i,l,u];exact fin _ _ rfl (by simp[a,c,d])
   ·have u:¬ (n:Int)≤90:=Om;simp only[go_sem,lY,qQ,qR,i,l,u];exact fin _ _ rfl (by simp[a,c,d])
  ·have l:¬ (n:Int)≥65:=Om;simp only[go_sem,lY,qQ,qR,i,l];exact fin _ _ rfl (by simp[a,c])
theorem apM {C:Ctx} (n:Nat):rN.wp C (aU kg.res (aI (.bool (mQ n)))) (PF.args [.int .u8 n]) .nil:=by
 have fin:∀ (F:PF) (b:Bool),F 2=some (.bool b)→b=mQ n→aU kg.res (aI (.bool (mQ n))) .ret F .nil:=by intro F b h e;subst e;refine aR (.inr rfl) (vs:=[.bool (mQ n)]) (by simp only[go_sem,kg,h]) rfl
 unfold mQ at *
 by_cases a:48≤n
 ·have c:(n:Int)≥48:=Om;by_cases b:n≤57
  ·have d:(n:Int)≤57:=Om;simp only[go_sem,rN,CJ,CK,c,d];exact fin _ _ rfl (by simp[a,b])
  ·have d:¬ (n:Int)≤57:=Om;simp only[go_sem,rN,CJ,CK,c,d];exact fin _ _ rfl (by simp[a,b])
 ·have c:¬ (n:Int)≥48:=Om;simp only[go_sem,rN,CJ,CK,c];exact fin _ _ rfl (by simp[a])
theorem apQ {C:Ctx} (p:∀ n:Nat,aH C 126 [.int .u8 n] .nil (aI (.bool (fB n)))) (u:∀ n:Nat,aH C 124 [.int .u8 n] .nil (aI (.bool (mQ n)))) (n:Nat) :
  EI.wp C (aU kh.res (aI (.bool (fN n)))) (PF.args [.int .u8 n]) .nil:=by
 have fin:∀ (F:PF) (b:Bool),F 2=some (.bool b)→b=fN n→aU kh.res (aI (.bool (fN n))) .ret F .nil:=by intro F b h e;subst e;refine aR (.inr rfl) (vs:=[.bool (fN n)]) (by simp only[go_sem,kh,h]) rfl
 simp only[go_sem,EI,zy,zz];refine aA (p n) rfl ?_;cases l:fB n with
 | true =>simp only[go_sem];exact fin _ _ rfl (by simp[fN,l])
 | false =>
  simp only[go_sem];refine aA (u n) rfl ?_;cases i:mQ n with
  | true =>simp only[go_sem];exact fin _ _ rfl (by simp[fN,i])
  | false =>
   by_cases c:n=45
   ·simp only[go_sem,bP (Om:(n:Int)=45)];exact fin _ _ rfl (by simp[fN,c])
   ·by_cases d:n=46
    ·simp only[go_sem,bG (Om:(n:Int)≠45),bP (Om:(n:Int)=46)];exact fin _ _ rfl (by simp[fN,d])
    ·simp only[go_sem,bG (Om:(n:Int)≠45),bG (Om:(n:Int)≠46)];exact fin _ _ rfl (by simp[fN,c,d,l,i])
def isName (s:List UInt8):Bool:=match s with
 | []=>false
 | c::_=>decide (s.length≤16)&&fB c.toNat&&s.all fun c=>fN c.toNat
theorem pO {α:Type} {p:α→Bool} {l:List α} {k:Nat} (c:k<l.length) (h:(l.take k).all p=true) (d:p l[k]=true):(l.take (k+1)).all p=true:=by
 rw[aWN c,List.all_append,h]; simp[d]
theorem pP {α:Type} {p:α→Bool} {l:List α} {k:Nat} (c:k<l.length) (d:p l[k]=false):l.all p=false:=by
 rw[List.all_eq_false];exact⟨l[k],aUQ c,by simp[d]⟩
def Nv (s:List UInt8) (k:Nat):PF:=((PF.nil.set 0 (.str s)).set 3 (.int .i64 k))
theorem ayI {C:Ctx} (y:∀ n:Nat,aH C 126 [.int .u8 n] .nil (aI (.bool (fB n)))) (A:∀ n:Nat,aH C 125 [.int .u8 n] .nil (aI (.bool (fN n)))) (s:List UInt8) :
  tU.wp C (aU Ha.res (aI (.bool (isName s)))) (PF.args [.str s]) .nil:=by
 have fin:∀ (F:PF) (b:Bool),F 2=some (.bool b)→b=isName s→aU Ha.res (aI (.bool (isName s))) .ret F .nil:=by intro F b h e;subst e;refine aR (.inr rfl) (vs:=[.bool (isName s)]) (by simp only[go_sem,Ha,h]) rfl
 cases s with
 | nil =>simp only[go_sem,tU,KM,KN,KO];exact fin _ _ rfl rfl
 | cons c t =>
  have E:(c::t)[0]?=some c:=rfl;have p:(c::t==[])=false:=rfl;have l:isName (c::t)=(decide ((c::t).length≤16)&&fB c.toNat&&(c::t).all fun c=>fN c.toNat):=rfl;generalize c::t=s at *
  by_cases x:s.length≤16
  ·have i:¬ (s.length:Int)>16:=Om;rw[decide_eq_true x,aVA] at l;simp only[go_sem,tU,KM,KN,p,i,E,aWC];refine aA (y c.toNat) rfl ?_;cases w:fB c.toNat with
   | false =>simp only[go_sem,aVG,KO];exact fin _ _ rfl (by rw[l,w]; rfl)
   | true =>
    rw[w,aVA] at l;simp only[go_sem,aUW,Nx];refine wp_loop (α:=Nat) (fun k=>Nv s k) (fun _=>.nil) (fun k=>k≤s.length∧(s.take k).all (fun c=>fN c.toNat)=true) (fun k=>s.length-k) 0 ⟨aUT _,rfl⟩ ?_ a_ ?_
    ·unfold Nv;exact Lq
    rintro k ⟨H,u⟩;simp only[go_sem,Nw,Ny,Nv];by_cases hlt:k<s.length
    ·have d:(k:Int)<(s.length:Nat):=Om;have B:s[k]?=some s[k]:=aVB hlt;simp only[go_sem,d,Nz,B,aWC];refine aA (A (s[k]).toNat) rfl ?_;cases hi:fN (s[k]).toNat with
     | false =>simp only[go_sem,aVG,N0];refine fin _ false rfl ?_;rw[l,pP hlt hi]
     | true =>simp only[go_sem,aUW,N1,wZz k];refine aG (k+1) ⟨hlt,aVD.1 (pO hlt u hi)⟩ Om ?_ a_;exact Lq
    ·have d:¬ (k:Int)<(s.length:Nat):=Om;simp only[go_sem,d,N2];have:k=s.length:=Om;subst this;rw[aVI (aUU _)] at u;exact fin _ true rfl (by rw[l,u])
  ·have i:(s.length:Int)>16:=Om;simp only[go_sem,tU,KM,KN,KO,p,i];exact fin _ _ rfl (by rw[l,decide_eq_false x]; rfl)
abbrev dK (x:Int):Prop:=-9223372036854775808≤x∧x≤9223372036854775807
structure cG where
 name:List UInt8
 start:List RF
 aTH:List (List RF)
 exit:List RF
structure cS where
 name:List UInt8
 aTS:Int
 port:Int
 law:Int
structure cF where
 name:List UInt8
 level:Int
 parent:Int
 aTW:Int
 aTR:RF
structure dL where
 name:List UInt8
 model:Int
 machine:Int
structure bT where
 name:List UInt8
 k:Int
 m:Int
 aUA:Int
 s0:Int
 s1:Int
 s2:Int
 s3:Int
 s4:Int
 aTD:List Int
 repair:List RF
 target:RF
 aTM:RF
structure eT where
 name:List UInt8
 aTO:Int
structure aD where
 aUG:Int
 aTJ:List cG
 aTD:List cS
 aTF:List cF
 aTC:List dL
 aTG:List bT
 aTE:List eT
abbrev I (x:Int):PV:=.int .i64 x
abbrev alK (l:List (List RF)):PV:=.sl 1 (l.map fun r=>[frs r])
abbrev cG.cells (x:cG):List PV:=[.str x.name,frs x.start,alK x.aTH,frs x.exit]
abbrev cS.cells (x:cS):List PV:=[.str x.name,.int .i64 x.aTS,.int .i64 x.port,.int .i64 x.law]
abbrev cF.cells (x:cF):List PV:=[.str x.name,.int .i64 x.level,.int .i64 x.parent,.int .i64 x.aTW,.bool x.aTR.neg,aK x.aTR.num,aK x.aTR.den]
abbrev dL.cells (x:dL):List PV:=[.str x.name,.int .i64 x.model,.int .i64 x.machine]
abbrev bT.cells (x:bT):List PV:=[.str x.name,.int .i64 x.k,.int .i64 x.m,.int .i64 x.aUA,.int .i64 x.s0,.int .i64 x.s1,.int .i64 x.s2,.int .i64 x.s3,.int .i64 x.s4,ints x.aTD,frs x.repair,
 .bool x.target.neg,aK x.target.num,aK x.target.den,.bool x.aTM.neg,aK x.aTM.num,aK x.aTM.den]
abbrev eT.cells (x:eT):List PV:=[.str x.name,.int .i64 x.aTO]
abbrev aD.cells (f:aD):List PV:=[.int .i64 f.aUG,.sl 4 (f.aTJ.map cG.cells),.sl 4 (f.aTD.map cS.cells),.sl 7 (f.aTF.map cF.cells),.sl 3 (f.aTC.map dL.cells),.sl 17 (f.aTG.map bT.cells),.sl 2 (f.aTE.map eT.cells)]
def bT.spread (p:bT) (level:Nat):Int:=match level with
 | 0=>p.s0
 | 1=>p.s1
 | 2=>p.s2
 | 3=>p.s3
 | _=>p.s4
abbrev Fits {α:Type} (l:List α):Prop:=l.length≤9223372036854775807
structure kB (l:List RF):Prop where
 fits:Fits l
 all:∀ x∈l,x.Ok
structure cG.Ok (x:cG):Prop where
 start:kB x.start
 exit:kB x.exit
 aTH:Fits x.aTH
 row:∀ r∈x.aTH,kB r
structure bT.Ok (x:bT):Prop where
 k:dK x.k
 m:dK x.m
 aUA:dK x.aUA
 aTD:Fits x.aTD
 each:∀ m∈x.aTD,dK m
 repair:kB x.repair
 target:x.target.Ok
 aTM:x.aTM.Ok
structure aD.Ok (f:aD):Prop where
 aTJ:Fits f.aTJ
 aTD:Fits f.aTD
 aTF:Fits f.aTF
 aTC:Fits f.aTC
 aTG:Fits f.aTG
 aTE:Fits f.aTE
 law:∀ x∈f.aTJ,x.Ok
 dom:∀ x∈f.aTF,x.aTR.Ok∧dK x.level∧dK x.parent
 drive:∀ x∈f.aTC,dK x.model∧dK x.machine
 aTO:∀ x∈f.aTG,x.Ok
 volume:∀ x∈f.aTE,dK x.aTO
def pD (x:RF):FR:=if cX (val x.num) (val x.den) then jB x.neg (val x.num) (val x.den) else .error 1
theorem alE (x:RF):WT x.neg (val x.num) (val x.den)=frV (pD x):=by
 unfold WT pD;split
 ·exact uo _ _ _
 ·rfl
def cT (x:RF):Bool:=match pD x with
 | .ok (n,a,b)=>!n&&(decide (cM a≤32)&&decide (cM b≤32))
 | .error _=>false
def bM (x:RF):Bool:=decide (val x.num≠0)
def xP (x:RF):Bool:=cX (val x.num) (val x.den)&&decide (pV x.neg (val x.num) (val x.den) false 1 1≤0)
def within (n lo hi:Int):Bool:=decide (lo≤n)&&decide (n≤hi)
def cK (R:List Bool) (i:Nat) (row:List RF):Nat→List Bool
 | 0=>R
 | k+1=>let c:=cK R i row k
  c.set i (c.getD i false||(row.map bM).getD k false&&c.getD k false)
def kU (l:cG) (R:List Bool) (i:Nat):List Bool :=
 cK (R.set i (R.getD i false||(l.exit.map bM).getD i false)) i (l.aTH.getD i []) (l.aTH.getD i []).length
def cZ (l:cG) (R:List Bool):Nat→List Bool
 | 0=>R
 | i+1=>kU l (cZ l R i) i
def dB (l:cG):Nat→List Bool
 | 0=>aUR l.exit.length false
 | r+1=>cZ l (dB l r) l.exit.length
def pE (l:cG):Bool:=(dB l (l.exit.length+1)).all id
def kM (l:cG):Bool :=
 within l.start.length 1 4&&decide (l.exit.length=l.start.length)&&decide (l.aTH.length=l.start.length)&&l.start.all cT&&l.exit.all cT
 && (aUO l.aTH.length).all (fun i=>decide ((l.aTH.getD i []).length=l.start.length)&&(l.aTH.getD i []).all cT&&!((l.aTH.getD i []).map bM).getD i false)
 && (match nY (l.start.map RF.v) with
  | .ok (n,a,b)=>decide (pV n a b false 1 1=0)
  | .error _=>false)&&pE l
def distinct (l:List (List UInt8)):Bool:=(aUO l.length).all fun i=>isName (l.getD i [])&&!(l.take i).contains (l.getD i [])
def JC (f:aD) (i:Nat) (d:cF):Bool :=
 within d.parent 0 i&&decide ((f.aTF.map cF.level).getD d.parent.toNat 0=IntKind.i64.wrap (d.level-1))&&within d.level 1 4&&within d.aTW 1 64&&cT d.aTR
def BZ (f:aD) (r:cF) (t:List cF):Bool :=
 decide (r.name=[])&&decide (r.level=0)&&decide (r.parent=-1)&&decide (r.aTW=0)&&cT r.aTR&&!bM r.aTR
  && (aUO t.length).all fun i=>match t[i]? with
   | some d=>JC f i d
   | none=>false
def oI (f:aD):Bool:=match f.aTF with
 | []=>false
 | r::t=>BZ f r t
def MN (p:bT):Bool :=
 within p.k 1 6&&within p.m 0 4&&decide (p.k+p.m≤8)&&within p.aUA p.k (p.k+p.m)&&decide (p.s0=0)&&([p.s0,p.s1,p.s2,p.s3,p.s4].all fun n=>within n 0 8)
def CR (p:bT):Bool :=
 decide ((p.repair.length:Int)=max p.m 1)&&(p.repair.all fun x=>cT x&&bM x)&&cT p.target&&xP p.target&&cT p.aTM
def jQ (aTD:Nat) (p:bT):Bool :=
 MN p&&decide (p.aTD.length≠0)&&CR p&&(aUO p.aTD.length).all fun j=>within (p.aTD.getD j 0) 0 ((aTD:Int)-1)&&!(p.aTD.take j).contains (p.aTD.getD j 0)
def kO (f:aD) (m:cS):Bool:=within m.aTS 1 16&&within m.port 1 64&&within m.law 0 ((f.aTJ.length:Int)-1)
def jD (f:aD) (d:dL):Bool:=within d.model 0 ((f.aTD.length:Int)-1)&&within d.machine 0 ((f.aTF.length:Int)-1)&&decide ((f.aTF.map cF.level).getD d.machine.toNat 0=4)
def oP (f:aD) (v:eT):Bool:=within v.aTO 0 ((f.aTG.length:Int)-1)
def nT (f:aD):Bool:=within f.aUG 1 4&&decide (f.aTJ.length≤4)&&decide (f.aTD.length≤4)&&decide (f.aTF.length≤40)&&decide (f.aTC.length≤24)&&decide (f.aTG.length≤4)&&decide (f.aTE.length≤12)
def dJ (f:aD):Bool :=
 nT f&&oI f&&(f.aTJ.all kM&&f.aTD.all (kO f)&&f.aTC.all (jD f)&&f.aTG.all (jQ f.aTD.length)&&f.aTE.all (oP f))
 && (distinct (f.aTJ.map cG.name)&&distinct (f.aTD.map cS.name)&&distinct ((f.aTF.drop 1).map cF.name++f.aTC.map dL.name)&&distinct (f.aTG.map bT.name)&&distinct (f.aTE.map eT.name))
end Go.PM
