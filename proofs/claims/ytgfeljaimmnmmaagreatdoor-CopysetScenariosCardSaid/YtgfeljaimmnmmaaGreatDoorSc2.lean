/-
  Texts of ours, joined: Pm21 Pm22 Pm23 Pm24 Pm25 Pm26 L11Code NaCode Pm27 Pm29 Pm30 Pm31 NaPlain NaW1 NaW2 NaW3 NaW4 NaW5 NaW6 NaW7 NaW8 NaW9 NaKn NaW10 NaW11 Pm32 NaW12 NaW13 NaW14 NaW15 FrCode FrW1 FrW2 FrW3 FrW4 FlCode Pm. No condition.
-/
import Derived.Test.YtgfeljaimmnmmaaGreatDoorSc1
import Derived.ProofKit
import Derived.OpenShut
set_option linter.unusedSimpArgs false
set_option linter.unusedVariables false
open Nat renaming reduceEqDiff → γ, reduceAdd → δ, reduceSub → ε, reduceMul → ζ, reduceLT → η, reduceLeDiff → θ, reduceBEq → τ
open Int renaming reduceLT → ι, reduceLE → κ, reduceEq → μ, reduceToNat → ν, reduceAdd → ξ, reduceNeg → ο, reduceBEq → ρ, reduceBNe → σ
open List renaming reduceReplicate → υ
open List renaming length_map → a7G, range → a7H, getElem_mem → a7J, replicate → a7K, length_append → a7O, length_singleton → a7S, mem_cons → a7T, getElem?_eq_getElem → a7U, all_eq_true → a7W, getD_eq_getElem?_getD → a7Z, length_take → a8A, not_mem_nil → a8B, take_of_length_le → a8C, getElem?_map → a8F, map_append → a8G, take_length → a8I, mem_map → a8J, mem_range → a8K, getElem?_eq_some_iff → a8P, append_assoc → a8Q, drop_zero → a8R, getElem_of_mem → a8S, map_cons → a8U, getElem?_eq_none → a8X, length_cons → a8Y, getElem_map → a9B, mem_append → a9C, take_succ_eq_append_getElem → a9E, append_nil → a9G, drop_eq_getElem_cons → a9H, range' → a9I, length_drop → a9J, Sublist → a9K, length_set → a9L, map_nil → a9P, length_nil → a9W, mem_singleton → a9X, getElem?_append_right → a9Y, getElem?_append_left → a9Z, nodup_append → baA, mem_of_getElem? → baC, set_append_right → baD, take_append_drop → baE, ext_getElem → baO, range_succ → baS, getElem?_take → baU, drop_of_length_le → bbA, map_congr_left → bbB, set_cons_zero → bbC, getElem_append_right → bbD
open Nat renaming gcd → a7I, le_refl → a7M, zero_le → a7N, mul_add → a7V, lt_or_ge → a8D, zero_add → a8E, mul_assoc → a8H, mul_comm → a8L, add_mul → a8M, mul_le_mul_right → a8N, mod_eq_of_lt → a8T, le_trans → a8V, mod_lt → a8Z, pow_succ → a9D, add_zero → a9M, eq_zero_or_pos → a9Q, add_assoc → a9R, min_eq_left → a9S, mul_le_mul_left → a9T, pos_of_ne_zero → a9U, pow_pos → baB, div_le_self → baF, sub_self → baG, div_lt_iff_lt_mul → baK, pow_le_pow_right → baL, succ_mul → baM, mul_le_mul → baP, div_add_mod → baV, div_eq_of_lt → baW
open Bool renaming not_true → a7L, false_and → a7P, true_and → a7R, and_eq_true → a7X, not_false → a7Y, and_false → a8O, and_true → a9N, and_assoc → baI, and_self → baJ, false_eq_true → baR
open Option renaming map_eq_some_iff → a7Q, map_some → a8W, some → a9V, getD_some → baH, bind_eq_some_iff → baX, bind_some → baY
open Int renaming toNat_natCast → a9A, tdiv → a9O
open Array renaming replicate → a9F, length_toList → baN, getElem?_eq_some_iff → baQ, getElem?_eq_getElem → baT, getD_eq_getD_getElem? → baZ
namespace Go.PM
open Go
attribute [go_sem] List.getElem?_cons_succ List.getElem?_cons_zero and_self and_true true_and or_true true_or or_false false_or a7L a7Y a8W baY if_true if_false a8Y a9W List.drop_succ_cons a8R List.take_succ_cons List.take_zero a8U a9P a9V.injEq PV.bool.injEq PV.int.injEq aO PV.bin
@[go_sem] theorem aYS (k:IntKind) (a b:Int):kZ .add k a b=some (.int k (k.wrap (a+b))):=(rfl)
@[go_sem] theorem aZC (k:IntKind) (a b:Int):kZ .sub k a b=some (.int k (k.wrap (a-b))):=(rfl)
@[go_sem] theorem aYY (k:IntKind) (a b:Int):kZ .mul k a b=some (.int k (k.wrap (a*b))):=(rfl)
@[go_sem] theorem aZA (k:IntKind) (a b:Int):kZ .quo k a b=if b=0 then none else some (.int k (k.wrap (a.tdiv b))):=(rfl)
@[go_sem] theorem aZB (k:IntKind) (a b:Int):kZ .rem k a b=if b=0 then none else some (.int k (a.tmod b)):=(rfl)
@[go_sem] theorem aYT (k:IntKind) (a b:Int):kZ .eql k a b=some (.bool (a==b)):=(rfl)
@[go_sem] theorem aYZ (k:IntKind) (a b:Int):kZ .neq k a b=some (.bool (a != b)):=(rfl)
@[go_sem] theorem aYX (k:IntKind) (a b:Int):kZ .lss k a b=some (.bool (decide (a<b))):=(rfl)
@[go_sem] theorem aYW (k:IntKind) (a b:Int):kZ .leq k a b=some (.bool (decide (a≤b))):=(rfl)
@[go_sem] theorem aYV (k:IntKind) (a b:Int):kZ .gtr k a b=some (.bool (decide (a>b))):=(rfl)
@[go_sem] theorem aYU (k:IntKind) (a b:Int):kZ .geq k a b=some (.bool (decide (a≥b))):=(rfl)
section
variable {C:Ctx} {K:bR} {F:PF} {H:PH}
@[go_sem] theorem a3Y:aC.wp C .skip K F H=K .normal F H:=(rfl)
@[go_sem] theorem a0X (ops:List aU):aC.wp C (.region ops) K F H=wpOps C ops (K .normal) F H:=(rfl)
@[go_sem] theorem xj (a b:aC):aC.wp C (.seq a b) K F H=a.wp C (gE C (b.wp C) K) F H:=(rfl)
@[go_sem] theorem a2J (id:Nat) (c:aC):aC.wp C (.block id c) K F H=c.wp C (eX id K) F H:=(rfl)
@[go_sem] theorem a3X (id:Nat):aC.wp C (.exit id) K F H=K (.exit id) F H:=(rfl)
@[go_sem] theorem a4J:aC.wp C .ret K F H=K .ret F H:=(rfl)
def UO (C:Ctx) (v:Option PV) (a b:aC) (K:bR) (F:PF) (H:PH):Prop :=
 match v with
 | some (.bool t)=>if t then a.wp C K F H else b.wp C K F H
 | _=>False
@[go_sem] theorem aNG (c:aP) (a b:aC):aC.wp C (.cond c a b) K F H=UO C (c.ev F) a b K F H:=(rfl)
@[go_sem] theorem aZH (a b:aC):UO C (some (.bool true)) a b K F H=a.wp C K F H:=(rfl)
@[go_sem] theorem aXU (a b:aC):UO C (some (.bool false)) a b K F H=b.wp C K F H:=(rfl)
theorem aEF {t:Bool} {a b:aC} (c:t=true→a.wp C K F H) (d:t=false→b.wp C K F H):UO C (some (.bool t)) a b K F H:=by
 cases t
 ·exact d rfl
 ·exact c rfl
@[go_sem] theorem aYC (w:bR→PF→PH→Prop):gE C w K .normal F H=w K F H:=(rfl)
@[go_sem] theorem aWQ (w:bR→PF→PH→Prop):gE C w K .normal=w K:=(rfl)
@[go_sem] theorem a1W (w:bR→PF→PH→Prop) (id:Nat):gE C w K (.exit id)=K (.exit id):=(rfl)
@[go_sem] theorem a3N (w:bR→PF→PH→Prop):gE C w K .ret=K .ret:=(rfl)
@[go_sem] theorem aUG (id:Nat):eX id K .normal=K .normal:=(rfl)
@[go_sem] theorem aZF (id:Nat):eX id K .ret=K .ret:=(rfl)
@[go_sem] theorem CI (id c:Nat):eX id K (.exit c) F H=if c=id then K .normal F H else K (.exit c) F H:=(rfl)
@[go_sem] theorem a0V (K:PF→PH→Prop):wpOps C [] K F H=K F H:=(rfl)
@[go_sem] theorem a0W (d:Option Nat) (op:POp) (rest:List aU) (K:PF→PH→Prop):wpOps C (⟨d,op,none⟩::rest) K F H=wpOp C op d (wpOps C rest K) F H:=(rfl)
def vP (C:Ctx) (v:Option PV) (c:Bool) (op:POp) (d:Option Nat) (rest:List aU) (K:PF→PH→Prop) (F:PF) (H:PH):Prop :=
 match v with
 | some (.bool b)=>if b=c then wpOp C op d (wpOps C rest K) F H else wpOps C rest K (F.put d (.tup [])) H
 | some (.tup [])=>wpOps C rest K (F.put d (.tup [])) H
 | _=>False
@[go_sem] theorem Xr (d:Option Nat) (op:POp) (t:Nat) (c:Bool) (rest:List aU) (K:PF→PH→Prop) :
  wpOps C (⟨d,op,some (t,c)⟩::rest) K F H=vP C (F t) c op d rest K F H:=(rfl)
@[go_sem] theorem a1S (op:POp) (d:Option Nat) (rest:List aU) (K:PF→PH→Prop):vP C (some (.bool true)) true op d rest K F H=wpOp C op d (wpOps C rest K) F H:=(rfl)
@[go_sem] theorem a1P (op:POp) (d:Option Nat) (rest:List aU) (K:PF→PH→Prop):vP C (some (.bool false)) false op d rest K F H=wpOp C op d (wpOps C rest K) F H:=(rfl)
@[go_sem] theorem a1R (op:POp) (d:Option Nat) (rest:List aU) (K:PF→PH→Prop):vP C (some (.bool true)) false op d rest K F H=wpOps C rest K (F.put d (.tup [])) H:=(rfl)
@[go_sem] theorem a1Q (op:POp) (d:Option Nat) (rest:List aU) (K:PF→PH→Prop):vP C (some (.bool false)) true op d rest K F H=wpOps C rest K (F.put d (.tup [])) H:=(rfl)
@[go_sem] theorem aXZ (c:Bool) (op:POp) (d:Option Nat) (rest:List aU) (K:PF→PH→Prop):vP C (some (.tup [])) c op d rest K F H=wpOps C rest K (F.put d (.tup [])) H:=(rfl)
@[go_sem] theorem a3J (d:Nat) (v:PV):F.put (some d) v=F.set d v:=(rfl)
@[go_sem] theorem a3I (v:PV):F.put none v=F:=(rfl)
@[go_sem] theorem kD (i j:Nat) (v:PV):(F.set i v) j=if j=i then some v else F j:=(rfl)
@[go_sem] theorem args_at (vs:List PV) (i:Nat):PF.args vs i=vs[i]?:=(rfl)
@[go_sem] theorem a4O (i:Nat):PF.nil i=none:=(rfl)
@[go_sem] theorem i7 (t:Nat):(aP.tmp t).ev F=F t:=(rfl)
@[go_sem] theorem a2Z (v:PV):(aP.const v).ev F=some v:=(rfl)
@[go_sem] theorem aT (i j:Nat) (x:cG):(H.set i x) j=if j=i then some x else H j:=(rfl)
@[go_sem] theorem UV (i:Nat):PH.nil i=none:=(rfl)
@[go_sem] theorem UQ:aP.evs F []=some []:=(rfl)
@[go_sem] theorem zF (x:aP) (xs:List aP):aP.evs F (x::xs)=(match x.ev F,aP.evs F xs with | some v,some vs=>some (v::vs) | _,_=>none):=(rfl)
theorem iU {i j:Nat} {x:cG}:(H.set i x) j=none↔j≠i∧H j=none:=by
 rw[aT];split<;>simp_all
@[go_sem] theorem aYD (v:PV) (d:Option Nat) (K:PF→PH→Prop):bX (some v) d K F H=K (F.put d v) H:=by
 simp[bX]
theorem aR {c:Nat→PV} {x:cG} {d:Option Nat} {K:PF→PH→Prop} (h:∀ o,H o=none→K (F.put d (c o)) (H.set o x)):mV (some (c,x)) d K F H:=⟨c,x,rfl,h⟩
@[go_sem] theorem a4H (x:aP) (d:Option Nat) (K:PF→PH→Prop):wpOp C (.mv x) d K F H=bX (aO (.mv x) F H) d K F H:=(rfl)
@[go_sem] theorem a2I (x:aP) (d:Option Nat) (K:PF→PH→Prop):wpOp C (.same x) d K F H=bX (aO (.same x) F H) d K F H:=(rfl)
@[go_sem] theorem a2H (c a b:aP) (d:Option Nat) (K:PF→PH→Prop):wpOp C (.pick c a b) d K F H=bX (aO (.pick c a b) F H) d K F H:=(rfl)
@[go_sem] theorem a3S (o:BinOp) (x y:aP) (d:Option Nat) (K:PF→PH→Prop):wpOp C (.bin o x y) d K F H=bX (aO (.bin o x y) F H) d K F H:=(rfl)
@[go_sem] theorem a3U (n:Bool) (x y:aP) (d:Option Nat) (K:PF→PH→Prop):wpOp C (.eqb n x y) d K F H=bX (aO (.eqb n x y) F H) d K F H:=(rfl)
@[go_sem] theorem a3V (n:Bool) (c:List Sc) (x y:aP) (d:Option Nat) (K:PF→PH→Prop):wpOp C (.eqs n c x y) d K F H=bX (aO (.eqs n c x y) F H) d K F H:=(rfl)
@[go_sem] theorem a4I (o:UnOp) (x:aP) (d:Option Nat) (K:PF→PH→Prop):wpOp C (.un o x) d K F H=bX (aO (.un o x) F H) d K F H:=(rfl)
@[go_sem] theorem a2A (k:IntKind) (x:aP) (d:Option Nat) (K:PF→PH→Prop):wpOp C (.conv k x) d K F H=bX (aO (.conv k x) F H) d K F H:=(rfl)
@[go_sem] theorem a0O (z:List PV) (ps:List (Nat × Nat × aP)) (d:Option Nat) (K:PF→PH→Prop):wpOp C (.build z ps) d K F H=bX (aO (.build z ps) F H) d K F H:=(rfl)
@[go_sem] theorem a2F (n:Option Nat) (p:aP) (d:Option Nat) (K:PF→PH→Prop):wpOp C (.load n p) d K F H=bX (aO (.load n p) F H) d K F H:=(rfl)
@[go_sem] theorem aYO (x:aP) (d:Option Nat) (K:PF→PH→Prop):wpOp C (.a6I x) d K F H=bX (aO (.a6I x) F H) d K F H:=(rfl)
@[go_sem] theorem aYH (c:Nat) (x:aP) (d:Option Nat) (K:PF→PH→Prop):wpOp C (.a6Y c x) d K F H=bX (aO (.a6Y c x) F H) d K F H:=(rfl)
@[go_sem] theorem a0Q (c:Nat) (n:Option Nat) (x:aP) (d:Option Nat) (K:PF→PH→Prop):wpOp C (.field c n x) d K F H=bX (aO (.field c n x) F H) d K F H:=(rfl)
@[go_sem] theorem a2C (s:Nat) (x i:aP) (d:Option Nat) (K:PF→PH→Prop):wpOp C (.a6M s x i) d K F H=bX (aO (.a6M s x i) F H) d K F H:=(rfl)
@[go_sem] theorem a2B (n s:Nat) (x i:aP) (d:Option Nat) (K:PF→PH→Prop):wpOp C (.idxA n s x i) d K F H=bX (aO (.idxA n s x i) F H) d K F H:=(rfl)
@[go_sem] theorem a2D (n s:Nat) (g:Bool) (x i:aP) (d:Option Nat) (K:PF→PH→Prop):wpOp C (.idxV n s g x i) d K F H=bX (aO (.idxV n s g x i) F H) d K F H:=(rfl)
@[go_sem] theorem aYI (x i:aP) (d:Option Nat) (K:PF→PH→Prop):wpOp C (.a6W x i) d K F H=bX (aO (.a6W x i) F H) d K F H:=(rfl)
@[go_sem] theorem a0T (s:Nat) (x:aP) (lo hi mx:Option aP) (d:Option Nat) (K:PF→PH→Prop):wpOp C (.slice s x lo hi mx) d K F H=bX (aO (.slice s x lo hi mx) F H) d K F H:=(rfl)
@[go_sem] theorem aYP (n s:Nat) (x:aP) (lo hi mx:Option aP) (d:Option Nat) (K:PF→PH→Prop):wpOp C (.sliceA n s x lo hi mx) d K F H=bX (aO (.sliceA n s x lo hi mx) F H) d K F H:=(rfl)
@[go_sem] theorem aUJ (x:aP) (lo hi:Option aP) (d:Option Nat) (K:PF→PH→Prop):wpOp C (.a6S x lo hi) d K F H=bX (aO (.a6S x lo hi) F H) d K F H:=(rfl)
@[go_sem] theorem a1T:PV.sR .aB=some (.int .i64 0):=(rfl)
@[go_sem] theorem a4G (s:Nat) (rows:List (List PV)):PV.sR (.sl s rows)=some (.int .i64 rows.length):=(rfl)
@[go_sem] theorem a3G (o s c n:Nat):PV.sR (.osl o s c n)=some (.int .i64 n):=(rfl)
@[go_sem] theorem a3W (x:aP) (d:Option Nat) (K:PF→PH→Prop):wpOp C (.len x) d K F H=bX (aO (.len x) F H) d K F H:=(rfl)
@[go_sem] theorem aYK (x:aP) (d:Option Nat) (K:PF→PH→Prop):wpOp C (.a6V x) d K F H=bX (aO (.a6V x) F H) d K F H:=(rfl)
@[go_sem] theorem a2E (x:aP) (d:Option Nat) (K:PF→PH→Prop):wpOp C (.lenM x) d K F H=bX (aO (.lenM x) F H) d K F H:=(rfl)
@[go_sem] theorem a0R (n:Bool) (x:aP) (d:Option Nat) (K:PF→PH→Prop):wpOp C (.isNil n x) d K F H=bX (aO (.isNil n x) F H) d K F H:=(rfl)
@[go_sem] theorem aYB:PV.FS .aB=some true:=(rfl)
@[go_sem] theorem aZW (o s c len:Nat):PV.FS (.osl o s c len)=some false:=(rfl)
@[go_sem] theorem aYA (s:Nat) (r:List PV) (rs:List (List PV)):PV.FS (.sl s (r::rs))=some false:=(rfl)
@[go_sem] theorem aYG (x:aP) (d:Option Nat) (K:PF→PH→Prop):wpOp C (.a7F x) d K F H=bX (aO (.a7F x) F H) d K F H:=(rfl)
@[go_sem] theorem aXN (x:aP) (i:Nat) (d:Option Nat) (K:PF→PH→Prop):wpOp C (.extract x i) d K F H=bX (aO (.extract x i) F H) d K F H:=(rfl)
@[go_sem] theorem aYN (m:Bool) (x y:aP) (d:Option Nat) (K:PF→PH→Prop):wpOp C (.a6Q m x y) d K F H=bX (aO (.a6Q m x y) F H) d K F H:=(rfl)
@[go_sem] theorem a2G (n:Nat) (cs:List aP) (d:Option Nat) (K:PF→PH→Prop):wpOp C (.mkfn n cs) d K F H=bX (aO (.mkfn n cs) F H) d K F H:=(rfl)
@[go_sem] theorem aYL (sh:MSh) (z:PV) (x k:aP) (ok:Bool) (d:Option Nat) (K:PF→PH→Prop):wpOp C (.lookup sh z x k ok) d K F H=bX (aO (.lookup sh z x k ok) F H) d K F H:=(rfl)
@[go_sem] theorem aTY (x:aP) (d:Option Nat) (K:PF→PH→Prop):wpOp C (.a6J x) d K F H=bX (aO (.a6J x) F H) d K F H:=(rfl)
@[go_sem] theorem a1Y (x:aP) (d:Option Nat) (K:PF→PH→Prop):wpOp C (.box true x) d K F H=bX (aO (.box true x) F H) d K F H:=(rfl)
@[go_sem] theorem aXM (s l:Nat) (z:List PV) (ps:List (Nat × aP)) (d:Option Nat) (K:PF→PH→Prop):wpOp C (.a6B true s l z ps) d K F H=bX (aO (.a6B true s l z ps) F H) d K F H:=(rfl)
@[go_sem] theorem a0N (cs:List PV) (d:Option Nat) (K:PF→PH→Prop):wpOp C (.alloc cs) d K F H=mV (dA (.alloc cs) F) d K F H:=(rfl)
@[go_sem] theorem aXO (s b:Nat) (z:List PV) (l c:aP) (d:Option Nat) (K:PF→PH→Prop):wpOp C (.a6D s b z l c) d K F H=mV (dA (.a6D s b z l c) F) d K F H:=(rfl)
@[go_sem] theorem a0S (sh:MSh) (d:Option Nat) (K:PF→PH→Prop):wpOp C (.a7B sh) d K F H=mV (dA (.a7B sh) F) d K F H:=(rfl)
@[go_sem] theorem a3T (x:aP) (d:Option Nat) (K:PF→PH→Prop):wpOp C (.box false x) d K F H=mV (dA (.box false x) F) d K F H:=(rfl)
@[go_sem] theorem aYF (s l:Nat) (z:List PV) (ps:List (Nat × aP)) (d:Option Nat) (K:PF→PH→Prop):wpOp C (.a6B false s l z ps) d K F H=mV (dA (.a6B false s l z ps) F) d K F H:=(rfl)
@[go_sem] theorem a0U (n:Nat) (p x:aP) (d:Option Nat) (K:PF→PH→Prop):wpOp C (.store n p x) d K F H=cB (.store n p x) F H (fun r H'=>K (F.put d r) H'):=(rfl)
@[go_sem] theorem aYE (s b:Nat) (x y:aP) (d:Option Nat) (K:PF→PH→Prop):wpOp C (.append s b x y) d K F H=cB (.append s b x y) F H (fun r H'=>K (F.put d r) H'):=(rfl)
@[go_sem] theorem aYM (sh:MSh) (x k v:aP) (d:Option Nat) (K:PF→PH→Prop):wpOp C (.a6N sh x k v) d K F H=cB (.a6N sh x k v) F H (fun r H'=>K (F.put d r) H'):=(rfl)
@[go_sem] theorem aYJ (sh:MSh) (x k v:aP) (d:Option Nat) (K:PF→PH→Prop):wpOp C (.insert sh x k v) d K F H=cB (.insert sh x k v) F H (fun r H'=>K (F.put d r) H'):=(rfl)
@[go_sem] theorem a1Z (n:Nat) (c:List aP) (d:Option Nat) (K:PF→PH→Prop):wpOp C (.call n c) d K F H=iV C n c [] d K F H:=(rfl)
@[go_sem] theorem a0P (x:aP) (c:List aP) (d:Option Nat) (K:PF→PH→Prop):wpOp C (.a6X x c) d K F H=uQ C (x.ev F) c d K F H:=(rfl)
@[go_sem] theorem a0M (n:Nat) (cs:List PV) (c:List aP) (d:Option Nat) (K:PF→PH→Prop):uQ C (some (.fn n cs)) c d K F H=iV C n c cs d K F H:=(rfl)
theorem PF.nil_le:PF.nil.le F:=fun _ _ h=>(by cases h)
abbrev c_:=@PF.nil_le
theorem PF.aK {i:Nat} {v:PV} {G:PF} (d:F.le G) (l:G i=some v):(F.set i v).le G:=by
 intro j u c;rw[kD] at c;split at c
 ·rename_i e; subst e; cases c; exact l
 ·exact d _ _ c
abbrev d_:=@PF.aK
theorem PF.le_refl:F.le F:=fun _ _ h=>h
theorem PH.nil_le:PH.nil.le H:=fun _ _ h=>(by cases h)
abbrev a_:=@PH.nil_le
theorem PH.aK {i:Nat} {x:cG} {G:PH} (d:H.le G) (l:G i=some x):(H.set i x).le G:=by
 intro j u c;rw[aT] at c;split at c
 ·rename_i e; subst e; cases c; exact l
 ·exact d _ _ c
theorem PH.le_refl:H.le H:=fun _ _ h=>h
abbrev b_:=@PH.le_refl
theorem wp_loop {c:aC} {α:Type} (d:α→PF) (Hs:α→PH) (e:α→Prop) (m:α→Nat) (i:α) (l:e i) (p:(d i).le F) (q:(Hs i).le H)
  (u:∀ a,e a→c.wp C (fJ d Hs e m (m a) K) (d a) (Hs a)):aC.wp C (.loop c) K F H :=
 ⟨α,d,Hs,e,m,i,F,H,.refl F H,l,p,q,u⟩
theorem aD {α:Type} {c:α→PF} {Hs:α→PH} {d:α→Prop} {m:α→Nat} {n:Nat} (a:α) (e:d a) (p:m a<n) (i:(c a).le F) (l:(Hs a).le H):fJ c Hs d m n K .normal F H :=
 ⟨a,F,H,.refl F H,e,p,i,l⟩
@[go_sem] theorem aZZ {α:Type} {c:α→PF} {Hs:α→PH} {d:α→Prop} {m:α→Nat} {n:Nat} (id:Nat):fJ c Hs d m n K (.exit id)=K (.exit id):=(rfl)
@[go_sem] theorem a1U {α:Type} {c:α→PF} {Hs:α→PH} {d:α→Prop} {m:α→Nat} {n:Nat}:fJ c Hs d m n K .ret=K .ret:=(rfl)
def aF (v:PV) (r:PV) (H:PH):Prop:=r=v∧H=PH.nil
theorem PH.zU:H.over .nil .nil=H:=PH.ext fun o=>rfl
theorem Xq {name:Nat} {vs cs:List PV} {v:PV} {args:List aP} {d:Option Nat} {K:PF→PH→Prop} (h:aH C name (vs++cs) .nil (aF v)) (c:aP.evs F args=some vs)
  (e:K (F.put d v) H):iV C name args cs d K F H:=by
 refine .inl ⟨vs++cs,.nil,_,by rw[c]; rfl,a_,h,?_⟩;rintro r H' ⟨rfl,rfl⟩ _;rw[PH.zU];exact e
theorem aA {name:Nat} {vs:List PV} {v:PV} {args:List aP} {d:Option Nat} {K:PF→PH→Prop} (h:aH C name vs .nil (aF v)) (c:aP.evs F args=some vs)
  (e:K (F.put d v) H):iV C name args [] d K F H:=Xq (cs:=[]) (by rw[a9G]; exact h) c e
theorem aQ {res:List dV} {vs:List PV} {v:PV} {e:kM} (l:e=.normal∨e=.ret) (h:dV.evs F H res=some vs) (p:bO vs=v):aV res (aF v) e F H:=by
 have c:∃ vs,dV.evs F H res=some vs∧∃ d i H2,jD (PF.nil.set 0 (bO vs)) H d i∧H2.le i∧∃ u,d 0=some u∧aF v u H2 :=
  ⟨vs,h,_,H,.nil,.refl _ _,a_,v,by rw[kD,if_pos rfl,p],rfl,rfl⟩
 rcases l with rfl | rfl<;>exact c
@[go_sem] theorem oK:dV.evs F H []=some []:=(rfl)
@[go_sem] theorem kI (x:dV) (xs:List dV):dV.evs F H (x::xs)=(match x.ev F H,dV.evs F H xs with | some v,some vs=>some (v::vs) | _,_=>none):=(rfl)
@[go_sem] theorem nC (t:Nat):dV.ev F H (.tmp t)=F t:=(rfl)
@[go_sem] theorem a3L (t:Nat):dV.ev F H (.cell t none)=(match F t with | some p=>(match loadCells H p 1 with | some [v]=>some v | _=>none) | none=>none):=(rfl)
@[go_sem] theorem a1V (t k:Nat):dV.ev F H (.cell t (some k))=(match F t with | some p=>(loadCells H p k).map .agg | none=>none):=(rfl)
end
section
variable {C:Ctx} {K:bR} {F:PF} {H Hs:PH} {S:Spec}
theorem bW {ops:List (aU × Bool)} (Hs:PH) (S:Spec) (c:Hs.le H) (h:wpD C Hs S ops (K .normal) F H):aC.wp C (.draw ops) K F H:=⟨Hs,S,c,h⟩
def eT:Spec:=fun _ _=>none
def dOp (C:Ctx) (Hs:PH) (S:Spec) (st:Bool) (op:POp) (d:Option Nat) (K:PF→PH→Prop) (F:PF) (H:PH):Prop:=(op.kind F).run C Hs S st (fun v H'=>K (F.put d v) H') H
@[go_sem] theorem a3Q (K:PF→PH→Prop):wpD C Hs S [] K F H=K F H:=(rfl)
@[go_sem] theorem a3R (d:Option Nat) (op:POp) (st:Bool) (rest:List (aU × Bool)) (K:PF→PH→Prop):wpD C Hs S ((⟨d,op,none⟩,st)::rest) K F H=dOp C Hs S st op d (wpD C Hs S rest K) F H:=(rfl)
def zL (C:Ctx) (Hs:PH) (S:Spec) (v:Option PV) (c st:Bool) (op:POp) (d:Option Nat) (rest:List (aU × Bool)) (K:PF→PH→Prop) (F:PF) (H:PH):Prop :=
 match v with
 | some (.bool b)=>if b=c then dOp C Hs S st op d (wpD C Hs S rest K) F H else wpD C Hs S rest K (F.put d (.tup [])) H
 | some (.tup [])=>wpD C Hs S rest K (F.put d (.tup [])) H
 | _=>False
@[go_sem] theorem a1X (d:Option Nat) (op:POp) (t:Nat) (c st:Bool) (rest:List (aU × Bool)) (K:PF→PH→Prop) :
  wpD C Hs S ((⟨d,op,some (t,c)⟩,st)::rest) K F H=zL C Hs S (F t) c st op d rest K F H:=by
 have i:wpD C Hs S ((⟨d,op,some (t,c)⟩,st)::rest) K F H=((⟨d,op,some (t,c)⟩:aU).kind F).run C Hs S st (fun v H'=>wpD C Hs S rest K (F.put d v) H') H:=(rfl);rw[i];unfold aU.kind zL;simp only;cases F t with
 | none=>rfl
 | some v =>
  cases v
  case bool b =>
   simp only;by_cases e:b=c
   ·rw[if_pos e,if_pos e]; rfl
   ·rw[if_neg e,if_neg e]; simp[Kind.run]
  case tup vs=>cases vs<;>simp[Kind.run]
  all_goals rfl
@[go_sem] theorem a1O (op:POp) (st:Bool) (d:Option Nat) (rest:List (aU × Bool)) (K:PF→PH→Prop):zL C Hs S (some (.bool true)) true st op d rest K F H=dOp C Hs S st op d (wpD C Hs S rest K) F H:=(rfl)
@[go_sem] theorem a1L (op:POp) (st:Bool) (d:Option Nat) (rest:List (aU × Bool)) (K:PF→PH→Prop):zL C Hs S (some (.bool false)) false st op d rest K F H=dOp C Hs S st op d (wpD C Hs S rest K) F H:=(rfl)
@[go_sem] theorem a1N (op:POp) (st:Bool) (d:Option Nat) (rest:List (aU × Bool)) (K:PF→PH→Prop):zL C Hs S (some (.bool true)) false st op d rest K F H=wpD C Hs S rest K (F.put d (.tup [])) H:=(rfl)
@[go_sem] theorem a1M (op:POp) (st:Bool) (d:Option Nat) (rest:List (aU × Bool)) (K:PF→PH→Prop):zL C Hs S (some (.bool false)) true st op d rest K F H=wpD C Hs S rest K (F.put d (.tup [])) H:=(rfl)
@[go_sem] theorem aXY (c:Bool) (op:POp) (st:Bool) (d:Option Nat) (rest:List (aU × Bool)) (K:PF→PH→Prop):zL C Hs S (some (.tup [])) c st op d rest K F H=wpD C Hs S rest K (F.put d (.tup [])) H:=(rfl)
@[go_sem] theorem a4K (x:aP) (st:Bool) (d:Option Nat) (K:PF→PH→Prop):dOp C Hs S st (.mv x) d K F H=bX (aO (.mv x) F (if st then Hs else H)) d K F H:=(rfl)
@[go_sem] theorem a2Y (x:aP) (st:Bool) (d:Option Nat) (K:PF→PH→Prop):dOp C Hs S st (.same x) d K F H=bX (aO (.same x) F (if st then Hs else H)) d K F H:=(rfl)
@[go_sem] theorem a2X (c a b:aP) (st:Bool) (d:Option Nat) (K:PF→PH→Prop):dOp C Hs S st (.pick c a b) d K F H=bX (aO (.pick c a b) F (if st then Hs else H)) d K F H:=(rfl)
@[go_sem] theorem a3Z (o:BinOp) (x y:aP) (st:Bool) (d:Option Nat) (K:PF→PH→Prop):dOp C Hs S st (.bin o x y) d K F H=bX (aO (.bin o x y) F (if st then Hs else H)) d K F H:=(rfl)
@[go_sem] theorem a4B (n:Bool) (x y:aP) (st:Bool) (d:Option Nat) (K:PF→PH→Prop):dOp C Hs S st (.eqb n x y) d K F H=bX (aO (.eqb n x y) F (if st then Hs else H)) d K F H:=(rfl)
@[go_sem] theorem a4C (n:Bool) (c:List Sc) (x y:aP) (st:Bool) (d:Option Nat) (K:PF→PH→Prop):dOp C Hs S st (.eqs n c x y) d K F H=bX (aO (.eqs n c x y) F (if st then Hs else H)) d K F H:=(rfl)
@[go_sem] theorem a4L (o:UnOp) (x:aP) (st:Bool) (d:Option Nat) (K:PF→PH→Prop):dOp C Hs S st (.un o x) d K F H=bX (aO (.un o x) F (if st then Hs else H)) d K F H:=(rfl)
@[go_sem] theorem a2Q (k:IntKind) (x:aP) (st:Bool) (d:Option Nat) (K:PF→PH→Prop):dOp C Hs S st (.conv k x) d K F H=bX (aO (.conv k x) F (if st then Hs else H)) d K F H:=(rfl)
@[go_sem] theorem a1C (z:List PV) (ps:List (Nat × Nat × aP)) (st:Bool) (d:Option Nat) (K:PF→PH→Prop):dOp C Hs S st (.build z ps) d K F H=bX (aO (.build z ps) F (if st then Hs else H)) d K F H:=(rfl)
@[go_sem] theorem a2V (n:Option Nat) (p:aP) (st:Bool) (d:Option Nat) (K:PF→PH→Prop):dOp C Hs S st (.load n p) d K F H=bX (aO (.load n p) F (if st then Hs else H)) d K F H:=(rfl)
@[go_sem] theorem aZR (x:aP) (st:Bool) (d:Option Nat) (K:PF→PH→Prop):dOp C Hs S st (.a6I x) d K F H=bX (aO (.a6I x) F (if st then Hs else H)) d K F H:=(rfl)
@[go_sem] theorem aZL (c:Nat) (x:aP) (st:Bool) (d:Option Nat) (K:PF→PH→Prop):dOp C Hs S st (.a6Y c x) d K F H=bX (aO (.a6Y c x) F (if st then Hs else H)) d K F H:=(rfl)
@[go_sem] theorem a1D (c:Nat) (n:Option Nat) (x:aP) (st:Bool) (d:Option Nat) (K:PF→PH→Prop):dOp C Hs S st (.field c n x) d K F H=bX (aO (.field c n x) F (if st then Hs else H)) d K F H:=(rfl)
@[go_sem] theorem a2S (s:Nat) (x i:aP) (st:Bool) (d:Option Nat) (K:PF→PH→Prop):dOp C Hs S st (.a6M s x i) d K F H=bX (aO (.a6M s x i) F (if st then Hs else H)) d K F H:=(rfl)
@[go_sem] theorem a2R (n s:Nat) (x i:aP) (st:Bool) (d:Option Nat) (K:PF→PH→Prop):dOp C Hs S st (.idxA n s x i) d K F H=bX (aO (.idxA n s x i) F (if st then Hs else H)) d K F H:=(rfl)
@[go_sem] theorem a2T (n s:Nat) (g:Bool) (x i:aP) (st:Bool) (d:Option Nat) (K:PF→PH→Prop):dOp C Hs S st (.idxV n s g x i) d K F H=bX (aO (.idxV n s g x i) F (if st then Hs else H)) d K F H:=(rfl)
@[go_sem] theorem aZM (x i:aP) (st:Bool) (d:Option Nat) (K:PF→PH→Prop):dOp C Hs S st (.a6W x i) d K F H=bX (aO (.a6W x i) F (if st then Hs else H)) d K F H:=(rfl)
@[go_sem] theorem a1G (s:Nat) (x:aP) (lo hi mx:Option aP) (st:Bool) (d:Option Nat) (K:PF→PH→Prop):dOp C Hs S st (.slice s x lo hi mx) d K F H=bX (aO (.slice s x lo hi mx) F (if st then Hs else H)) d K F H:=(rfl)
@[go_sem] theorem aUY (x:aP) (lo hi:Option aP) (st:Bool) (d:Option Nat) (K:PF→PH→Prop):dOp C Hs S st (.a6S x lo hi) d K F H=bX (aO (.a6S x lo hi) F (if st then Hs else H)) d K F H:=(rfl)
@[go_sem] theorem a4D (x:aP) (st:Bool) (d:Option Nat) (K:PF→PH→Prop):dOp C Hs S st (.len x) d K F H=bX (aO (.len x) F (if st then Hs else H)) d K F H:=(rfl)
@[go_sem] theorem aZN (x:aP) (st:Bool) (d:Option Nat) (K:PF→PH→Prop):dOp C Hs S st (.a6V x) d K F H=bX (aO (.a6V x) F (if st then Hs else H)) d K F H:=(rfl)
@[go_sem] theorem a2U (x:aP) (st:Bool) (d:Option Nat) (K:PF→PH→Prop):dOp C Hs S st (.lenM x) d K F H=bX (aO (.lenM x) F (if st then Hs else H)) d K F H:=(rfl)
@[go_sem] theorem a1E (n:Bool) (x:aP) (st:Bool) (d:Option Nat) (K:PF→PH→Prop):dOp C Hs S st (.isNil n x) d K F H=bX (aO (.isNil n x) F (if st then Hs else H)) d K F H:=(rfl)
@[go_sem] theorem aZK (x:aP) (st:Bool) (d:Option Nat) (K:PF→PH→Prop):dOp C Hs S st (.a7F x) d K F H=bX (aO (.a7F x) F (if st then Hs else H)) d K F H:=(rfl)
@[go_sem] theorem aXW (x:aP) (i:Nat) (st:Bool) (d:Option Nat) (K:PF→PH→Prop):dOp C Hs S st (.extract x i) d K F H=bX (aO (.extract x i) F (if st then Hs else H)) d K F H:=(rfl)
@[go_sem] theorem aZQ (m:Bool) (x y:aP) (st:Bool) (d:Option Nat) (K:PF→PH→Prop):dOp C Hs S st (.a6Q m x y) d K F H=bX (aO (.a6Q m x y) F (if st then Hs else H)) d K F H:=(rfl)
@[go_sem] theorem a2W (n:Nat) (cs:List aP) (st:Bool) (d:Option Nat) (K:PF→PH→Prop):dOp C Hs S st (.mkfn n cs) d K F H=bX (aO (.mkfn n cs) F (if st then Hs else H)) d K F H:=(rfl)
@[go_sem] theorem aZO (sh:MSh) (z:PV) (x k:aP) (ok:Bool) (st:Bool) (d:Option Nat) (K:PF→PH→Prop):dOp C Hs S st (.lookup sh z x k ok) d K F H=bX (aO (.lookup sh z x k ok) F (if st then Hs else H)) d K F H:=(rfl)
@[go_sem] theorem aUI (x:aP) (st:Bool) (d:Option Nat) (K:PF→PH→Prop):dOp C Hs S st (.a6J x) d K F H=bX (aO (.a6J x) F (if st then Hs else H)) d K F H:=(rfl)
@[go_sem] theorem a2P (x:aP) (st:Bool) (d:Option Nat) (K:PF→PH→Prop):dOp C Hs S st (.box true x) d K F H=bX (aO (.box true x) F (if st then Hs else H)) d K F H:=(rfl)
@[go_sem] theorem aXV (s l:Nat) (z:List PV) (ps:List (Nat × aP)) (st:Bool) (d:Option Nat) (K:PF→PH→Prop):dOp C Hs S st (.a6B true s l z ps) d K F H=bX (aO (.a6B true s l z ps) F (if st then Hs else H)) d K F H:=(rfl)
@[go_sem] theorem a1B (cs:List PV) (st:Bool) (d:Option Nat) (K:PF→PH→Prop):dOp C Hs S st (.alloc cs) d K F H=mV (dA (.alloc cs) F) d K F H:=(rfl)
@[go_sem] theorem aXX (s b:Nat) (z:List PV) (l c:aP) (st:Bool) (d:Option Nat) (K:PF→PH→Prop):dOp C Hs S st (.a6D s b z l c) d K F H=mV (dA (.a6D s b z l c) F) d K F H:=(rfl)
@[go_sem] theorem a1F (sh:MSh) (st:Bool) (d:Option Nat) (K:PF→PH→Prop):dOp C Hs S st (.a7B sh) d K F H=mV (dA (.a7B sh) F) d K F H:=(rfl)
@[go_sem] theorem a4A (x:aP) (st:Bool) (d:Option Nat) (K:PF→PH→Prop):dOp C Hs S st (.box false x) d K F H=mV (dA (.box false x) F) d K F H:=(rfl)
@[go_sem] theorem aZJ (s l:Nat) (z:List PV) (ps:List (Nat × aP)) (st:Bool) (d:Option Nat) (K:PF→PH→Prop):dOp C Hs S st (.a6B false s l z ps) d K F H=mV (dA (.a6B false s l z ps) F) d K F H:=(rfl)
@[go_sem] theorem a1H (n:Nat) (p x:aP) (st:Bool) (d:Option Nat) (K:PF→PH→Prop):dOp C Hs S st (.store n p x) d K F H=cB (.store n p x) F H (fun r H'=>Hs.le H'∧K (F.put d r) H'):=(rfl)
@[go_sem] theorem aZI (s b:Nat) (x y:aP) (st:Bool) (d:Option Nat) (K:PF→PH→Prop):dOp C Hs S st (.append s b x y) d K F H=cB (.append s b x y) F H (fun r H'=>Hs.le H'∧K (F.put d r) H'):=(rfl)
@[go_sem] theorem aZP (sh:MSh) (x k v:aP) (st:Bool) (d:Option Nat) (K:PF→PH→Prop):dOp C Hs S st (.a6N sh x k v) d K F H=cB (.a6N sh x k v) F H (fun r H'=>Hs.le H'∧K (F.put d r) H'):=(rfl)
theorem KE:H.only []=PH.nil:=PH.ext fun o=>by simp[PH.only,PH.nil]
theorem bP {name:Nat} {vs:List PV} {v:PV} {args:List aP} {st:Bool} {d:Option Nat} {K:PF→PH→Prop} (e:S name vs=some ([],fun _=>aF v)) (h:aH C name vs .nil (aF v)) (i:aP.evs F args=some vs)
  (c:Hs.le H) (l:K (F.put d v) H):dOp C Hs S st (.call name args) d K F H:=by
 refine⟨vs,[],fun _=>aF v,i,e,fun o p=>by simp at p,by rw[KE]; exact h,fun G=>⟨v,.nil,⟨rfl,rfl⟩,fun o x q=>by simp[PH.nil] at q⟩,?_⟩;rintro r H' ⟨rfl,rfl⟩ -;rw[KE,PH.zU];exact⟨c,l⟩
end
theorem wrap_i64 {n:Int} (c:-9223372036854775808≤n) (d:n≤9223372036854775807):IntKind.i64.wrap n=n:=by
 have e:IntKind.i64.wrap n=if decide (n%18446744073709551616≥9223372036854775808)=true then n%18446744073709551616-18446744073709551616 else n%18446744073709551616:=by simp[IntKind.wrap,IntKind.bits,IntKind.signed]
 rw[e];split
 ·rename_i h; simp only[decide_eq_true_eq] at h; omega
 ·rename_i h; simp only[decide_eq_true_eq] at h; omega
theorem d6 {k:Nat} (h:k≤9223372036854775807):IntKind.i64.wrap (k:Int)=k:=wrap_i64 Om Om
theorem cZ {k:Nat} (h:k<9223372036854775807):IntKind.i64.wrap ((k:Int)+1)=((k+1:Nat):Int):=by
 rw[wrap_i64 Om Om]; omega
theorem wZz (k:Nat) (h:k<9223372036854775807:=by omega):IntKind.i64.wrap ((k:Int)+1)=((k+1:Nat):Int):=cZ h
theorem wrap_u64 {n:Int} (c:0≤n) (d:n<18446744073709551616):IntKind.u64.wrap n=n:=by
 have e:IntKind.u64.wrap n=n%18446744073709551616:=by simp[IntKind.wrap,IntKind.bits,IntKind.signed]
 rw[e]; omega
abbrev ints (xs:List Int):PV:=.sl 1 (xs.map fun n=>[.int .i64 n])
open Go Go.RowKit
inductive CT where
 | int (k:IntKind)
 | bool
 | str
 | sl (es:List CT)
 deriving Inhabited
def qV (P:Program) (rec:TypeId→Option (List CT)):Nat→List Field→Option (List CT)
 | _,[]=>some []
 | k,f::c=>match rec f.type with
  | some cts=>if f.offset=k∧P.cellsOf f.type=cts.length then (qV P rec (k+cts.length) c).map (cts++·) else none
  | none=>none
def gJ (P:Program):Nat→TypeId→Option (List CT)
 | 0,_=>none
 | n+1,t=>match P.underlying t with
  | some .bool=>some [.bool]
  | some (.int k)=>some [.int k]
  | some .string=>some [.str]
  | some (.slice e)=>match gJ P n e with
   | some cts=>if P.cellsOf e=cts.length∧0<cts.length then some [.sl cts] else none
   | none=>none
  | some (.struct c)=>match qV P (gJ P n) 0 c.toList with
   | some cts=>if P.cellsOf t=cts.length then some cts else none
   | none=>none
  | some (.array k e)=>match gJ P n e with
   | some cts=>if P.cellsOf e=cts.length∧P.cellsOf t=k*cts.length then some (a7K k cts).flatten else none
   | none=>none
  | _=>none
inductive PV.Ty:CT→PV→Prop
 | int {k:IntKind} {n:Int} (h:(Lit.int k n).wf=true):PV.Ty (.int k) (.int k n)
 | bool (b:Bool):PV.Ty .bool (.bool b)
 | str {s:List UInt8} (h:s.length≤maxLen):PV.Ty .str (.str s)
 | sl {es:List CT} {rows:List (List PV)} (hr:∀ r∈rows,r.length=es.length) (hl:rows.length≤maxLen) (h:∀ (i j:Nat) pv ct,at2 rows i j=some pv→es[j]?=some ct→PV.Ty ct pv):PV.Ty (.sl es) (.sl es.length rows)
def Env.of (W:World) (num:Nat→FuncId):Env:=⟨fun b=>match W.heap[b]? with | some (.cells cs _ _)=>some cs | _=>none,fun _=>none,num⟩
theorem bM.start (W:World) (num:Nat→FuncId):bM (Env.of W num) PH.nil W:=by
 refine⟨fun b cs d=>⟨fun x e=>(by cases e),?_⟩,fun o x e=>(by cases e),fun o n h=>(by cases h)⟩;simp only[Env.of] at d;split at d
 ·rename_i c ty i h;cases d;exact⟨ty,i,h⟩
 ·cases d
structure Reads (E:Env) (cts:List CT) (pvs:List PV) (cs:List Value):Prop where
 lp:pvs.length=cts.length
 lc:cs.length=cts.length
 rep:∀ (j:Nat) pv c,pvs[j]?=some pv→cs[j]?=some c→aZ E pv c∧c.oneCell'=true
 ty:∀ (j:Nat) pv ct,pvs[j]?=some pv→cts[j]?=some ct→PV.Ty ct pv
theorem Reads.one {E:Env} {ct:CT} {pv:PV} {c:Value} (h:aZ E pv c) (d:c.oneCell'=true) (e:PV.Ty ct pv):Reads E [ct] [pv] [c]:=by
 refine⟨rfl,rfl,fun j p u a b=>?_,fun j p u a b=>?_⟩
 ·cases j with
  | zero=>simp at a b; subst a; subst b; exact⟨h,d⟩
  | succ j=>simp at a
 ·cases j with
  | zero=>simp at a b; subst a; subst b; exact e
  | succ j=>simp at a
theorem Reads.append {E:Env} {c e:List CT} {d q:List PV} {i l:List Value} (h:Reads E c d i) (k:Reads E e q l):Reads E (c++e) (d++q) (i++l):=by
 refine⟨by simp[h.lp,k.lp],by simp[h.lc,k.lc],fun j p u a b=>?_,fun j p u a b=>?_⟩
 ·rcases a8D j d.length with hj | hj
  ·rw[a9Z hj] at a;rw[a9Z (by rw[h.lc,← h.lp]; exact hj)] at b;exact h.rep j p u a b
  ·rw[a9Y hj] at a;rw[a9Y (by rw[h.lc,← h.lp]; exact hj)] at b;rw[show j-i.length=j-d.length by rw[h.lc,h.lp]] at b;exact k.rep _ p u a b
 ·rcases a8D j d.length with hj | hj
  ·rw[a9Z hj] at a;rw[a9Z (by rw[← h.lp]; exact hj)] at b;exact h.ty j p u a b
  ·rw[a9Y hj] at a;rw[a9Y (by rw[← h.lp]; exact hj)] at b;rw[show j-c.length=j-d.length by rw[h.lp]] at b;exact k.ty _ p u a b
theorem gp {W:World} {num:Nat→FuncId} {a:Addr} {v:Value} (h:W.cell? a=some v):a.spot=none∧(Env.of W num).cell a.block a.off=some v:=by
 unfold World.cell? at h;split at h
 ·rename_i c ty i d;split at h
  ·cases h
  ·rename_i e;refine⟨by simpa using e,?_⟩;simp only[Env.cell,Env.of,d];exact h
 ·cases h
inductive PV.Len (N:Nat):PV→Prop
 | flat {pv:PV} (h1:∀ n rows,pv≠.sl n rows) (h2:∀ vs,pv≠.agg vs):PV.Len N pv
 | sl {n:Nat} {rows:List (List PV)} (h:rows.length≤N) (hr:∀ r∈rows,∀ v∈r,PV.Len N v):PV.Len N (.sl n rows)
 | agg {vs:List PV} (h:∀ v∈vs,PV.Len N v):PV.Len N (.agg vs)
theorem PV.Len.int {N:Nat} (k:IntKind) (n:Int):PV.Len N (.int k n):=.flat (fun _ _ h=>by cases h) fun _ h=>by cases h
theorem PV.Len.bool {N:Nat} (b:Bool):PV.Len N (.bool b):=.flat (fun _ _ h=>by cases h) fun _ h=>by cases h
theorem PV.Len.str {N:Nat} (s:List UInt8):PV.Len N (.str s):=.flat (fun _ _ h=>by cases h) fun _ h=>by cases h
theorem PV.Len.rows {N n:Nat} {rows:List (List PV)} (h:PV.Len N (.sl n rows)):rows.length≤N∧∀ r∈rows,∀ v∈r,PV.Len N v:=by
 cases h with
 | flat c _=>exact absurd rfl (c n rows)
 | sl c d=>exact⟨c,d⟩
theorem PV.Len.parts {N:Nat} {vs:List PV} (h:PV.Len N (.agg vs)):∀ v∈vs,PV.Len N v:=by
 cases h with
 | flat _ c=>exact absurd rfl (c vs)
 | agg h=>exact h
structure ZB {H:Type} (P:Program) (N:Nat) (S:TypeId→DataW H→Prop):Prop where
 sl:∀ t e elems spare,P.underlying t=some (.slice e)→S t (.slice elems spare)→elems.length≤N∧∀ d∈elems,S e d
 st:∀ t fs parts,P.underlying t=some (.struct fs)→S t (.agg parts)→∀ (i:Nat) g d,fs[i]?=some g→parts[i]?=some d→S g.type d
 ar:∀ t n e parts,P.underlying t=some (.array n e)→S t (.agg parts)→∀ d∈parts,S e d
theorem UG {H:Type} {P:Program} {A:(TypeId→DataW H→Prop)→Prop} {pv:PV} (h:∀ {N},PV.Len N pv):∀ N S,ZB P N S→A S→∀ v∈[pv],PV.Len N v:=fun N S _ _ v c=>by
 obtain rfl:=a9X.1 c;exact h
theorem i8 {P:Program} {E:Env} {rec:TypeId→Option (List CT)} {H:Type} {f:TypeId→List Value→Option (DataW H × List MemPlace)}
  (B:∀ t cs x cts,f t cs=some x→rec t=some cts→∃ d,Reads E cts d cs∧∀ N S,ZB P N S→S t x.1→∀ v∈d,PV.Len N v) (cs:List Value) :
  ∀ (i:List Field) (k:Nat) (cts:List CT),(∀ g∈i,∃ x,f g.type ((cs.drop g.offset).take (P.cellsOf g.type))=some x)→qV P rec k i=some cts →
   ∃ d,Reads E cts d ((cs.drop k).take cts.length)∧∀ N S,ZB P N S→(∀ g∈i,∀ x,f g.type ((cs.drop g.offset).take (P.cellsOf g.type))=some x→S g.type x.1)→∀ v∈d,PV.Len N v
 | [],k,cts,_,h=>by simp[qV] at h; subst h;exact⟨[],⟨rfl,by simp,fun j p c a=>by simp at a,fun j p c a=>by simp at a⟩,fun _ _ _ _ v hv=>by cases hv⟩
 | g::i,k,cts,y,h=>by
  simp only[qV] at h;split at h
  ·rename_i F K;split at h
   ·rename_i w;simp only[a7Q] at h;obtain⟨J,M,rfl⟩:=h;obtain⟨x,A⟩:=y g (by simp);obtain⟨R,r1,O⟩:=B _ _ _ _ A K;rw[w.1,w.2] at r1;obtain⟨U,r2,Q⟩:=i8 B cs i (k+F.length) J (fun l e=>y l (by simp[e])) M;refine⟨R++U,?_,fun N S q u v hv=>?_⟩
    ·have:=r1.append r2;rw[a7O,List.take_add,List.drop_drop];exact this
    ·rcases a9C.1 hv with hv | hv
     ·exact O N S q (u g (by simp) x A) v hv
     ·exact Q N S q (fun l e=>u l (by simp[e])) v hv
   ·cases h
  ·cases h
theorem ze {E:Env} {cts:List CT} {R:List PV→Prop} (e:R []) (l:∀ a b,R a→R b→R (a++b)) (cs:List Value) :
  ∀ n:Nat,(∀ i,i<n→∃ d,Reads E cts d ((cs.drop (i*cts.length)).take cts.length)∧R d)→∃ d,Reads E (a7K n cts).flatten d (cs.take (n*cts.length))∧R d
 | 0,_=>⟨[],⟨rfl,by simp,fun j p c a=>by simp at a,fun j p c a=>by simp at a⟩,e⟩
 | n+1,h=>by obtain⟨q,r1,w⟩:=ze e l cs n fun i hi=>h i Om;obtain⟨u,r2,x⟩:=h n Om;refine⟨q++u,?_,l _ _ w x⟩;rw[List.replicate_succ',List.flatten_append,List.flatten_singleton,baM,List.take_add];exact r1.append r2
theorem aLG {H:Type} {enc:TypeId × Value→H} {P:Program} {W:World} {base:Nat} {sp:Nat→Bool} {Z:Bool} (num:Nat→FuncId) :
  ∀ (fuel m:Nat) (t:TypeId) (cs:List Value) (x:DataW H × List MemPlace) (cts:List CT),DataW.trod enc P W base sp Z fuel t cs=some x→gJ P m t=some cts→∃ c,Reads (Env.of W num) cts c cs∧∀ N S,ZB P N S→S t x.1→∀ v∈c,PV.Len N v:=by
 intro fuel
 induction fuel with
 | zero=>intro m t cs x cts h; simp[DataW.trod] at h
 | succ fuel ih =>
  intro m t cs x cts h p;cases m with
  | zero=>simp[gJ] at p
  | succ m =>
   simp only[gJ] at p;split at p
   ·rename_i K;cases p;obtain⟨b,rfl,-⟩:=DataW.trod_bool K h;exact⟨[.bool b],.one (.bool b) rfl (.bool b),UG (.bool b)⟩
   ·rename_i k K;cases p;obtain⟨n,rfl,-,hw⟩:=DataW.trod_int K h;exact⟨[.int k n],.one (.int k n) rfl (.int hw),UG (.int k n)⟩
   ·rename_i K;cases p;obtain⟨s,rfl,-,hs⟩:=DataW.trod_string K h;exact⟨[.str s.data.toList],.one (.str s) rfl (.str (by rw[baN]; exact hs)),UG (.str _)⟩
   ·rename_i e K;split at p
    ·rename_i l he;split at p
     ·rename_i q;cases p;rcases DataW.trod_slice K h with ⟨rfl,-⟩ | ⟨a,len,cap,elems,rest,n,hn,rfl,U,-,α,hcap,hel,helem,-⟩
      ·refine⟨[.sl l.length []],.one ?_ rfl (.sl (by simp) (by simp) (by simp[at2])),UG (.sl (a7N _) (fun r O=>by cases O))⟩;exact .sl (fun _ _=>.bool false) (by simp) (by decide) (by simp) (by simp) (fun _ _=>rfl) (by simp[at2])
      ·cases hn;have each:∀ i,i<len→∃ c V,(Reads (Env.of W num) l c V∧∀ N S,ZB P N S→(∀ d∈elems.map (·.1),S e d)→∀ v∈c,PV.Len N v)∧W.cells? base (a.add (i*l.length)) l.length=some V:=by intro i hi;have Y:=helem i hi;rw[a7U Om,baX] at Y;obtain⟨V,h2,h3⟩:=Y;obtain⟨c,r,rl⟩:=ih m e V _ l h3 he;rw[q.1] at h2;exact⟨c,V,⟨r,fun N S B F=>rl N S B (F _ (a8J.2 ⟨_,a7J _,rfl⟩))⟩,h2⟩
       have β:∀ i,∃ c,∃ V,i<len→(Reads (Env.of W num) l c V∧∀ N S,ZB P N S→(∀ d∈elems.map (·.1),S e d)→∀ v∈c,PV.Len N v)∧W.cells? base (a.add (i*l.length)) l.length=some V:=by
        intro i;by_cases hi:i<len
        ·obtain⟨c,V,Y⟩:=each i hi;exact⟨c,V,fun _=>Y⟩
        ·exact⟨[],[],fun h=>(hi h).elim⟩
       obtain⟨pf,μ⟩:=Classical.axiomOfChoice β;obtain⟨uf,J⟩:=Classical.axiomOfChoice μ;have γ:∀ i j pv,at2 ((a7H len).map pf) i j=some pv→i<len∧(pf i)[j]?=some pv:=by
        intro i j pv u;unfold at2 at u;rw[a8F,baX] at u;obtain⟨r,O,u⟩:=u;rw[a7Q] at O;obtain⟨i',M,rfl⟩:=O;have hi:i<len:=by simpa using (a8P.1 M).1
        have:i'=i:=by simp[hi] at M; exact M.symm
        subst this;exact⟨hi,u⟩
       have hu2:∀ i j pv,at2 ((a7H len).map pf) i j=some pv→∃ v,(uf i)[j]?=some v∧j<l.length∧aZ (Env.of W num) pv v∧v.oneCell'=true:=by
        intro i j pv u;obtain⟨hi,Q⟩:=γ i j pv u;obtain⟨⟨r,-⟩,-⟩:=J i hi;have hj:j<l.length:=by rw[← r.lp]; exact (a8P.1 Q).1
        have A:(uf i)[j]?=some ((uf i)[j]'(by rw[r.lc]; exact hj)):=a7U _;exact⟨_,A,hj,(r.rep j pv _ Q A).1,(r.rep j pv _ Q A).2⟩
       have X:((a7H len).map pf).length=len:=by simp
       refine⟨[.sl l.length ((a7H len).map pf)],.one ?_ rfl (.sl (fun r O=>?_) (by rw[X]; omega) fun i j pv ct u θ=>?_),fun N S B F v A=>?_⟩
       ·have ε:=aZ.sl (E:=Env.of W num) (size:=l.length) (rows:=(a7H len).map pf) (a:=some a) (cap:=cap)
         (fun i j=>match at2 ((a7H len).map pf) i j with | some _=>((uf i)[j]?).getD (.bool false) | none=>.bool false) (by rw[X]; exact α) hcap
         (fun r O=>by simp only[a8J,a8K] at O;obtain⟨i,hi,rfl⟩:=O;exact (J i hi).1.1.lp)
         (fun κ=>by
          have ι:0<len:=by
           rcases a9Q len with h | h
           ·subst h; exact (κ rfl).elim
           ·exact h
          have δ:a.spot=none:=by obtain⟨⟨r,-⟩,p⟩:=J 0 ι;have h3:=(World.cells?_some p).2.2 0 q.2;rw[Nat.zero_mul,Addr.add_zero',Addr.add_zero',a7U (by rw[r.lc]; exact q.2)] at h3;exact (gp (num:=num) h3).1
          refine⟨a,rfl,δ,fun i j pv u=>?_⟩;obtain⟨hi,-⟩:=γ i j pv u;obtain⟨v,A,hj,-⟩:=hu2 i j pv u;have h3:=(World.cells?_some (J i hi).2).2.2 j hj;rw[nK δ,add_plain,add_plain,A] at h3;have h4:=(gp (num:=num) h3).2;simp only[u,A,baH];exact h4)
         (fun i j=>by
          split
          ·rename_i pv u;obtain⟨v,A,-,-,Y⟩:=hu2 i j pv u;simp[A,Y]
          ·rfl)
         (fun i j pv u=>by obtain⟨v,A,-,Y,-⟩:=hu2 i j pv u;simp only[u,A,baH];exact Y)
        rw[X] at ε;exact ε
       ·simp only[a8J,a8K] at O;obtain⟨i,hi,rfl⟩:=O;exact (J i hi).1.1.lp
       ·obtain⟨hi,Q⟩:=γ i j pv u;exact (J i hi).1.1.ty j pv ct Q θ
       ·rw[U] at F;obtain⟨m1,m2⟩:=B.sl t e _ _ K F;obtain rfl:=a9X.1 A;refine .sl (by rw[X]; simpa [hel] using m1) fun r O w hw=>?_;simp only[a8J,a8K] at O;obtain⟨i,hi,rfl⟩:=O;exact (J i hi).1.2 N S B m2 w hw
     ·cases p
    ·cases p
   ·rename_i fs K;split at p
    ·rename_i ξ ζ;split at p
     ·rename_i α;cases p;obtain⟨xs,n,hn,U,η,ν,hx⟩:=DataW.trod_struct K h;cases hn;have:=i8 (f:=DataW.trod enc P W base sp Z fuel) (fun t cs x cts a b=>ih m t cs x cts a b) cs fs.toList 0 cts (fun g hg=>by obtain⟨i,hi,rfl⟩:=a8S hg;have:=hx i fs.toList[i] (by simp at hi; simp[hi]);rw[this];exact⟨_,a7U (by simp at hi; omega)⟩) ζ
      rw[a8R,a8C Om] at this;obtain⟨c,r,rl⟩:=this;refine⟨c,r,fun N S B F=>rl N S B fun g hg y hy=>?_⟩;rw[U] at F;obtain⟨i,hi,rfl⟩:=a8S hg;have M:i<fs.size:=by simpa using hi
      have:=hx i fs.toList[i] (by simp[M]);rw[hy,a7U Om] at this;refine B.st t fs _ K F i fs.toList[i] y.1 (by simp[M]) ?_;rw[a8F,a7U Om,← this]; rfl
     ·cases p
    ·cases p
   ·rename_i k e K;split at p
    ·rename_i l he;split at p
     ·rename_i q;cases p;obtain⟨xs,n,hn,U,η,ν,hx⟩:=DataW.trod_array K h;cases hn;obtain⟨c,r,hq⟩:=ze (E:=Env.of W num) (cts:=l) (R:=fun c=>∀ N S,ZB P N S→(∀ d:DataW H,d∈xs.map (fun y:DataW H × List MemPlace=>y.1)→S e d)→∀ v∈c,PV.Len N v) (fun _ _ _ _ v A=>by cases A)
       (fun a b ha hb N S B F v A=>(a9C.1 A).elim (ha N S B F v) (hb N S B F v)) cs k fun i hi=>by have h2:=hx i hi;rw[a7U Om,q.1] at h2;obtain⟨c,r,rl⟩:=ih m e _ _ l h2 he;exact⟨c,r,fun N S B F=>rl N S B (F _ (a8J.2 ⟨_,a7J _,rfl⟩))⟩
      rw[a8C Om] at r;exact⟨c,r,fun N S B F=>hq N S B (B.ar t k e _ K (by rw[U] at F; exact F))⟩
     ·cases p
    ·cases p
   ·cases p
theorem ow {H:Type} {enc:TypeId × Value→H} {P:Program} {W:World} {base:Nat} {i:Nat→Bool} {c:Bool} (num:Nat→FuncId)
  (fuel m:Nat) (t:TypeId) (cs:List Value) (x:DataW H × List MemPlace) (cts:List CT) (h:DataW.trod enc P W base i c fuel t cs=some x) (e:gJ P m t=some cts):∃ d,Reads (Env.of W num) cts d cs :=
 (aLG num fuel m t cs x cts h e).imp fun _ r=>r.1
open Go Go.RowKit Go.ChangeShapes Go.WideShapes
theorem Ext.below {E d:Env} {H':PH} {w c:World} (h:Ext E PH.nil w d H' c):Below w.heap.size w c :=
 ⟨h.os,h.tape,h.output,h.size,fun k e=>h.block k e rfl⟩
theorem Below.trodAll {H:Type} {enc:TypeId × Value→H} {P:Program} (w:laidOutB P=true) {W e:World} (l:Below W.heap.size W e) :
  ∀ {ts:List TypeId} {vs:List Value} {ds:List (DataW H)} {ps:List MemPlace},(∀ t∈ts,P.readableRec t=true∧t<P.types.size)→DataW.TrodAll enc P W 0 (fun _=>true) true ts vs ds ps →
   DataW.TrodAll enc P e 0 (fun b=>decide (b<W.heap.size)) true ts vs ds ps
 | [],[],[],ps,_,h=>h
 | [],_::_,_,_,_,h=>h.elim
 | [],[],_::_,_,_,h=>h.elim
 | _::_,[],_,_,_,h=>h.elim
 | _::_,_::_,[],_,_,h=>h.elim
 | t::ts,v::vs,d::ds,ps,c,h=>by obtain⟨p,q,i,y,rfl⟩:=h;have hlt:∀ x∈p,x.block<W.heap.size:=fun x B=>DataW.TrodAll.lt (ts:=[t]) (vs:=[v]) (ds:=[d]) ⟨p,[],i,rfl,(a9G p).symm⟩ x B;exact⟨p,q,Below.trod w (c t (by simp)).1 (c t (by simp)).2 i l hlt,Below.trodAll w l (fun u A=>c u (by simp[A])) y,rfl⟩
theorem avH {H:Type} {enc:TypeId × Value→H} {P:Program} {f:Func} {s:ChangeSpec} {c apart fresh:Bool} {W y:World} {args:Array Value} {ds e:List (DataW H)} {d:List MemPlace} {bt:TypeId}
  (F:laidOutB P=true) (hW:DataW.Whole enc P f.params.toList s.vars apart W args.toList ds e d) (B:Below W.heap.size W y) (u:∀ t∈f.params.toList,P.readableRec t=true∧t<P.types.size)
  (l:f.resultTypes=#[bt]) (i:P.underlying bt=some .bool) (w:s.vars=[]) (K:(s.fn H (ds++e)).results=[.lit (.bool true)]) (E:(s.fn H (ds++e)).args=ds) (x:(s.fn H (ds++e)).vars=[]) :
  s.post enc P f apart fresh c false W args (.bool true) y:=by
 obtain⟨p,q,A,hV,rfl,M,J⟩:=hW;rw[w] at hV;obtain⟨rfl,rfl⟩:=trodVars_none hV;refine⟨ds,[],p++[],[],p,[],⟨p,[],A,by rw[w]; exact hV,rfl,M,J⟩,?_,?_,?_,B.frame _,fun h=>by cases h⟩
 ·rw[K,l];refine⟨[],[],⟨1,?_⟩,rfl,rfl⟩;simp[DataW.trod,i,Value.cells,Value.resultList]
 ·rw[E];exact Below.trodAll F B u A
 ·rw[w,x];exact rfl
theorem asW {C:Ctx} {name:Nat} {W:World} {args:Array Value} {d:List PV} (h:aH C name d PH.nil (aF (.bool true))) (q:eJ (Env.of W C.num) d args.toList) :
  Calls C.P (C.num name) args W fun e i=>e=.returned (.bool true)∧Below W.heap.size W i :=
 (h.2 (Env.of W C.num) W args rfl (bM.start W C.num) q).mono fun e i p=>by obtain⟨v,pv,u,H',rfl,-,c,l,rfl,-⟩:=p;cases c;exact⟨rfl,l.below⟩
theorem aiU {H:Type} {enc:TypeId × Value→H} {P:Program} {W:World} {r:Reach} {base:Nat} {B:Nat→Bool} {i:Bool} (num:Nat→FuncId) {t:TypeId} {v:Value} {d:DataW H} {ps:List MemPlace} {w:Array Field} {n:Nat} {cts:List CT}
  (p:P.underlying t=some (.struct w)) (l:Value.okWide P W r base t v) (y:DataW.Trod enc P W 0 B i t v d ps) (x:gJ P n t=some cts) :
  ∃ c,aZ (Env.of W num) (.agg c) v∧c.length=cts.length∧∀ (j:Nat) pv ct,c[j]?=some pv→cts[j]?=some ct→PV.Ty ct pv:=by
 obtain⟨cs,rfl,-⟩:=okWide_struct p l;obtain⟨fuel,h⟩:=y;obtain⟨c,e⟩:=ow num fuel n t _ _ cts h x;have A:cs.size=c.length:=by have:=e.lc; rw[e.lp,← this]; simp[Value.cells]
 refine⟨c,.agg cs A (fun u p=>?_) (fun j pv u a b=>(e.rep j pv u a (by simpa [Value.cells] using b)).1),e.lp,e.ty⟩;obtain⟨j,q,rfl⟩:=a8S p;simp only[baN] at q;exact (e.rep j _ _ (a7U Om) (by simp[Value.cells,q])).2
theorem tV {H:Type} {enc:TypeId × Value→H} {P:Program} {W:World} {w:Nat→Bool} {c:Bool} (num:Nat→FuncId) {t:TypeId} {v:Value} {d:DataW H} {ps:List MemPlace} {n:Nat} {ct:CT}
  (u:v.cells=#[v]) (p:DataW.Trod enc P W 0 w c t v d ps) (l:gJ P n t=some [ct]):∃ pv,aZ (Env.of W num) pv v∧PV.Ty ct pv:=by
 obtain⟨fuel,h⟩:=p;obtain⟨i,e⟩:=ow num fuel n t _ _ [ct] h l;rw[u] at e;have q:=e.lp;cases i with
 | nil=>simp at q
 | cons pv rest=>exact⟨pv,(e.rep 0 pv v rfl rfl).1,e.ty 0 pv ct rfl rfl⟩
def InK (k:IntKind) (n:Int):Prop:=k.min≤n∧n≤k.max
def alD (k:IntKind) (xs:List Int):PV:=.sl 1 (xs.map fun n=>[.int k n])
theorem Ty.UX {k:IntKind} {pv:PV} (h:PV.Ty (.int k) pv):∃ n,pv=.int k n∧InK k n:=by
 cases h with
 | int h=>simp only[Lit.wf,a7X,decide_eq_true_eq] at h; exact⟨_,rfl,h⟩
theorem Ty.aSM {ct:CT} {pv:PV} (h:PV.Ty (.sl [ct]) pv):∃ vs:List PV,pv=.sl 1 (vs.map fun v=>[v])∧vs.length≤maxLen∧∀ v∈vs,PV.Ty ct v:=by
 cases h with
 | @sl w rows u q h =>
 have c:∀ r∈rows,r=[r.headD .junk]:=fun r d=>by
  have:=u r d
  match r,this with
  | [x],_=>rfl
 have e:rows=(rows.map fun r=>r.headD .junk).map fun v=>[v]:=by rw[List.map_map];apply baO (by simp);intro n p y;simp only[a9B,Function.comp];exact c _ (a7J p)
 refine⟨rows.map fun r=>r.headD .junk,by rw[← e]; rfl,by simpa using q,fun v l=>?_⟩;rw[a8J] at l;obtain⟨r,d,rfl⟩:=l;obtain⟨i,hi,rfl⟩:=a8S d;refine h i 0 _ ct ?_ rfl;have:=c rows[i] d;unfold at2;rw[a7U hi,baY,this];rfl
theorem Ty.aFX {k:IntKind} {pv:PV} (h:PV.Ty (.sl [.int k]) pv):∃ xs:List Int,pv=alD k xs∧xs.length≤maxLen∧∀ x∈xs,InK k x:=by
 obtain⟨vs,rfl,q,d⟩:=Ty.aSM h;have e:vs=(vs.map fun v=>match v with | .int _ n=>n | _=>0).map fun n=>PV.int k n:=by rw[List.map_map];apply baO (by simp);intro n l u;simp only[a9B,Function.comp];obtain⟨m,c,-⟩:=Ty.UX (d _ (a7J l));rw[c]
 refine⟨vs.map fun v=>match v with | .int _ n=>n | _=>0,?_,by simpa using q,fun x i=>?_⟩
 ·unfold alD
  conv=>lhs; rw[e]
  rw[List.map_map];rfl
 ·rw[a8J] at i;obtain⟨v,c,rfl⟩:=i;obtain⟨m,rfl,p⟩:=Ty.UX (d v c);exact p
abbrev Rg:=List aU
abbrev Rd:=List (aU×Bool)
def iM (d s:Nat):aU:=⟨some d,.mv (.tmp s),none⟩
def iI (d:Nat) (n:Int):aU:=⟨some d,.mv (.const (.int .i64 n)),none⟩
def iB (d:Nat) (o:BinOp) (x y:Nat):aU:=⟨some d,.bin o (.tmp x) (.tmp y),none⟩
def iC (d:Nat) (o:BinOp) (x:Nat) (n:Int):aU:=⟨some d,.bin o (.tmp x) (.const (.int .i64 n)),none⟩
def iL (d s:Nat):aU:=⟨some d,.load none (.tmp s),none⟩
def iX (d n x y:Nat):aU:=⟨some d,.a6M n (.tmp x) (.tmp y),none⟩
def iN (d x:Nat):aU:=⟨some d,.len (.tmp x),none⟩
def iF (d n x:Nat):aU:=⟨some d,.a6Y n (.tmp x),none⟩
def iS (n p x:Nat):aU:=⟨none,.store n (.tmp p) (.tmp x),none⟩
def iA (d:Nat) (o:POp):aU:=⟨some d,o,none⟩
def iG (d:Nat) (o:POp) (g:Nat) (b:Bool):aU:=⟨some d,o,some (g,b)⟩
def iP (d a b:Nat):aU:=⟨some d,.pick (.tmp a) (.tmp b) (.const (.bool false)),none⟩
def iQ (d a b:Nat):aU:=⟨some d,.pick (.tmp a) (.const (.bool true)) (.tmp b),none⟩
def iO (d s a:Nat):aU:=⟨some d,.load (some s) (.tmp a),none⟩
def iE (d a n:Nat):aU:=⟨some d,.extract (.tmp a) n,none⟩
def iK (d f a:Nat):aU:=⟨some d,.call f [.tmp a],none⟩
def iK2 (d f a b:Nat):aU:=⟨some d,.call f [.tmp a,.tmp b],none⟩
def iT (d:Nat) (b:Bool):aU:=⟨some d,.mv (.const (.bool b)),none⟩
def iZ (d:Nat):aU:=⟨some d,.mv (.const .aB),none⟩
def gM (d s g:Nat) (b:Bool):aU:=⟨some d,.mv (.tmp s),some (g,b)⟩
def gL (d s g:Nat) (b:Bool):aU:=⟨some d,.load none (.tmp s),some (g,b)⟩
def gF (d n s g:Nat) (b:Bool):aU:=⟨some d,.a6Y n (.tmp s),some (g,b)⟩
def gN (d s g:Nat) (b:Bool):aU:=⟨some d,.len (.tmp s),some (g,b)⟩
def gO (d n s g:Nat) (b:Bool):aU:=⟨some d,.load (some n) (.tmp s),some (g,b)⟩
def gK (d f a g:Nat) (b:Bool):aU:=⟨some d,.call f [.tmp a],some (g,b)⟩
def gK2 (d f a c g:Nat) (b:Bool):aU:=⟨some d,.call f [.tmp a,.tmp c],some (g,b)⟩
def gC (d:Nat) (o:BinOp) (x:Nat) (n:Int) (g:Nat) (b:Bool):aU:=⟨some d,.bin o (.tmp x) (.const (.int .i64 n)),some (g,b)⟩
def gB (d:Nat) (o:BinOp) (x y g:Nat) (b:Bool):aU:=⟨some d,.bin o (.tmp x) (.tmp y),some (g,b)⟩
def zI:PV:=.int .i64 0
def zB:PV:=.bool false
def sq (r:Rg) (c:aC):aC:=.seq (.region r) c
def dq (r:Rd) (c:aC):aC:=.seq (.draw r) c
def Tm (n:Nat):aP:=.tmp n
def Ci (n:Int):aP:=.const (.int .i64 n)
@[go_sem] theorem a5J (d s:Nat):iM d s=⟨some d,.mv (.tmp s),none⟩:=(rfl)
@[go_sem] theorem a5G (d:Nat) (n:Int):iI d n=⟨some d,.mv (.const (.int .i64 n)),none⟩:=(rfl)
@[go_sem] theorem a5B (d:Nat) (o:BinOp) (x y:Nat):iB d o x y=⟨some d,.bin o (.tmp x) (.tmp y),none⟩:=(rfl)
@[go_sem] theorem a5C (d:Nat) (o:BinOp) (x:Nat) (n:Int):iC d o x n=⟨some d,.bin o (.tmp x) (.const (.int .i64 n)),none⟩:=(rfl)
@[go_sem] theorem a5I (d s:Nat):iL d s=⟨some d,.load none (.tmp s),none⟩:=(rfl)
@[go_sem] theorem a5Q (d n x y:Nat):iX d n x y=⟨some d,.a6M n (.tmp x) (.tmp y),none⟩:=(rfl)
@[go_sem] theorem a5K (d x:Nat):iN d x=⟨some d,.len (.tmp x),none⟩:=(rfl)
@[go_sem] theorem a5E (d n x:Nat):iF d n x=⟨some d,.a6Y n (.tmp x),none⟩:=(rfl)
@[go_sem] theorem a5O (n p x:Nat):iS n p x=⟨none,.store n (.tmp p) (.tmp x),none⟩:=(rfl)
@[go_sem] theorem a5A (d:Nat) (o:POp):iA d o=⟨some d,o,none⟩:=(rfl)
@[go_sem] theorem a5F (d:Nat) (o:POp) (g:Nat) (b:Bool):iG d o g b=⟨some d,o,some (g,b)⟩:=(rfl)
@[go_sem] theorem a5M (d a b:Nat):iP d a b=⟨some d,.pick (.tmp a) (.tmp b) (.const (.bool false)),none⟩:=(rfl)
@[go_sem] theorem a5N (d a b:Nat):iQ d a b=⟨some d,.pick (.tmp a) (.const (.bool true)) (.tmp b),none⟩:=(rfl)
@[go_sem] theorem a5L (d s a:Nat):iO d s a=⟨some d,.load (some s) (.tmp a),none⟩:=(rfl)
@[go_sem] theorem a5D (d a n:Nat):iE d a n=⟨some d,.extract (.tmp a) n,none⟩:=(rfl)
@[go_sem] theorem a5H (d f a:Nat):iK d f a=⟨some d,.call f [.tmp a],none⟩:=(rfl)
@[go_sem] theorem a4N (d f a b:Nat):iK2 d f a b=⟨some d,.call f [.tmp a,.tmp b],none⟩:=(rfl)
@[go_sem] theorem a5P (d:Nat) (b:Bool):iT d b=⟨some d,.mv (.const (.bool b)),none⟩:=(rfl)
@[go_sem] theorem a5R (d:Nat):iZ d=⟨some d,.mv (.const .aB),none⟩:=(rfl)
@[go_sem] theorem a4X (d s g:Nat) (b:Bool):gM d s g b=⟨some d,.mv (.tmp s),some (g,b)⟩:=(rfl)
@[go_sem] theorem a4W (d s g:Nat) (b:Bool):gL d s g b=⟨some d,.load none (.tmp s),some (g,b)⟩:=(rfl)
@[go_sem] theorem a4U (d n s g:Nat) (b:Bool):gF d n s g b=⟨some d,.a6Y n (.tmp s),some (g,b)⟩:=(rfl)
@[go_sem] theorem a4Y (d s g:Nat) (b:Bool):gN d s g b=⟨some d,.len (.tmp s),some (g,b)⟩:=(rfl)
@[go_sem] theorem a4Z (d n s g:Nat) (b:Bool):gO d n s g b=⟨some d,.load (some n) (.tmp s),some (g,b)⟩:=(rfl)
@[go_sem] theorem a4V (d f a g:Nat) (b:Bool):gK d f a g b=⟨some d,.call f [.tmp a],some (g,b)⟩:=(rfl)
@[go_sem] theorem a4M (d f a c g:Nat) (b:Bool):gK2 d f a c g b=⟨some d,.call f [.tmp a,.tmp c],some (g,b)⟩:=(rfl)
@[go_sem] theorem a4T (d:Nat) (o:BinOp) (x:Nat) (n:Int) (g:Nat) (b:Bool):gC d o x n g b=⟨some d,.bin o (.tmp x) (.const (.int .i64 n)),some (g,b)⟩:=(rfl)
@[go_sem] theorem a4S (d:Nat) (o:BinOp) (x y g:Nat) (b:Bool):gB d o x y g b=⟨some d,.bin o (.tmp x) (.tmp y),some (g,b)⟩:=(rfl)
@[go_sem] theorem a5U:zI=.int .i64 0:=(rfl)
@[go_sem] theorem a5T:zB=.bool false:=(rfl)
@[go_sem] theorem a5S (r:Rg) (c:aC):sq r c=.seq (.region r) c:=(rfl)
@[go_sem] theorem a4R (r:Rd) (c:aC):dq r c=.seq (.draw r) c:=(rfl)
@[go_sem] theorem a4Q (n:Nat):Tm n=.tmp n:=(rfl)
@[go_sem] theorem a4P (n:Int):Ci n=.const (.int .i64 n):=(rfl)
end Go.PM
namespace Go.PM
open Go
def J8:Rg:=[iT 4 false]
def J9:Rg:=[iM 6 0,iN 7 6,iM 8 1,iN 9 8,iB 10 .neq 7 9]
def aEW:Rg:=[iT 4 false]
def Ka:Rg:=[iI 5 0]
def Kb:Rg:=[iM 11 5,iM 12 0,iN 13 12,iB 14 .lss 11 13]
def Kc:Rd:=[(iM 17 0,false),(iM 18 5,false),(iX 19 1 17 18,false),(iL 20 19,false),(iM 21 1,false),(iM 22 5,false),(iX 23 1 21 22,false),(iL 24 23,false),(iB 25 .neq 20 24,false)]
def aEX:Rg:=[iT 4 false]
def Kd:Rg:=[iM 15 5,iC 16 .add 15 1,iM 5 16]
def J7:aC:=(.seq (sq Kb (.cond (Tm 14) .skip (.exit 0))) (.seq (.block 1 (dq Kc (.cond (Tm 25) (sq aEX .ret) .skip))) (.region Kd)))
def Ke:Rg:=[iT 4 true]
def HM:aC:=(sq J8 (.seq (sq J9 (.cond (Tm 10) (sq aEW .ret) .skip)) (.seq (sq Ka (.block 0 (.loop J7))) (sq Ke .ret))))
def aEY:List Nat:=[]
def G3:aS:=⟨2,26,HM,[.tmp 4]⟩
def atP:Rg:=[iA 0 (.alloc [zI,.aB,.aB,.aB,.aB,.aB,.aB])]
def atQ:Rg:=[iA 2 (.call 27 [(.const .aB),(Ci 1),(Ci 0)]),iA 1 (.alloc [zI,.aB,.aB,.aB,.aB,.aB,.aB]),iS 7 1 2]
def atS:Rg:=[iA 3 (.build [(.str []),zI] [(0,1,(.const (.str [118,48])))]),iA 4 (.a6B true 2 1 [(.str []),zI] [(0,(Tm 3))]),iF 5 6 1,iS 1 5 4]
def atT:Rg:=[iO 6 7 1,iS 7 0 6]
def V8:aC:=(sq atP (sq atQ (sq atS (sq atT .ret))))
def aVV:aS:=⟨0,7,V8,[.cell 0 (some 7)]⟩
def asX:Rg:=[iT 0 false]
def asY:Rg:=[iA 3 (.call 23 []),iA 1 (.alloc [zI,.aB,.aB,.aB,.aB,.aB,.aB]),iS 7 1 3]
def asZ:Rg:=[iO 4 7 1,iA 5 (.a6B true 1 1 [zI] [(0,(Ci (-1)))]),iA 6 (.a6B true 1 1 [.aB] [(0,(Tm 5))]),iA 7 (.call 154 [(Tm 4),(Tm 6),(.const .aB)]),iM 2 7]
def atA:Rg:=[iO 8 7 1,iA 9 (.call 147 [(Tm 8),(Ci 0),(Ci 4)]),iC 10 .eql 9 4,iM 11 10,gO 12 7 1 11 true,iG 13 (.call 149 [(Tm 12),(Ci 0)]) 11 true,gN 14 13 11 true,gC 15 .eql 14 1 11 true,iP 16 11 15,iM 17 16,gM 18 2 17 true,gN 19 18 17 true,gC 20 .eql 19 1 17 true,iP 21 17 20,iM 22 21,gM 23 2 22 true,iG 24 (.a6M 3 (Tm 23) (Ci 0)) 22 true,gO 25 3 24 22 true,iG 26 (.build [zI,zI,zI] [(0,1,(Ci 2))]) 22 true,iG 27 (.eqs false [.int,.int,.int] (Tm 25) (Tm 26)) 22 true,iP 28 22 27,iM 29 28,gO 30 7 1 29 true,iG 31 (.a6B true 1 1 [zI] [(0,(Ci 0))]) 29 true,iG 32 (.a6B true 1 1 [.aB] [(0,(Tm 31))]) 29 true,iG 33 (.call 150 [(Tm 30),(Tm 32),(.const .aB)]) 29 true,iP 34 29 33,iM 35 34,iG 36 (.build [zI,.aB,.aB,.aB,.aB,.aB,.aB] []) 35 true,iG 37 (.call 150 [(Tm 36),(.const .aB),(.const .aB)]) 35 true,iG 38 (.un .not (Tm 37)) 35 true,iP 39 35 38,iM 0 39]
def V5:aC:=(sq asX (sq asY (sq asZ (sq atA .ret))))
def aVP:aS:=⟨0,40,V5,[.tmp 0]⟩
def aGF:Rg:=[iT 4 false]
def aGG:Rg:=[iM 6 0,iN 7 6,iM 8 1,iN 9 8,iB 10 .neq 7 9]
def aGH:Rg:=[iT 4 false]
def aGI:Rg:=[iI 5 0]
def aGJ:Rg:=[iM 11 5,iM 12 0,iN 13 12,iB 14 .lss 11 13]
def aGK:Rd:=[(iM 17 0,false),(iM 18 5,false),(iX 19 3 17 18,false),(iO 20 3 19,false),(iM 21 1,false),(iM 22 5,false),(iX 23 3 21 22,false),(iO 24 3 23,false),(iA 25 (.eqs true [.int,.int,.int] (Tm 20) (Tm 24)),false)]
def aGL:Rg:=[iT 4 false]
def aGM:Rg:=[iM 15 5,iC 16 .add 15 1,iM 5 16]
def aGE:aC:=(.seq (sq aGJ (.cond (Tm 14) .skip (.exit 0))) (.seq (.block 1 (dq aGK (.cond (Tm 25) (sq aGL .ret) .skip))) (.region aGM)))
def aGN:Rg:=[iT 4 true]
def alK:aC:=(sq aGF (.seq (sq aGG (.cond (Tm 10) (sq aGH .ret) .skip)) (.seq (sq aGI (.block 0 (.loop aGE))) (sq aGN .ret))))
def aZY:aS:=⟨2,26,alK,[.tmp 4]⟩
def atF:Rg:=[iT 2 false]
def atG:Rg:=[iM 5 0,iN 6 5,iM 3 6]
def atH:Rg:=[iI 4 0]
def atI:Rg:=[iM 7 4,iM 8 0,iN 9 8,iB 10 .lss 7 9,iM 11 10,gM 12 3 11 true,gC 13 .lss 12 300 11 true,iP 14 11 13]
def atJ:Rg:=[iM 17 3,iM 18 0,iM 19 4,iX 20 1 18 19,iL 21 20,iN 22 21,iB 23 .add 17 22,iM 3 23]
def atK:Rg:=[iM 15 4,iC 16 .add 15 1,iM 4 16]
def atE:aC:=(.seq (sq atI (.cond (Tm 14) .skip (.exit 0))) (.seq (.block 1 (.region atJ)) (.region atK)))
def atL:Rg:=[iM 24 3,iC 25 .geq 24 300,iM 2 25]
def V7:aC:=(sq atF (sq atG (.seq (sq atH (.block 0 (.loop atE))) (sq atL .ret))))
def aVT:aS:=⟨1,26,V7,[.tmp 2]⟩
def alF:Rg:=[iA 6 (.box true (Tm 0)),iT 12 false]
def alG:Rd:=[(iO 13 7 6,false),(iM 14 3,false),(iM 15 4,false),(iA 16 (.call 147 [(Tm 13),(Tm 14),(Tm 15)]),true),(iO 17 7 6,true),(iM 18 3,true),(iM 19 4,true),(iA 20 (.call 78 [(Tm 17),(Tm 18),(Tm 19)]),true),(iB 21 .eql 16 20,false),(iM 22 21,false),(gO 23 7 6 22 true,false),(gM 24 5 22 true,false),(gK2 25 149 23 24 22 true,true),(gO 26 7 6 22 true,true),(gM 27 5 22 true,true),(gK2 28 81 26 27 22 true,true),(gK2 29 94 25 28 22 true,true),(iP 30 22 29,false),(iM 31 30,false),(gO 32 7 6 31 true,false),(gM 33 5 31 true,false),(gK2 34 148 32 33 31 true,true),(gO 35 7 6 31 true,true),(gM 36 5 31 true,true),(gK2 37 79 35 36 31 true,true),(gK2 38 94 34 37 31 true,true),(iP 39 31 38,false),(iM 40 39,false),(gO 41 7 6 40 true,false),(gM 42 1 40 true,false),(gK2 43 151 41 42 40 true,true),(gO 44 7 6 40 true,true),(gM 45 1 40 true,true),(gK2 46 84 44 45 40 true,true),(gK2 47 94 43 46 40 true,true),(iP 48 40 47,false),(iM 49 48,false),(gO 50 7 6 49 true,false),(gM 51 2 49 true,false),(gK2 52 152 50 51 49 true,true),(gO 53 7 6 49 true,true),(gM 54 2 49 true,true),(gK2 55 85 53 54 49 true,true),(gK2 56 94 52 55 49 true,true),(iP 57 49 56,false),(iM 58 57,false),(gO 59 7 6 58 true,false),(gM 60 1 58 true,false),(gK2 61 153 59 60 58 true,true),(gO 62 7 6 58 true,true),(gM 63 1 58 true,true),(gK2 64 86 62 63 58 true,true),(iG 65 (.eqb false (Tm 61) (Tm 64)) 58 true,false),(iP 66 58 65,false),(iM 67 66,false),(gO 68 7 6 67 true,false),(gM 69 1 67 true,false),(gM 70 2 67 true,false),(iG 71 (.call 154 [(Tm 68),(Tm 69),(Tm 70)]) 67 true,true),(gO 72 7 6 67 true,true),(gM 73 1 67 true,true),(gM 74 2 67 true,true),(iG 75 (.call 87 [(Tm 72),(Tm 73),(Tm 74)]) 67 true,true),(gK2 76 22 71 75 67 true,true),(iP 77 67 76,false),(iM 78 77,false),(gO 79 7 6 78 true,false),(gM 80 1 78 true,false),(gM 81 2 78 true,false),(iG 82 (.call 150 [(Tm 79),(Tm 80),(Tm 81)]) 78 true,true),(gO 83 7 6 78 true,true),(gM 84 1 78 true,true),(gM 85 2 78 true,true),(iG 86 (.call 83 [(Tm 83),(Tm 84),(Tm 85)]) 78 true,true),(iG 87 (.eqb false (Tm 82) (Tm 86)) 78 true,false),(iP 88 78 87,false),(iM 12 88,false)]
def Nw:aC:=(sq alF (dq alG .ret))
def aPZ:aS:=⟨6,89,Nw,[.tmp 12]⟩
def asR:Rg:=[iZ 2]
def asS:Rg:=[iM 4 0,iA 5 (.call 0 [(Tm 4),(Ci 8),(Ci 4)]),iA 3 (.alloc [zI,.aB,.aB,.aB,.aB,.aB,.aB]),iS 7 3 5]
def asT:Rg:=[iM 6 0,iO 7 7 3,iK2 8 3 6 7]
def asU:Rg:=[iM 9 0,iO 10 7 3,iK2 11 6 9 10,iM 2 11]
def V4:aC:=(sq asR (sq asS (sq asT (sq asU .ret))))
def aVE:aS:=⟨1,12,V4,[.tmp 2]⟩
def JT:Rg:=[iI 2 0]
def JU:Rg:=[iM 4 0,iN 5 4,iM 3 5]
def JV:Rg:=[iM 6 3,iC 7 .gtr 6 0,iM 8 7,gM 9 0 8 true,gM 10 3 8 true,gC 11 .sub 10 1 8 true,iG 12 (.a6M 1 (Tm 9) (Tm 11)) 8 true,gL 13 12 8 true,iG 14 (.bin .eql (Tm 13) (.const (.int .u32 0))) 8 true,iP 15 8 14]
def JW:Rg:=[iM 16 3,iC 17 .sub 16 1,iM 3 17]
def JS:aC:=(.seq (sq JV (.cond (Tm 15) .skip (.exit 0))) (.block 1 (.region JW)))
def tA:Rg:=[iM 18 3,iM 2 18]
def pK:aC:=(sq JT (sq JU (.seq (.block 0 (.loop JS)) (sq tA .ret))))
def amS:List Nat:=[]
def yL:aS:=⟨1,19,pK,[.tmp 2]⟩
def Bn:Rg:=[iT 2 false]
def Bo:Rg:=[iM 3 0,iK 4 138 3,iC 5 .gtr 4 512,iM 2 5]
def DO:aC:=(sq Bn (sq Bo .ret))
def auH:List Nat:=[]
def l9:aS:=⟨1,6,DO,[.tmp 2]⟩
def B6:Rg:=[iZ 2,iI 3 0]
def B7:Rg:=[iM 5 0,iK 6 138 5,iM 4 6]
def B8:Rg:=[iM 7 4,iC 8 .gtr 7 512]
def B9:Rg:=[iZ 2,iI 3 2]
def Ca:Rg:=[iM 9 0,iM 10 4,iM 11 4,iA 12 (.slice 1 (Tm 9) none (some (Tm 10)) (some (Tm 11))),iM 2 12,iI 3 0]
def DQ:aC:=(sq B6 (sq B7 (.seq (sq B8 (.cond (Tm 8) (sq B9 .ret) .skip)) (sq Ca .ret))))
def auK:List Nat:=[]
def mf:aS:=⟨1,13,DQ,[.tmp 2,.tmp 3]⟩
def Qb:Rg:=[iZ 2]
def Qc:Rg:=[iM 4 0,iA 5 (.conv .u32 (Tm 4)),iM 6 0,iA 7 (.bin .shr (Tm 6) (.const (.int .u64 32))),iA 8 (.conv .u32 (Tm 7)),iA 9 (.a6B true 1 2 [(.int .u32 0)] [(0,(Tm 5)),(1,(Tm 8))]),iM 3 9]
def Qd:Rg:=[iM 10 3,iM 11 3,iK 12 138 11,iA 13 (.slice 1 (Tm 10) none (some (Tm 12)) none),iM 2 13]
def JX:aC:=(sq Qb (sq Qc (sq Qd .ret)))
def aHM:List Nat:=[9]
def Hg:aS:=⟨1,14,JX,[.tmp 2]⟩
def Qz:Rg:=[iZ 2]
def Q1:Rg:=[iM 3 0,iM 4 0,iK 5 138 4,iA 6 (.slice 1 (Tm 3) none (some (Tm 5)) none),iA 7 (.append 1 4 (.const .aB) (Tm 6)),iM 2 7]
def KB:aC:=(sq Qz (sq Q1 .ret))
def aHQ:List Nat:=[]
def Hi:aS:=⟨1,8,KB,[.tmp 2]⟩
def abX:Rg:=[iI 4 0]
def abY:Rg:=[iM 8 0,iK 9 138 8,iM 10 1,iK 11 138 10,iM 5 9,iM 6 11]
def abZ:Rg:=[iM 13 5,iM 14 6,iB 15 .lss 13 14,iM 12 15]
def acA:Rg:=[iI 4 (-1)]
def acB:Rg:=[iM 17 5,iM 18 6,iB 19 .gtr 17 18,iM 16 19]
def acC:Rg:=[iI 4 1]
def acD:Rg:=[iM 20 5,iC 21 .sub 20 1,iM 7 21]
def acE:Rg:=[iM 22 7,iC 23 .geq 22 0]
def acF:Rd:=[(iM 27 0,false),(iM 28 7,false),(iX 29 1 27 28,false),(iL 30 29,false),(iM 31 1,false),(iM 32 7,false),(iX 33 1 31 32,false),(iL 34 33,false),(iB 35 .lss 30 34,false),(iM 26 35,false)]
def acG:Rg:=[iI 4 (-1)]
def P0:Rd:=[(iM 37 0,false),(iM 38 7,false),(iX 39 1 37 38,false),(iL 40 39,false),(iM 41 1,false),(iM 42 7,false),(iX 43 1 41 42,false),(iL 44 43,false),(iB 45 .gtr 40 44,false),(iM 36 45,false)]
def P1:Rg:=[iI 4 1]
def P2:Rg:=[iM 24 7,iC 25 .sub 24 1,iM 7 25]
def Pz:aC:=(.seq (sq acE (.cond (Tm 23) .skip (.exit 1))) (.seq (.block 2 (.block 3 (dq acF (.cond (Tm 26) (sq acG .ret) (dq P0 (.cond (Tm 36) (sq P1 .ret) .skip)))))) (.region P2)))
def P3:Rg:=[iI 4 0]
def QX:aC:=(sq abX (sq abY (.seq (.block 0 (sq abZ (.cond (Tm 12) (sq acA .ret) (sq acB (.cond (Tm 16) (sq acC .ret) .skip))))) (.seq (sq acD (.block 1 (.loop Pz))) (sq P3 .ret)))))
def aQR:List Nat:=[]
def amI:aS:=⟨2,46,QX,[.tmp 4]⟩
def abQ:Rg:=[iZ 4,iI 5 0]
def abR:Rg:=[iM 9 0,iK 10 137 9,iM 11 10,gM 12 1 11 false,gK 13 137 12 11 false,iQ 14 11 13]
def vf:Rg:=[iZ 4,iI 5 2]
def abS:Rd:=[(iM 15 0,true),(iM 16 0,false),(iK 17 138 16,true),(iA 18 (.slice 1 (Tm 15) none (some (Tm 17)) none),true),(iM 19 1,true),(iM 20 1,true),(iK 21 138 20,true),(iA 22 (.slice 1 (Tm 19) none (some (Tm 21)) none),false),(iM 0 18,false),(iM 1 22,false)]
def abT:Rg:=[iM 23 0,iN 24 23,iM 25 1,iN 26 25,iB 27 .lss 24 26]
def abU:Rg:=[iM 28 1,iM 29 0,iM 0 28,iM 1 29]
def vh:Rg:=[iM 30 0,iN 31 30,iC 32 .add 31 1,iA 33 (.a6D 1 4 [(.int .u32 0)] (Tm 32) (Tm 32)),iM 6 33]
def vi:Rg:=[iA 7 (.mv (.const (.int .u64 0)))]
def vj:Rg:=[iM 34 0,iN 35 34,iI 36 0]
def abV:Rg:=[iB 37 .lss 36 35]
def Pf:Rg:=[iM 38 36,iM 8 38]
def Pg:Rg:=[iM 39 7,iM 40 0,iM 41 8,iX 42 1 40 41,iL 43 42,iA 44 (.conv .u64 (Tm 43)),iB 45 .add 39 44,iM 7 45]
def Ph:Rg:=[iM 46 8,iM 47 1,iN 48 47,iB 49 .lss 46 48]
def Pi:Rg:=[iM 50 7,iM 51 1,iM 52 8,iX 53 1 51 52,iL 54 53,iA 55 (.conv .u64 (Tm 54)),iB 56 .add 50 55,iM 7 56]
def ce:Rg:=[iM 57 6,iM 58 8,iM 59 7,iA 60 (.conv .u32 (Tm 59)),iX 61 1 57 58,iS 1 61 60]
def cf:Rg:=[iM 62 7,iA 63 (.bin .shr (Tm 62) (.const (.int .u64 32))),iM 7 63]
def cg:Rg:=[iC 64 .add 36 1,iM 36 64]
def cd:aC:=(sq abV (.seq (.cond (Tm 37) .skip (.exit 0)) (.seq (.block 1 (sq Pf (sq Pg (.seq (sq Ph (.cond (Tm 49) (.region Pi) .skip)) (sq ce (.region cf)))))) (.region cg))))
def ch:Rg:=[iM 65 6,iM 66 0,iN 67 66,iM 68 7,iA 69 (.conv .u32 (Tm 68)),iX 70 1 65 67,iS 1 70 69]
def ci:Rg:=[iM 71 6,iK 72 141 71,iE 73 72 0,iE 74 72 1,iM 4 73,iM 5 74]
def QW:aC:=(sq abQ (.seq (sq abR (.cond (Tm 14) (sq vf .ret) .skip)) (dq abS (.seq (sq abT (.cond (Tm 27) (.region abU) .skip)) (sq vh (sq vi (.seq (sq vj (.block 0 (.loop cd))) (sq ch (sq ci .ret)))))))))
def aQP:List Nat:=[]
def amG:aS:=⟨2,75,QW,[.tmp 4,.tmp 5]⟩
def adD:Rg:=[iZ 4,iI 5 0]
def adE:Rg:=[iM 11 0,iK 12 137 11,iM 13 12,gM 14 1 13 false,gK 15 137 14 13 false,iQ 16 13 15,iM 10 16]
def v6:Rg:=[iZ 4,iI 5 2]
def adF:Rg:=[iM 18 0,iM 19 1,iK2 20 129 18 19,iC 21 .lss 20 0,iM 17 21]
def adG:Rg:=[iZ 4,iI 5 4]
def adH:Rd:=[(iM 22 0,true),(iM 23 0,false),(iK 24 138 23,true),(iA 25 (.slice 1 (Tm 22) none (some (Tm 24)) none),true),(iM 26 1,true),(iM 27 1,true),(iK 28 138 27,true),(iA 29 (.slice 1 (Tm 26) none (some (Tm 28)) none),false),(iM 0 25,false),(iM 1 29,false)]
def v7:Rg:=[iM 30 0,iN 31 30,iA 32 (.a6D 1 4 [(.int .u32 0)] (Tm 31) (Tm 31)),iM 6 32]
def v8:Rg:=[iA 7 (.mv (.const (.int .u64 0)))]
def wa:Rg:=[iM 33 0,iN 34 33,iI 35 0]
def adI:Rg:=[iB 36 .lss 35 34]
def Qs:Rg:=[iM 37 35,iM 8 37]
def Qt:Rg:=[iM 38 0,iM 39 8,iX 40 1 38 39,iL 41 40,iA 42 (.conv .u64 (Tm 41)),iM 43 7,iB 44 .sub 42 43,iM 9 44]
def Qu:Rg:=[iM 45 8,iM 46 1,iN 47 46,iB 48 .lss 45 47]
def Qv:Rg:=[iM 49 9,iM 50 1,iM 51 8,iX 52 1 50 51,iL 53 52,iA 54 (.conv .u64 (Tm 53)),iB 55 .sub 49 54,iM 9 55]
def cu:Rg:=[iM 56 6,iM 57 8,iM 58 9,iA 59 (.conv .u32 (Tm 58)),iX 60 1 56 57,iS 1 60 59]
def cv:Rg:=[iM 61 9,iA 62 (.bin .shr (Tm 61) (.const (.int .u64 63))),iM 7 62]
def cw:Rg:=[iC 63 .add 35 1,iM 35 63]
def cr:aC:=(sq adI (.seq (.cond (Tm 36) .skip (.exit 1)) (.seq (.block 2 (sq Qs (sq Qt (.seq (sq Qu (.cond (Tm 48) (.region Qv) .skip)) (sq cu (.region cv)))))) (.region cw))))
def cx:Rg:=[iM 64 6,iK 65 141 64,iE 66 65 0,iE 67 65 1,iM 4 66,iM 5 67]
def RG:aC:=(sq adD (.seq (.block 0 (sq adE (.cond (Tm 10) (sq v6 .ret) (sq adF (.cond (Tm 17) (sq adG .ret) .skip))))) (dq adH (sq v7 (sq v8 (.seq (sq wa (.block 1 (.loop cr))) (sq cx .ret)))))))
def aQW:List Nat:=[]
def amV:aS:=⟨2,68,RG,[.tmp 4,.tmp 5]⟩
def acY:Rg:=[iZ 4,iI 5 0]
def acZ:Rg:=[iM 12 0,iK 13 137 12,iM 14 13,gM 15 1 14 false,gK 16 137 15 14 false,iQ 17 14 16]
def vp:Rg:=[iZ 4,iI 5 2]
def adA:Rd:=[(iM 18 0,true),(iM 19 0,false),(iK 20 138 19,true),(iA 21 (.slice 1 (Tm 18) none (some (Tm 20)) none),true),(iM 22 1,true),(iM 23 1,true),(iK 24 138 23,true),(iA 25 (.slice 1 (Tm 22) none (some (Tm 24)) none),false),(iM 0 21,false),(iM 1 25,false)]
def vq:Rg:=[iM 26 0,iN 27 26,iM 28 1,iN 29 28,iB 30 .add 27 29,iA 31 (.a6D 1 4 [(.int .u32 0)] (Tm 30) (Tm 30)),iM 6 31]
def vr:Rg:=[iM 32 0,iN 33 32,iI 34 0]
def adB:Rg:=[iB 35 .lss 34 33]
def vt:Rg:=[iM 36 34,iX 37 1 32 34,iL 38 37,iM 7 36,iM 8 38]
def vu:Rg:=[iA 9 (.mv (.const (.int .u64 0)))]
def vw:Rg:=[iM 39 1,iN 40 39,iI 41 0]
def Qe:Rg:=[iB 42 .lss 41 40]
def Qf:Rg:=[iM 43 41,iX 44 1 39 41,iL 45 44,iM 10 43,iM 11 45]
def Qg:Rg:=[iM 46 9,iM 47 8,iA 48 (.conv .u64 (Tm 47)),iM 49 11,iA 50 (.conv .u64 (Tm 49)),iB 51 .mul 48 50,iM 52 6,iM 53 7,iM 54 10,iB 55 .add 53 54,iX 56 1 52 55,iL 57 56,iA 58 (.conv .u64 (Tm 57)),iB 59 .add 51 58,iB 60 .add 46 59,iM 9 60]
def Qh:Rg:=[iM 61 6,iM 62 7,iM 63 10,iB 64 .add 62 63,iM 65 9,iA 66 (.conv .u32 (Tm 65)),iX 67 1 61 64,iS 1 67 66]
def Qi:Rg:=[iM 68 9,iA 69 (.bin .shr (Tm 68) (.const (.int .u64 32))),iM 9 69]
def Qj:Rg:=[iC 70 .add 41 1,iM 41 70]
def ck:aC:=(sq Qe (.seq (.cond (Tm 42) .skip (.exit 2)) (.seq (.block 3 (sq Qf (sq Qg (sq Qh (.region Qi))))) (.region Qj))))
def cn:Rg:=[iM 71 6,iM 72 7,iM 73 1,iN 74 73,iB 75 .add 72 74,iM 76 9,iA 77 (.conv .u32 (Tm 76)),iX 78 1 71 75,iS 1 78 77]
def Qk:Rg:=[iC 79 .add 34 1,iM 34 79]
def cl:aC:=(sq adB (.seq (.cond (Tm 35) .skip (.exit 0)) (.seq (.block 1 (sq vt (sq vu (.seq (sq vw (.block 2 (.loop ck))) (.region cn))))) (.region Qk))))
def cp:Rg:=[iM 80 6,iK 81 141 80,iE 82 81 0,iE 83 81 1,iM 4 82,iM 5 83]
def RC:aC:=(sq acY (.seq (sq acZ (.cond (Tm 17) (sq vp .ret) .skip)) (dq adA (sq vq (.seq (sq vr (.block 0 (.loop cl))) (sq cp .ret))))))
def aQV:List Nat:=[]
def amT:aS:=⟨2,84,RC,[.tmp 4,.tmp 5]⟩
def Pp:Rg:=[iI 2 0]
def Pq:Rg:=[iM 6 0,iK 7 138 6,iM 3 7]
def Ps:Rg:=[iM 8 3,iC 9 .eql 8 0]
def Pt:Rg:=[iI 2 0]
def Pu:Rg:=[iM 10 3,iC 11 .sub 10 1,iC 12 .mul 11 32,iM 4 12]
def Pv:Rg:=[iM 13 0,iM 14 3,iC 15 .sub 14 1,iX 16 1 13 15,iL 17 16,iM 5 17]
def Pw:Rg:=[iM 18 5,iA 19 (.bin .gtr (Tm 18) (.const (.int .u32 0)))]
def Px:Rg:=[iM 22 4,iC 23 .add 22 1,iM 4 23]
def Py:Rg:=[iM 20 5,iA 21 (.bin .shr (Tm 20) (.const (.int .u64 1))),iM 5 21]
def Pn:aC:=(.seq (sq Pw (.cond (Tm 19) .skip (.exit 0))) (.seq (.block 1 (.region Px)) (.region Py)))
def Bi:Rg:=[iM 24 4,iM 2 24]
def JQ:aC:=(sq Pp (sq Pq (.seq (sq Ps (.cond (Tm 9) (sq Pt .ret) .skip)) (sq Pu (.seq (sq Pv (.block 0 (.loop Pn))) (sq Bi .ret))))))
def aHL:List Nat:=[]
def Hf:aS:=⟨1,25,JQ,[.tmp 2]⟩
def acQ:Rg:=[iZ 4,iI 5 0]
def acR:Rg:=[iM 8 0,iK 9 137 8,iM 10 9,gM 11 1 10 false,gK 12 137 11 10 false,iQ 13 10 12]
def vn:Rg:=[iZ 4,iI 5 2]
def acS:Rg:=[iM 14 0,iK 15 135 14,iM 16 1,iK 17 135 16,iM 0 15,iM 1 17]
def acT:Rg:=[iM 18 1,iN 19 18,iC 20 .gtr 19 0]
def acU:Rg:=[iM 22 0,iM 23 1,iK2 24 136 22 23,iM 21 24,iE 25 21 0,iE 26 21 1,iM 6 25,iM 7 26]
def acV:Rg:=[iM 27 1,iM 28 7,iM 0 27,iM 1 28]
def acO:aC:=(.seq (sq acT (.cond (Tm 20) .skip (.exit 0))) (.block 1 (sq acU (.region acV))))
def acW:Rg:=[iM 29 0,iM 4 29,iI 5 0]
def RB:aC:=(sq acQ (.seq (sq acR (.cond (Tm 13) (sq vn .ret) .skip)) (sq acS (.seq (.block 0 (.loop acO)) (sq acW .ret)))))
def aQU:List Nat:=[]
def amP:aS:=⟨2,30,RB,[.tmp 4,.tmp 5]⟩
def acI:Rg:=[iZ 4,iZ 5,iI 6 0]
def acJ:Rg:=[iM 10 0,iK 11 137 10,iM 12 11,gM 13 1 12 false,gK 14 137 13 12 false,iQ 15 12 14,iM 9 15]
def vm:Rg:=[iZ 4,iZ 5,iI 6 2]
def acK:Rg:=[iM 17 1,iK 18 138 17,iC 19 .eql 18 0,iM 16 19]
def acL:Rg:=[iZ 4,iZ 5,iI 6 3]
def acM:Rd:=[(iM 21 0,true),(iM 22 0,false),(iK 23 138 22,true),(iA 24 (.slice 1 (Tm 21) none (some (Tm 23)) none),true),(iM 25 1,true),(iM 26 1,true),(iK 27 138 26,true),(iA 28 (.slice 1 (Tm 25) none (some (Tm 27)) none),false),(iK2 29 136 24 28,true),(iM 20 29,false),(iE 30 20 0,false),(iE 31 20 1,false),(iM 7 30,false),(iM 8 31,false)]
def acN:Rg:=[iM 32 7,iM 33 8,iM 4 32,iM 5 33,iI 6 0]
def QZ:aC:=(sq acI (.seq (.block 0 (sq acJ (.cond (Tm 9) (sq vm .ret) (sq acK (.cond (Tm 16) (sq acL .ret) .skip))))) (dq acM (sq acN .ret))))
def aQS:List Nat:=[]
def amK:aS:=⟨2,34,QZ,[.tmp 4,.tmp 5,.tmp 6]⟩
def Bs:Rg:=[iZ 4,iA 5 (.mv (.const (.int .u32 0)))]
def Bt:Rg:=[iM 9 0,iN 10 9,iA 11 (.a6D 1 4 [(.int .u32 0)] (Tm 10) (Tm 10)),iM 6 11]
def Bu:Rg:=[iA 7 (.mv (.const (.int .u64 0)))]
def Bv:Rg:=[iM 12 0,iN 13 12,iC 14 .sub 13 1,iM 8 14]
def Bw:Rg:=[iM 15 8,iC 16 .geq 15 0]
def Bx:Rg:=[iM 19 7,iA 20 (.bin .shl (Tm 19) (.const (.int .u64 32))),iM 21 0,iM 22 8,iX 23 1 21 22,iL 24 23,iA 25 (.conv .u64 (Tm 24)),iB 26 .or 20 25,iM 7 26]
def By:Rg:=[iM 27 6,iM 28 8,iM 29 7,iM 30 1,iA 31 (.conv .u64 (Tm 30)),iB 32 .quo 29 31,iA 33 (.conv .u32 (Tm 32)),iX 34 1 27 28,iS 1 34 33]
def Bz:Rg:=[iM 35 7,iM 36 1,iA 37 (.conv .u64 (Tm 36)),iB 38 .rem 35 37,iM 7 38]
def B0:Rg:=[iM 17 8,iC 18 .sub 17 1,iM 8 18]
def Bq:aC:=(.seq (sq Bw (.cond (Tm 16) .skip (.exit 0))) (.seq (.block 1 (sq Bx (sq By (.region Bz)))) (.region B0)))
def me:Rg:=[iM 39 6,iM 40 6,iK 41 138 40,iA 42 (.slice 1 (Tm 39) none (some (Tm 41)) none),iM 43 7,iA 44 (.conv .u32 (Tm 43)),iM 4 42,iM 5 44]
def DP:aC:=(sq Bs (sq Bt (sq Bu (.seq (sq Bv (.block 0 (.loop Bq))) (sq me .ret)))))
def auJ:List Nat:=[]
def mb:aS:=⟨2,45,DP,[.tmp 4,.tmp 5]⟩
def auN:Rg:=[iZ 4]
def auO:Rg:=[iM 9 0,iN 10 9,iC 11 .add 10 1,iA 12 (.a6D 1 4 [(.int .u32 0)] (Tm 11) (Tm 11)),iM 5 12]
def auP:Rg:=[iA 6 (.mv (.const (.int .u64 0)))]
def auQ:Rg:=[iM 13 0,iN 14 13,iI 15 0]
def auR:Rg:=[iB 16 .lss 15 14]
def auS:Rg:=[iM 17 15,iX 18 1 13 15,iL 19 18,iM 7 17,iM 8 19]
def auT:Rg:=[iM 20 6,iM 21 8,iA 22 (.conv .u64 (Tm 21)),iM 23 1,iB 24 .shl 22 23,iB 25 .or 20 24,iM 6 25]
def auU:Rg:=[iM 26 5,iM 27 7,iM 28 6,iA 29 (.conv .u32 (Tm 28)),iX 30 1 26 27,iS 1 30 29]
def auV:Rg:=[iM 31 6,iA 32 (.bin .shr (Tm 31) (.const (.int .u64 32))),iM 6 32]
def auW:Rg:=[iC 33 .add 15 1,iM 15 33]
def adJ:aC:=(sq auR (.seq (.cond (Tm 16) .skip (.exit 0)) (.seq (.block 1 (sq auS (sq auT (sq auU (.region auV))))) (.region auW))))
def adK:Rg:=[iM 34 5,iM 35 0,iN 36 35,iM 37 6,iA 38 (.conv .u32 (Tm 37)),iX 39 1 34 36,iS 1 39 38]
def adL:Rg:=[iM 40 5,iM 4 40]
def cy:aC:=(sq auN (sq auO (sq auP (.seq (sq auQ (.block 0 (.loop adJ))) (sq adK (sq adL .ret))))))
def aWA:List Nat:=[]
def nup:aS:=⟨2,41,cy,[.tmp 4]⟩
def lx:Rg:=[iZ 4,iZ 5]
def ly:Rg:=[iM 21 0,iM 22 1,iK2 23 129 21 22,iC 24 .lss 23 0]
def lz:Rg:=[iM 25 0,iK 26 135 25,iZ 4,iM 5 26]
def l2:Rg:=[iM 27 1,iN 28 27,iC 29 .eql 28 1]
def l3:Rg:=[iM 31 0,iM 32 1,iA 33 (.a6M 1 (Tm 32) (Ci 0)),iL 34 33,iK2 35 140 31 34,iM 30 35,iE 36 30 0,iE 37 30 1,iM 6 36,iM 7 37]
def l4:Rg:=[iM 38 6,iM 39 7,iA 40 (.conv .u64 (Tm 39)),iK 41 132 40,iM 4 38,iM 5 41]
def l5:Rg:=[iA 8 (.mv (.const (.int .u64 0)))]
def l6:Rg:=[iM 42 1,iM 43 1,iN 44 43,iC 45 .sub 44 1,iX 46 1 42 45,iL 47 46,iM 48 8,iB 49 .shl 47 48,iA 50 (.bin .lss (Tm 49) (.const (.int .u32 2147483648)))]
def l7:Rg:=[iM 51 8,iA 52 (.bin .add (Tm 51) (.const (.int .u64 1))),iM 8 52]
def lm:aC:=(.seq (sq l6 (.cond (Tm 50) .skip (.exit 0))) (.block 1 (.region l7)))
def WL:Rd:=[(iM 53 0,false),(iM 54 8,false),(iK2 55 143 53 54,true),(iM 56 1,true),(iM 57 8,true),(iK2 58 143 56 57,true),(iM 59 1,true),(iN 60 59,true),(iA 61 (.slice 1 (Tm 58) none (some (Tm 60)) none),false),(iM 9 55,false),(iM 10 61,false)]
def WM:Rg:=[iM 62 10,iN 63 62,iM 11 63]
def WN:Rg:=[iM 64 9,iN 65 64,iM 66 11,iB 67 .sub 65 66,iA 68 (.a6D 1 4 [(.int .u32 0)] (Tm 67) (Tm 67)),iM 12 68]
def WO:Rd:=[(iM 69 10,false),(iM 70 11,false),(iC 71 .sub 70 1,false),(iX 72 1 69 71,false),(iL 73 72,false),(iA 74 (.conv .u64 (Tm 73)),false),(iM 75 10,false),(iM 76 11,false),(iC 77 .sub 76 2,false),(iX 78 1 75 77,false),(iL 79 78,false),(iA 80 (.conv .u64 (Tm 79)),false),(iM 13 74,false),(iM 14 80,false)]
def WP:Rg:=[iM 81 12,iN 82 81,iC 83 .sub 82 1,iM 15 83]
def WQ:Rg:=[iM 84 15,iC 85 .geq 84 0]
def DD:Rd:=[(iM 88 9,false),(iM 89 15,false),(iM 90 11,false),(iB 91 .add 89 90,false),(iX 92 1 88 91,false),(iL 93 92,false),(iA 94 (.conv .u64 (Tm 93)),false),(iA 95 (.bin .shl (Tm 94) (.const (.int .u64 32))),false),(iM 96 9,false),(iM 97 15,false),(iM 98 11,false),(iB 99 .add 97 98,false),(iC 100 .sub 99 1,false),(iX 101 1 96 100,false),(iL 102 101,false),(iA 103 (.conv .u64 (Tm 102)),false),(iB 104 .or 95 103,false),(iM 16 104,false)]
def DE:Rd:=[(iM 105 16,false),(iM 106 13,false),(iB 107 .quo 105 106,false),(iM 108 16,false),(iM 109 13,false),(iB 110 .rem 108 109,false),(iM 17 107,false),(iM 18 110,false)]
def WR:Rg:=[iM 111 17,iA 112 (.bin .geq (Tm 111) (.const (.int .u64 4294967296))),iM 113 112,gM 114 17 113 false,gM 115 14 113 false,gB 116 .mul 114 115 113 false,gM 117 18 113 false,iG 118 (.bin .shl (Tm 117) (.const (.int .u64 32))) 113 false,gM 119 9 113 false,gM 120 15 113 false,gM 121 11 113 false,gB 122 .add 120 121 113 false,gC 123 .sub 122 2 113 false,iG 124 (.a6M 1 (Tm 119) (Tm 123)) 113 false,gL 125 124 113 false,iG 126 (.conv .u64 (Tm 125)) 113 false,gB 127 .or 118 126 113 false,gB 128 .gtr 116 127 113 false,iQ 129 113 128]
def DF:Rg:=[iM 130 17,iA 131 (.bin .sub (Tm 130) (.const (.int .u64 1))),iM 17 131]
def DG:Rg:=[iM 132 18,iM 133 13,iB 134 .add 132 133,iM 18 134]
def DH:Rg:=[iM 135 18,iA 136 (.bin .geq (Tm 135) (.const (.int .u64 4294967296)))]
def uY:aC:=(.seq (sq WR (.cond (Tm 129) .skip (.exit 4))) (.block 5 (sq DF (sq DG (sq DH (.cond (Tm 136) (.exit 4) .skip))))))
def DI:Rg:=[iM 137 9,iM 138 15,iM 139 15,iM 140 11,iB 141 .add 139 140,iC 142 .add 141 1,iA 143 (.slice 1 (Tm 137) (some (Tm 138)) (some (Tm 142)) none),iM 144 10,iM 145 17,iA 146 (.call 142 [(Tm 143),(Tm 144),(Tm 145)])]
def DJ:Rg:=[iM 147 17,iA 148 (.bin .sub (Tm 147) (.const (.int .u64 1))),iM 17 148]
def DK:Rg:=[iM 149 9,iM 150 15,iM 151 15,iM 152 11,iB 153 .add 151 152,iC 154 .add 153 1,iA 155 (.slice 1 (Tm 149) (some (Tm 150)) (some (Tm 154)) none),iM 156 10,iK2 157 139 155 156]
def uZ:Rg:=[iM 158 12,iM 159 15,iM 160 17,iA 161 (.conv .u32 (Tm 160)),iX 162 1 158 159,iS 1 162 161]
def WS:Rg:=[iM 86 15,iC 87 .sub 86 1,iM 15 87]
def DB:aC:=(.seq (sq WQ (.cond (Tm 85) .skip (.exit 2))) (.seq (.block 3 (dq DD (dq DE (.seq (.block 4 (.loop uY)) (.seq (sq DI (.cond (Tm 146) (sq DJ (.region DK)) .skip)) (.region uZ)))))) (.region WS)))
def DL:Rg:=[iM 163 11,iA 164 (.a6D 1 4 [(.int .u32 0)] (Tm 163) (Tm 163)),iM 19 164]
def DM:Rg:=[iM 165 19,iN 166 165,iI 167 0]
def WT:Rg:=[iB 168 .lss 167 166]
def WU:Rg:=[iM 169 167,iM 20 169]
def WV:Rd:=[(iM 170 19,false),(iM 171 20,false),(iM 172 9,false),(iM 173 20,false),(iC 174 .add 173 1,false),(iX 175 1 172 174,false),(iL 176 175,false),(iA 177 (.conv .u64 (Tm 176)),false),(iA 178 (.bin .shl (Tm 177) (.const (.int .u64 32))),false),(iM 179 9,false),(iM 180 20,false),(iX 181 1 179 180,false),(iL 182 181,false),(iA 183 (.conv .u64 (Tm 182)),false),(iB 184 .or 178 183,false),(iM 185 8,false),(iB 186 .shr 184 185,false),(iA 187 (.conv .u32 (Tm 186)),false),(iX 188 1 170 171,false),(iS 1 188 187,true)]
def WW:Rg:=[iC 189 .add 167 1,iM 167 189]
def DC:aC:=(sq WT (.seq (.cond (Tm 168) .skip (.exit 6)) (.seq (.block 7 (sq WU (.draw WV))) (.region WW))))
def WX:Rd:=[(iM 190 12,true),(iM 191 12,false),(iK 192 138 191,true),(iA 193 (.slice 1 (Tm 190) none (some (Tm 192)) none),true),(iM 194 19,true),(iM 195 19,true),(iK 196 138 195,true),(iA 197 (.slice 1 (Tm 194) none (some (Tm 196)) none),false),(iM 4 193,false),(iM 5 197,false)]
def zS:aC:=(sq lx (.seq (sq ly (.cond (Tm 24) (sq lz .ret) .skip)) (.seq (sq l2 (.cond (Tm 29) (sq l3 (sq l4 .ret)) .skip)) (sq l5 (.seq (.block 0 (.loop lm)) (dq WL (sq WM (sq WN (dq WO (.seq (sq WP (.block 2 (.loop DB))) (sq DL (.seq (sq DM (.block 6 (.loop DC))) (dq WX .ret)))))))))))))
def amN:List Nat:=[]
def VC:aS:=⟨2,198,zS,[.tmp 4,.tmp 5]⟩
def RI:Rg:=[iT 6 false]
def RJ:Rg:=[iA 7 (.mv (.const (.int .u64 0))),iA 8 (.mv (.const (.int .u64 0)))]
def RK:Rg:=[iM 13 1,iN 14 13,iI 15 0]
def RL:Rg:=[iB 16 .lss 15 14]
def RM:Rg:=[iM 17 15,iX 18 1 13 15,iL 19 18,iM 9 17,iM 10 19]
def RN:Rg:=[iM 20 7,iM 21 2,iM 22 10,iA 23 (.conv .u64 (Tm 22)),iB 24 .mul 21 23,iB 25 .add 20 24,iM 7 25]
def RP:Rg:=[iM 26 0,iM 27 9,iX 28 1 26 27,iL 29 28,iA 30 (.conv .u64 (Tm 29)),iM 31 7,iA 32 (.bin .and (Tm 31) (.const (.int .u64 4294967295))),iB 33 .sub 30 32,iM 34 8,iB 35 .sub 33 34,iM 11 35]
def RQ:Rg:=[iM 36 0,iM 37 9,iM 38 11,iA 39 (.conv .u32 (Tm 38)),iX 40 1 36 37,iS 1 40 39]
def RR:Rg:=[iM 41 11,iA 42 (.bin .shr (Tm 41) (.const (.int .u64 63))),iM 8 42]
def RS:Rg:=[iM 43 7,iA 44 (.bin .shr (Tm 43) (.const (.int .u64 32))),iM 7 44]
def NS:Rg:=[iC 45 .add 15 1,iM 15 45]
def NR:aC:=(sq RL (.seq (.cond (Tm 16) .skip (.exit 0)) (.seq (.block 1 (sq RM (sq RN (sq RP (sq RQ (sq RR (.region RS))))))) (.region NS))))
def NT:Rg:=[iM 46 0,iM 47 1,iN 48 47,iX 49 1 46 48,iL 50 49,iA 51 (.conv .u64 (Tm 50)),iM 52 7,iB 53 .sub 51 52,iM 54 8,iB 55 .sub 53 54,iM 12 55]
def NU:Rg:=[iM 56 0,iM 57 1,iN 58 57,iM 59 12,iA 60 (.conv .u32 (Tm 59)),iX 61 1 56 58,iS 1 61 60]
def NV:Rg:=[iM 62 12,iA 63 (.bin .shr (Tm 62) (.const (.int .u64 63))),iA 64 (.bin .eql (Tm 63) (.const (.int .u64 1))),iM 6 64]
def uG:aC:=(sq RI (sq RJ (.seq (sq RK (.block 0 (.loop NR))) (sq NT (sq NU (sq NV .ret))))))
def Qx:List Nat:=[]
def BO:aS:=⟨3,65,uG,[.tmp 6]⟩
def XB:Rg:=[iA 4 (.mv (.const (.int .u64 0)))]
def XC:Rg:=[iM 7 1,iN 8 7,iI 9 0]
def XD:Rg:=[iB 10 .lss 9 8]
def XE:Rg:=[iM 11 9,iX 12 1 7 9,iL 13 12,iM 5 11,iM 6 13]
def XF:Rg:=[iM 14 4,iM 15 0,iM 16 5,iX 17 1 15 16,iL 18 17,iA 19 (.conv .u64 (Tm 18)),iM 20 6,iA 21 (.conv .u64 (Tm 20)),iB 22 .add 19 21,iB 23 .add 14 22,iM 4 23]
def XG:Rg:=[iM 24 0,iM 25 5,iM 26 4,iA 27 (.conv .u32 (Tm 26)),iX 28 1 24 25,iS 1 28 27]
def XH:Rg:=[iM 29 4,iA 30 (.bin .shr (Tm 29) (.const (.int .u64 32))),iM 4 30]
def XI:Rg:=[iC 31 .add 9 1,iM 9 31]
def WZ:aC:=(sq XD (.seq (.cond (Tm 10) .skip (.exit 0)) (.seq (.block 1 (sq XE (sq XF (sq XG (.region XH))))) (.region XI))))
def XJ:Rg:=[iM 32 0,iM 33 1,iN 34 33,iX 35 1 32 34,iL 36 35,iM 37 4,iA 38 (.conv .u32 (Tm 37)),iB 39 .add 36 38,iX 40 1 32 34,iS 1 40 39]
def wF:aC:=(sq XB (.seq (sq XC (.block 0 (.loop WZ))) (.region XJ)))
def Wp:List Nat:=[]
def JY:aS:=⟨2,41,wF,[]⟩
open Go Go.RowKit Go.ChangeShapes Go.WideShapes
inductive AT where
 | one (ct:CT)
 | struct (cts:List CT)
 deriving Inhabited
def aiT (P:Program) (n:Nat) (t:TypeId):Option AT :=
 match P.underlying t with
 | some .bool=>some (.one .bool)
 | some (.int k)=>some (.one (.int k))
 | some .string=>some (.one .str)
 | some (.slice _)=>match gJ P n t with
  | some [ct]=>some (.one ct)
  | _=>none
 | some (.struct _)=>(gJ P n t).map .struct
 | _=>none
def FH (P:Program) (n:Nat):List TypeId→Option (List AT)
 | []=>some []
 | t::ts=>match aiT P n t,FH P n ts with
  | some a,some c=>some (a::c)
  | _,_=>none
inductive AT.Ty:AT→PV→Prop
 | one {ct:CT} {pv:PV} (h:PV.Ty ct pv):AT.Ty (.one ct) pv
 | struct {cts:List CT} {pvs:List PV} (hl:pvs.length=cts.length) (h:∀ (j:Nat) pv ct,pvs[j]?=some pv→cts[j]?=some ct→PV.Ty ct pv):AT.Ty (.struct cts) (.agg pvs)
def AT.TyL:List AT→List PV→Prop
 | [],[]=>True
 | a::c,p::ps=>AT.Ty a p∧AT.TyL c ps
 | _,_=>False
section
variable {H:Type} {enc:TypeId × Value→H} {P:Program} {W:World} {sp:Nat→Bool} {held:Bool}
theorem aUT {r:Reach} {base:Nat} (num:Nat→FuncId) {t:TypeId} {v:Value} {d:DataW H} {ps:List MemPlace} {n:Nat} {a:AT}
  (c:Value.okWide P W r base t v) (u:DataW.Trod enc P W 0 sp held t v d ps) (l:aiT P n t=some a):∃ pv,aZ (Env.of W num) pv v∧AT.Ty a pv:=by
 unfold aiT at l;cases n with
 | zero =>
  split at l
  ·rename_i i;cases l;obtain⟨b,rfl⟩:=okWide_bool i c;obtain⟨pv,p,q⟩:=tV (n:=1) (ct:=.bool) num (by simp[Value.cells]) u (by simp[gJ,i]);exact⟨pv,p,.one q⟩
  ·rename_i k i;cases l;obtain⟨b,rfl⟩:=okWide_int i c;obtain⟨pv,p,q⟩:=tV (n:=1) (ct:=.int k) num (by simp[Value.cells]) u (by simp[gJ,i]);exact⟨pv,p,.one q⟩
  ·rename_i i;cases l;obtain⟨b,rfl⟩:=okWide_string i c;obtain⟨pv,p,q⟩:=tV (n:=1) (ct:=.str) num (by simp[Value.cells]) u (by simp[gJ,i]);exact⟨pv,p,.one q⟩
  ·simp[gJ] at l
  ·simp[gJ] at l
  ·cases l
 | succ n =>
  split at l
  ·rename_i i;cases l;obtain⟨b,rfl⟩:=okWide_bool i c;obtain⟨pv,p,q⟩:=tV (n:=n+1) (ct:=.bool) num (by simp[Value.cells]) u (by simp[gJ,i]);exact⟨pv,p,.one q⟩
  ·rename_i k i;cases l;obtain⟨b,rfl⟩:=okWide_int i c;obtain⟨pv,p,q⟩:=tV (n:=n+1) (ct:=.int k) num (by simp[Value.cells]) u (by simp[gJ,i]);exact⟨pv,p,.one q⟩
  ·rename_i i;cases l;obtain⟨b,rfl⟩:=okWide_string i c;obtain⟨pv,p,q⟩:=tV (n:=n+1) (ct:=.str) num (by simp[Value.cells]) u (by simp[gJ,i]);exact⟨pv,p,.one q⟩
  ·rename_i e i;split at l
   ·rename_i ct w;cases l;obtain⟨x,len,cap,rfl⟩:=okWide_slice i c;obtain⟨pv,p,q⟩:=tV num (by simp[Value.cells]) u w;exact⟨pv,p,.one q⟩
   ·cases l
  ·rename_i B i;rw[a7Q] at l;obtain⟨cts,w,rfl⟩:=l;obtain⟨A,p,q,y⟩:=aiU num i c u w;exact⟨_,p,.struct q y⟩
  ·cases l
theorem Xx {r:Reach} {base:Nat} (num:Nat→FuncId) {n:Nat}:∀ {ts:List TypeId} {vs:List Value} {ds:List (DataW H)} {ps:List MemPlace} {e:List AT},DataW.TrodAll enc P W 0 sp held ts vs ds ps →
  (∀ (j:Nat) t v,ts[j]?=some t→vs[j]?=some v→Value.okWide P W r base t v)→FH P n ts=some e→∃ c,eJ (Env.of W num) c vs∧AT.TyL e c
 | [],[],_,_,e,_,_,h=>by simp[FH] at h;subst h;exact⟨[],.nil,trivial⟩
 | [],_::_,_,_,_,h,_,_=>h.elim
 | _::_,[],[],_,_,h,_,_=>h.elim
 | _::_,[],_::_,_,_,h,_,_=>h.elim
 | _::_,_::_,[],_,_,h,_,_=>h.elim
 | t::ts,v::vs,d::ds,ps,e,h,l,i=>by
  obtain⟨p,q,y,A,rfl⟩:=h;simp only[FH] at i;split at i
  ·rename_i a u w x;cases i;obtain⟨pv,r1,B⟩:=aUT num (l 0 t v rfl rfl) y w;obtain⟨c,r2,E⟩:=Xx num A (fun j t v a b=>l (j+1) t v (by simpa using a) (by simpa using b)) x;exact⟨pv::c,.cons r1 r2,B,E⟩
  ·cases i
theorem TrodAll.length:∀ {ts:List TypeId} {vs:List Value} {ds:List (DataW H)} {ps:List MemPlace},DataW.TrodAll enc P W 0 sp held ts vs ds ps→ds.length=ts.length
 | [],[],[],_,_=>rfl
 | [],[],_::_,_,h=>h.elim
 | [],_::_,_,_,h=>h.elim
 | _::_,[],[],_,h=>h.elim
 | _::_,[],_::_,_,h=>h.elim
 | _::_,_::_,[],_,h=>h.elim
 | t::ts,v::vs,d::ds,ps,h=>by obtain⟨p,q,e,c,rfl⟩:=h;simp[TrodAll.length c]
end
theorem I2 {H:Type} {enc:TypeId × Value→H} {P:Program} {f:FuncId} {fn:Func} {s:ChangeSpec} {apart fresh c:Bool} {bt:TypeId} {num:Nat→FuncId} {name n:Nat} {ats:List AT}
  (S:laidOutB P=true) (F:fn.params.toList.all (fun t=>P.readableRec t&&decide (t<P.types.size))=true) (B:fn.resultTypes=#[bt]) (A:P.underlying bt=some .bool) (M:s.vars=[])
  (V:∀ ds:List (DataW H),ds.length=fn.params.toList.length→(s.fn H ds).results=[.lit (.bool true)]∧(s.fn H ds).args=ds∧(s.fn H ds).vars=[])
  (u:num name=f) (O:FH P n fn.params.toList=some ats) (h:∀ i,AT.TyL ats i→aH ⟨P,num⟩ name i PH.nil (aF (.bool true)))
  {W:World} {base:Nat} {args:Array Value} {ds N:List (DataW H)} {d:List MemPlace}
  (x:∀ (j:Nat) t v,fn.params[j]?=some t→args[j]?=some v→Value.okWide P W .any base t v) (hW:DataW.Whole enc P fn.params.toList s.vars apart W args.toList ds N d) :
  Calls P f args W fun e J=>∃ v,e=.returned v∧s.post enc P fn apart fresh c false W args v J:=by
 have w:∀ t∈fn.params.toList,P.readableRec t=true∧t<P.types.size:=fun t E=>by have:=a7W.1 F t E;simpa using this
 have y:=hW;obtain⟨p,q,K,hV,rfl,Y,X⟩:=hW;rw[M] at hV;obtain⟨rfl,rfl⟩:=trodVars_none hV;obtain⟨i,U,E⟩:=Xx num K (fun j t v a b=>x j t v (by simpa using a) (by simpa using b)) O;have l:=TrodAll.length K;subst u;obtain⟨r1,r2,r3⟩:=V (ds++[]) (by simpa using l);refine (asW (C:=⟨P,num⟩) (h i E) U).mono fun e J R=>?_;obtain⟨rfl,Q⟩:=R;exact⟨_,rfl,avH S y Q w B A M r1 (by rw[r2]; simp) r3⟩
attribute [go_sem] pY gT setCells PV.cells PV.one cB storeAt dA loadCells dX bnd PV.slice PV.intOf PV.eqs PV.eq1 PV.un keyOf KS.of KS.ofs KS.sh List.all_cons List.all_nil bbC List.set_cons_succ a7R a9N a7P a8O a7W baJ
attribute [go_sem] Bool.bne_false Bool.bne_true Int.le_refl Int.lt_irrefl decide_true decide_false exists_eq_left exists_eq_left' a7G List.length_replicate a9A Int.natCast_nonneg Option.isSome_some Option.isSome_none baH Option.getD_none decide_eq_true_eq decide_eq_false_iff_not a8E a9M a7M Nat.sub_zero
def aY (xs:List Int):List (List PV):=xs.map fun n=>[.int .i64 n]
theorem bF {a b:Int} (h:a≠b):(a==b)=false:=by simp[h]
theorem bL {a b:Int} (h:a=b):(a==b)=true:=by simp[h]
theorem dN {a b:Int} (h:a≠b):(a != b)=true:=by simp[h]
theorem cC {a b:Int} (h:a=b):(a != b)=false:=by simp[h]
section
variable {H:PH}
@[go_sem] theorem PH.set_set (o:Nat) (x y:cG):(H.set o x).set o y=H.set o y:=PH.ext fun q=>by
 simp only[aT]; split<;>rfl
@[go_sem] theorem cP (o:Nat) (x:cG):(H.set o x) o=some x:=by simp only[aT,if_true]
end
section
variable {C:Ctx} {K:bR} {F:PF} {H:PH}
theorem PH.pN (o:Nat) (x:cG):H.over .nil (PH.nil.set o x)=H.set o x:=PH.ext fun q=>by
 rw[gV]; simp only[aT,UV]; split<;>simp_all
theorem PH.tC (o:Nat) (x y:cG):H.over (PH.nil.set o x) (PH.nil.set o y)=H.set o y:=PH.ext fun q=>by
 rw[gV]; simp only[aT,UV]; split<;>simp_all
theorem kU {name:Nat} {vs:List PV} {c:PH} {R:PV→PH→Prop} {args:List aP} {d:Option Nat} {K:PF→PH→Prop} (h:aH C name vs c R) (i:aP.evs F args=some vs) (e:c.le H)
  (l:∀ r H',R r H'→lZ H c H'→K (F.put d r) (H.over c H')):iV C name args [] d K F H :=
 .inl ⟨vs,c,R,by rw[i]; simp,e,h,l⟩
theorem bA {res:List dV} {R:PV→PH→Prop} {vs:List PV} {e:kM} (w:e=.normal∨e=.ret) (c:PH) (h:dV.evs F H res=some vs) (d:c.le H) (q:R (bO vs) c):aV res R e F H:=by
 have i:∃ vs,dV.evs F H res=some vs∧∃ l p H2,jD (PF.nil.set 0 (bO vs)) H l p∧H2.le p∧∃ u,l 0=some u∧R u H2 :=
  ⟨vs,h,_,H,c,.refl _ _,d,bO vs,by rw[kD,if_pos rfl],q⟩
 rcases w with rfl | rfl<;>exact i
theorem aIE {t o s k:Nat} {rs:List (List PV)} {R:PV→PH→Prop} {e:kM} (p:e=.normal∨e=.ret) (h:F t=some (.osl o s 0 k)) (q:H o=some (.rows s rs)) (w:k≤rs.length) (l:R (.sl s (rs.take k)) .nil) :
  aV [.tmp t] R e F H:=by
 have c:∃ vs,dV.evs F H [.tmp t]=some vs∧∃ d i H2,jD (PF.nil.set 0 (bO vs)) H d i∧H2.le i∧∃ u,d 0=some u∧R u H2:=by refine⟨[.osl o s 0 k],by rw[kI,nC,h,oK],_,_,.nil,.step o q (.refl _ _),a_,.sl s (rs.take k),?_,l⟩;have:0+k≤rs.length:=Om;simp only[PF.frz,kD,if_true,bO,a8W,PV.frz,PV.sO,PV.dE,true_and,if_pos this,a8R]
 rcases p with rfl | rfl<;>exact c
def bY (v:PV) (r:PV) (H:PH):Prop:=Co r v∧H=PH.nil
theorem aH.aWP {name:Nat} {args:List PV} {H:PH} {v:PV} (h:aH C name args H (bY v)):aH C name args H (aF v) :=
 h.post fun r H' ⟨c,d⟩=>⟨v,c,rfl,d⟩
theorem aF.aWP {v r:PV} {H:PH} (h:aF v r H):bY v r H:=by
 obtain⟨rfl,rfl⟩:=h;exact⟨.refl _,rfl⟩
theorem tO {s b:Nat} {y:PV} {src:List (List PV)} {K:PV→PH→Prop} (i:dX H s y=some src) (e:roomFor 0 src.length b) (c:src=[]→K .aB H)
  (d:src≠[]→∀ o,H o=none→K (.osl o s 0 src.length) (H.set o (.rows s src))):mP H s b .aB y K:=⟨src,i,e,c,d⟩
theorem U9 {o s b len:Nat} {rs:List (List PV)} {y:PV} {src:List (List PV)} {K:PV→PH→Prop} (p:dX H s y=some src) (l:roomFor len src.length b) (i:H o=some (.rows s rs)) (e:len≤rs.length)
  (c:K (.osl o s 0 (len+src.length)) (H.set o (.rows s (rs.take len++src))))
  (d:∀ o',H o'=none→K (.osl o' s 0 (len+src.length)) (H.set o' (.rows s (rs.take len++src)))):mP H s b (.osl o s 0 len) y K :=
 ⟨src,p,rfl,rfl,l,rs,i,e,c,d⟩
end
def bQ (H:PH) (s:Nat) (v:PV) (rows:List (List PV)):Prop :=
 (rows=[]∧v=.aB)∨∃ q rs,v=.osl q s 0 rows.length∧H q=some (.rows s rs)∧rows.length≤rs.length∧rs.take rows.length=rows
def Seen (s:Nat) (v:PV) (rows:List (List PV)):Prop:=(rows=[]∧v=.aB)∨v=.sl s rows
section
variable {C:Ctx} {K:bR} {F:PF} {H:PH} {s b:Nat} {v y:PV} {rows src:List (List PV)}
theorem bQ.nil:bQ H s .aB []:=.inl ⟨rfl,rfl⟩
theorem bQ.view (h:bQ H s v rows):dX H s v=some rows:=by
 rcases h with ⟨rfl,rfl⟩ | ⟨q,rs,rfl,h1,h2,h3⟩
 ·rfl
 ·have:0+rows.length≤rs.length:=Om;simp only[dX,if_true,h1,true_and,if_pos this,a8R,h3]
theorem Seen.view (h:Seen s v rows):dX H s v=some rows:=by
 rcases h with ⟨rfl,rfl⟩ | rfl
 ·rfl
 ·simp[dX]
theorem bQ.ext {H':PH} (h:bQ H s v rows) (c:∀ o x,H o=some x→H' o=some x):bQ H' s v rows:=by
 rcases h with h | ⟨q,rs,h0,h1,h2,h3⟩
 ·exact .inl h
 ·exact .inr ⟨q,rs,h0,c q _ h1,h2,h3⟩
theorem fI {K:PV→PH→Prop} (h:bQ H s v rows) (A:dX H s y=some src) (w:roomFor rows.length src.length b)
  (u:∀ v' H',bQ H' s v' (rows++src)→(∀ o x,H o=some x→(∀ l,v≠.osl o s 0 l)→H' o=some x)→K v' H'):mP H s b v y K:=by
 rcases h with ⟨rfl,rfl⟩ | ⟨q,rs,rfl,h1,h2,h3⟩
 ·refine⟨src,A,w,fun e=>?_,fun e o p=>?_⟩
  ·subst e;exact u _ _ (.inl ⟨rfl,rfl⟩) fun o x p _=>p
  ·refine u _ _ (.inr ⟨o,src,rfl,by simp only[aT,if_true],a7M _,by simp⟩) fun o' x c _=>?_;have:o'≠o:=by rintro rfl; rw[p] at c; cases c
   simp only[aT,if_neg this,c]
 ·have d:(rows++src).length=rows.length+src.length:=a7O;refine⟨src,A,rfl,rfl,w,rs,h1,h2,?_,fun o p=>?_⟩
  ·rw[h3];refine u _ _ (.inr ⟨q,rows++src,by rw[d],by simp only[aT,if_true],a7M _,a8I⟩) fun o' x c i=>?_;have:o'≠q:=by rintro rfl; exact i _ rfl
   simp only[aT,if_neg this,c]
  ·rw[h3];refine u _ _ (.inr ⟨o,rows++src,by rw[d],by simp only[aT,if_true],a7M _,a8I⟩) fun o' x c i=>?_;have B:o'≠o:=by rintro rfl; rw[p] at c; cases c
   simp only[aT,if_neg B,c]
def Pure (u:PV):Prop:=∀ q s rs,PV.frz q s rs u=u
theorem bQ.frz (h:bQ H s v rows):∃ d,Seen s d rows∧∀ F:PF,∃ c e,jD F H c e∧(∀ t,F t=some v→c t=some d)∧∀ i u,F i=some u→Pure u→c i=some u:=by
 rcases h with ⟨rfl,rfl⟩ | ⟨q,rs,rfl,h1,h2,h3⟩
 ·exact⟨.aB,.inl ⟨rfl,rfl⟩,fun F=>⟨F,H,.refl _ _,fun t h=>h,fun i u h _=>h⟩⟩
 ·refine⟨.sl s rows,.inr rfl,fun F=>⟨_,_,.step q h1 (.refl _ _),fun t p=>?_,fun i u hi l=>?_⟩⟩
  ·have:0+rows.length≤rs.length:=Om;simp only[PF.frz,p,a8W,PV.frz,PV.sO,PV.dE,if_true,true_and,if_pos this,a8R,h3]
  ·simp only[PF.frz,hi,a8W];rw[l]
theorem qL {t:Nat} {e:kM} (c:e=.normal∨e=.ret) (h:bQ H s v rows) (d:F t=some v):aV [.tmp t] (bY (.sl s rows)) e F H:=by
 rcases h with ⟨rfl,rfl⟩ | ⟨q,rs,rfl,h1,h2,h3⟩
 ·exact bA (vs:=[.aB]) c .nil (by rw[kI,nC,d,oK]) a_ ⟨.nil s,rfl⟩
 ·exact aIE c d h1 h2 ⟨by rw[h3]; exact .refl _,rfl⟩
end
end Go.PM
namespace Go.PM
open Go
section
variable {C:Ctx} {F:PF} {H:PH}
@[go_sem] theorem qW (o s:Nat) (rs:List (List PV)) (i:Nat):(F.frz o s rs) i=(F i).map (PV.frz o s rs):=(rfl)
theorem qO {name t o s k:Nat} {rs:List (List PV)} {v:PV} {d:Option Nat} {K:PF→PH→Prop} (h:aH C name [.sl s (rs.take k)] .nil (aF v)) (i:F t=some (.osl o s 0 k)) (e:H o=some (.rows s rs)) (l:k≤rs.length)
  (c:K ((F.frz o s rs).put d v) (H.frz o s rs)):iV C name [.tmp t] [] d K F H:=by
 refine .inr ⟨_,_,.step o e (.refl _ _),[.sl s (rs.take k)],.nil,aF v,?_,a_,h,?_⟩
 ·have:0+k≤rs.length:=Om;simp only[zF,UQ,i7,qW,i,a8W,PV.frz,PV.sO,PV.dE,if_true,true_and,if_pos this,a8R,a9G]
 ·rintro r H' ⟨rfl,rfl⟩ -;rw[PH.zU];exact c
end
end Go.PM
namespace Go.Na
def val:List Nat→Nat
 | []=>0
 | x::xs=>x+4294967296*val xs
def Lim (xs:List Nat):Prop:=∀ x∈xs,x<4294967296
def aI (n:Nat):List Nat:=if h:n=0 then [] else (n%4294967296)::aI (n/4294967296)
termination_by n
decreasing_by exact Nat.div_lt_self (a9U h) (by decide)
def nl (n:Nat):Nat:=(aI n).length
theorem fO:aI 0=[]:=by rw[aI]; simp
theorem rW {n:Nat} (h:n≠0):aI n=(n%4294967296)::aI (n/4294967296):=by rw[aI]; simp[h]
theorem oI {n:Nat} (h:n≠0) (c:n<4294967296):aI n=[n]:=by
 rw[rW h,a8T c,baW c,fO]
theorem aW (n:Nat):val (aI n)=n:=by
 induction n using Nat.strongRecOn with
 | _ n c =>
  by_cases h:n=0
  ·subst h; rw[fO]; rfl
  ·rw[rW h,val,c _ (Nat.div_lt_self (a9U h) (by decide))];exact Nat.mod_add_div n 4294967296
theorem aX (n:Nat):Lim (aI n):=by
 induction n using Nat.strongRecOn with
 | _ n c =>
  by_cases h:n=0
  ·subst h; rw[fO]; intro x hx; cases hx
  ·rw[rW h];intro x hx;rw[a7T] at hx;rcases hx with rfl | hx
   ·exact a8Z _ (by decide)
   ·exact c _ (Nat.div_lt_self (a9U h) (by decide)) x hx
theorem yK:nl 0=0:=by rw[nl,fO]; rfl
theorem auG {n:Nat} (h:n≠0):nl n=nl (n/4294967296)+1:=by rw[nl,rW h]; rfl
theorem jB (n k:Nat):nl n≤k↔n<4294967296 ^ k:=by
 induction k generalizing n with
 | zero =>
  by_cases h:n=0
  ·subst h; simp[yK]
  ·rw[auG h]; simp; omega
 | succ k c =>
  by_cases h:n=0
  ·subst h; simp[yK,baB]
  ·rw[auG h,Nat.succ_le_succ_iff,c,a9D,baK (by decide)]
theorem hZ {n:Nat}:nl n=0↔n=0:=by
 have:=jB n 0;simp at this;exact this
theorem fX (xs ys:List Nat):val (xs++ys)=val xs+4294967296 ^ xs.length*val ys:=by
 induction xs with
 | nil=>simp[val]
 | cons x xs c =>simp only[List.cons_append,val,a8Y,c,a9D];rw[a7V,a9R,← a8H,a8L 4294967296 (4294967296 ^ xs.length)]
theorem fC {xs:List Nat} (h:Lim xs):val xs<4294967296 ^ xs.length:=by
 induction xs with
 | nil=>simp[val]
 | cons x xs e =>have i:=h x (by simp);have c:=e fun y d=>h y (by simp[d]);simp only[val,a8Y,a9D];have:4294967296*(val xs+1)≤4294967296*4294967296 ^ xs.length:=a9T _ c;rw[a7V,Nat.mul_one] at this;rw[a8L (4294967296 ^ xs.length)];omega
theorem Lim.app {xs ys:List Nat} (h:Lim xs) (k:Lim ys):Lim (xs++ys):=fun x c=>by
 rw[a9C] at c;exact c.elim (h x) (k x)
theorem Lim.take {xs:List Nat} (h:Lim xs) (n:Nat):Lim (xs.take n):=fun x c=>h x (List.mem_of_mem_take c)
theorem Lim.drop {xs:List Nat} (h:Lim xs) (n:Nat):Lim (xs.drop n):=fun x c=>h x (List.mem_of_mem_drop c)
theorem Lim.set {xs:List Nat} (h:Lim xs) (i:Nat) {v:Nat} (c:v<4294967296):Lim (xs.set i v):=fun x d=>by
 rcases List.mem_or_eq_of_mem_set d with h1 | h1
 ·exact h x h1
 ·subst h1; exact c
theorem vQ (n:Nat):Lim (a7K n 0):=fun x c=>by
 rw[List.mem_replicate] at c; rw[c.2]; decide
theorem sD (n:Nat):val (a7K n 0)=0:=by
 induction n with
 | zero=>rfl
 | succ n c=>simp[List.replicate_succ,val,c]
theorem atM {xs:List Nat} (h:Lim xs) (p:∀ x,xs.getLast?=some x→x≠0):aI (val xs)=xs:=by
 induction xs with
 | nil=>simp[val,fO]
 | cons x xs E =>
  have i:=h x (by simp);have l:Lim xs:=fun y A=>h y (by simp[A]);cases xs with
  | nil =>have:=p x (by simp);simp only[val,Nat.mul_zero,a9M];exact oI this i
  | cons y ys =>
   have c:=E l fun z B=>p z (by rw[List.getLast?_cons_cons]; exact B);have w:val (y::ys)≠0:=fun e=>by rw[e,fO] at c; cases c
   have d:x+4294967296*val (y::ys)≠0:=by have:0<4294967296*val (y::ys):=Nat.mul_pos (by decide) (a9U w);omega
   show aI (x+4294967296*val (y::ys))=_;rw[rW d];have q:(x+4294967296*val (y::ys))%4294967296=x:=by rw[Nat.add_mul_mod_self_left,a8T i]
   have u:(x+4294967296*val (y::ys))/4294967296=val (y::ys):=by rw[Nat.add_mul_div_left _ _ (by decide),baW i,a8E]
   rw[q,u,c]
theorem Uf {xs:List Nat} {n:Nat} (h:∀ j x,n≤j→xs[j]?=some x→x=0):val (xs.take n)=val xs:=by
 have e:xs.drop n=a7K (xs.drop n).length 0:=by apply baO (by simp);intro i c d;rw[List.getElem_replicate,List.getElem_drop];exact h (n+i) _ Om (a7U _)
 conv=>rhs; rw[← baE n xs,fX,e,sD]
 simp
theorem LK {xs:List Nat} (l:Lim xs) {n:Nat} (i:n≤xs.length) (h:∀ j x,n≤j→xs[j]?=some x→x=0) (d:∀ x,0<n→xs[n-1]?=some x→x≠0):xs.take n=aI (val xs):=by
 rw[← Uf h,atM (l.take n)];intro x c;rw[List.getLast?_eq_getElem?,a8A,a9S i] at c;rcases a9Q n with e | e
 ·subst e; simp at c
 ·rw[List.getElem?_take_of_lt Om] at c;exact d x e c
theorem aeP {xs:List Nat} (e:Lim xs) {n:Nat} (d:n≤xs.length) (h:∀ j x,n≤j→xs[j]?=some x→x=0) (c:∀ x,0<n→xs[n-1]?=some x→x≠0):nl (val xs)=n:=by
 rw[nl,← LK e d h c,a8A]; omega
theorem fM {xs:List Nat} (h:Lim xs):nl (val xs)≤xs.length:=(jB _ _).2 (fC h)
theorem kJ {xs : List Nat} (h : Lim xs) : xs.take (nl (val xs)) = aI (val xs) := by
  have hl := fM h;have e : val (xs.take (nl (val xs)) ++ xs.drop (nl (val xs))) = val xs := by rw [baE]
  rw [fX, a8A, a9S hl] at e;have h1 := fC (h.take (nl (val xs)));rw [a8A, a9S hl] at h1;have h2 := (jB (val xs) (nl (val xs))).1 (a7M _);have hd : val (xs.drop (nl (val xs))) = 0 := by
    rcases a9Q (val (xs.drop (nl (val xs)))) with h | h
    · exact h
    · have := a9T (4294967296 ^ nl (val xs)) h
      omega
  have hz : ∀ j x, nl (val xs) ≤ j → xs[j]? = some x → x = 0 := by
    have zero : ∀ ys : List Nat, val ys = 0 → ∀ y ∈ ys, y = 0 := by
      intro ys
      induction ys with
      | nil => intro _ y hy; cases hy
      | cons z zs ih =>
        intro hv y hy;simp only [val] at hv;rw [a7T] at hy;rcases hy with rfl | hy
        · omega
        · exact ih (by have : 4294967296 * val zs = 0 := Om
                       rcases Nat.mul_eq_zero.1 this with h | h
                       · cases h
                       · exact h) y hy
    intro j x hj hx;refine zero _ hd x ?_;rw [List.mem_iff_getElem?];exact ⟨j - nl (val xs), by rw [List.getElem?_drop, Nat.add_sub_cancel' hj]; exact hx⟩
  refine LK h hl hz fun x hpos hx e => ?_;subst e;have hz2 : ∀ j x, nl (val xs) - 1 ≤ j → xs[j]? = some x → x = 0 := fun j y hj hy => by
    rcases a8D j (nl (val xs)) with h3 | h3
    · have : j = nl (val xs) - 1 := Om
      subst this; rw [hx] at hy; cases hy; rfl
    · exact hz j y h3 hy
  have h3 := Uf hz2;have h4 := fC (h.take (nl (val xs) - 1));rw [h3, a8A, a9S Om] at h4;have := (jB (val xs) (nl (val xs) - 1)).2 h4;omega
theorem Sz {xs:List Nat} (h:Lim xs) {n:Nat} (l:nl (val xs)=n+1):∃ x,xs[n]?=some x∧x≠0:=by
 have p:=fM h;refine⟨xs[n]'Om,a7U _,fun e=>?_⟩;have i:=kJ h;have c:=aW (val xs);rw[← i,l,a9E Om,e,fX] at c;simp only[val,Nat.mul_zero,a9M] at c;have d:=fC (h.take n);rw[c,a8A,a9S Om] at d;have:=(jB (val xs) n).2 d;omega
theorem sB (xs:List Nat) {k:Nat} (h:k<xs.length):val xs=val (xs.take k)+4294967296 ^ k*(xs[k]+4294967296*val (xs.drop (k+1))):=by
 conv=>lhs; rw[← baE k xs,fX,a8A,a9S Om,a9H h]
 rfl
theorem ia {xs ys:List Nat} (p:Lim xs) {k:Nat} (c:k<xs.length) (d:k<ys.length) (l:xs.drop (k+1)=ys.drop (k+1)) (h:xs[k]<ys[k]):val xs<val ys:=by
 rw[sB xs c,sB ys d,l];have e:=fC (p.take k);rw[a8A,a9S Om] at e;have i:4294967296 ^ k*(xs[k]+4294967296*val (ys.drop (k+1))+1)≤4294967296 ^ k*(ys[k]+4294967296*val (ys.drop (k+1))):=a9T _ Om;rw[a7V _ _ 1,Nat.mul_one] at i;omega
def dP (a b:Nat):Int:=if a<b then -1 else if b<a then 1 else 0
theorem zd {xs ys:List Nat} {k:Nat} (c:k<xs.length) (d:k<ys.length) (e:xs.drop (k+1)=ys.drop (k+1)) (h:xs[k]=ys[k]):xs.drop k=ys.drop k:=by
 rw[a9H c,a9H d,e,h]
theorem fT {a b:Nat} (h:a≤b):nl a≤nl b:=(jB a _).2 (Nat.lt_of_le_of_lt h ((jB b _).1 (a7M _)))
theorem Iq {xs:List Nat} (h:Lim xs) {j:Nat} (c:j<nl (val xs)):∃ (d:j<xs.length) (i:j<(aI (val xs)).length),xs[j]=(aI (val xs))[j]:=by
 have l:=fM h;refine⟨by omega,c,?_⟩;have e:=kJ h;have:(xs.take (nl (val xs)))[j]?=(aI (val xs))[j]?:=by rw[e]
 rw[List.getElem?_take_of_lt c,a7U Om,a7U c] at this;exact a9V.inj this
def cM (n:Nat):Nat:=if h:n=0 then 0 else cM (n/2)+1
termination_by n
decreasing_by exact Nat.div_lt_self (a9U h) (by decide)
theorem jN:cM 0=0:=by rw[cM]; simp
theorem pD {n:Nat} (h:n≠0):cM n=cM (n/2)+1:=by rw[cM]; simp[h]
theorem lT (n k:Nat):cM n≤k↔n<2 ^ k:=by
 induction k generalizing n with
 | zero =>
  by_cases h:n=0
  ·subst h; simp[jN]
  ·rw[pD h]; simp; omega
 | succ k c =>
  by_cases h:n=0
  ·subst h; simp[jN,baB]
  ·rw[pD h,Nat.succ_le_succ_iff,c,a9D,baK (by decide)]
theorem jW {n:Nat}:cM n=0↔n=0:=by
 have:=lT n 0;simp at this;exact this
theorem Ir {hi lo k:Nat} (l:lo<2 ^ k) (e:hi≠0):cM (lo+2 ^ k*hi)=k+cM hi:=by
 apply Nat.le_antisymm
 ·rw[lT,Nat.pow_add];have c:=(lT hi _).1 (a7M _);have:2 ^ k*(hi+1)≤2 ^ k*2 ^ cM hi:=a9T _ c;rw[a7V,Nat.mul_one] at this;omega
 ·obtain⟨b,d⟩:∃ b,cM hi=b+1:=⟨cM hi-1,by have:=mt jW.1 e; omega⟩;rw[d];rcases a8D (cM (lo+2 ^ k*hi)) (k+(b+1)) with h | h
  ·have c:=(lT (lo+2 ^ k*hi) (k+b)).1 Om;rw[Nat.pow_add] at c;have i:¬ hi<2 ^ b:=fun h=>by have:=(lT hi b).2 h; omega
   have:2 ^ k*2 ^ b≤2 ^ k*hi:=a9T _ Om;omega
  ·exact h
theorem lW (n k:Nat):cM n≤32*k↔nl n≤k:=by
 rw[lT,jB,Nat.pow_mul]
end Go.Na
namespace Go.PM
theorem Lq {F c:PF} (h:F.le c:=by (repeat' (first|exact c_|refine d_ ?_ ?_))<;>first|(simp only[go_sem]<;>rfl)|rfl|assumption):F.le c:=h
end Go.PM
namespace Go.PM
open Go Go.Na
abbrev aL (xs:List Nat):List (List PV):=xs.map fun (n:Nat)=>[PV.int .u32 (n:Int)]
abbrev aJ (xs:List Nat):PV:=.sl 1 (xs.map fun (n:Nat)=>[PV.int .u32 (n:Int)])
theorem cA (xs:List Nat):(aL xs).length=xs.length:=by simp
theorem bU (xs:List Nat) {i:Nat} (h:i<xs.length):(aL xs)[i]?=some [.int .u32 (xs[i]:Nat)]:=by simp[h]
theorem Ba (xs:List Nat) (k:Nat):aJ (xs.take k)=.sl 1 ((xs.map fun (n:Nat)=>[PV.int .u32 (n:Int)]).take k):=by rw[aJ,List.map_take]
theorem cL (n:Nat):IntKind.u32.wrap (n:Int)=((n%4294967296:Nat):Int):=by
 have e:IntKind.u32.wrap (n:Int)=(n:Int)%4294967296:=by simp[IntKind.wrap,IntKind.bits,IntKind.signed]
 rw[e]; rfl
theorem wC {k:Nat} (h:k≤9223372036854775807) (c:0<k):IntKind.i64.wrap ((k:Int)-1)=((k-1:Nat):Int):=by
 rw[wrap_i64 Om Om]; omega
def amQ (xs:List Nat) (n:Nat):PF:=((PF.nil.set 0 (aJ xs)).set 3 (.int .i64 n))
theorem ma {C:Ctx} (xs:List Nat) (u:Lim xs) (y:xs.length≤35184372087808):pK.wp C (aV yL.res (aF (.int .i64 (nl (val xs):Nat)))) (PF.args [aJ xs]) .nil:=by
 simp only[go_sem,pK,JT,JU,yL];refine wp_loop (α:=Nat) (amQ xs) (fun _=>.nil) (fun n=>n≤xs.length∧∀ j x,n≤j→xs[j]?=some x→x=0) (fun n=>n) xs.length ⟨a7M _,fun j x h e=>by rw[a8X h] at e; cases e⟩ ?_ a_ ?_
 ·unfold amQ;exact Lq
 rintro n ⟨q,p⟩;have out:(∀ x,0<n→xs[n-1]?=some x→x≠0)→nl (val xs)=n:=fun h=>aeP u q p h;simp only[go_sem,JS,JV,amQ];by_cases i:(n:Int)>0
 ·have l:0<n:=Om;have hi:=bU xs (Om:n-1<xs.length);simp only[go_sem,i,wC (Om:n≤9223372036854775807) l,hi];by_cases d:xs[n-1]=0
  ·simp only[go_sem,bL (Om:((xs[n-1]:Nat):Int)=0),JW,wC (Om:n≤9223372036854775807) l];refine aD (n-1) ⟨by omega,fun j x w c=>?_⟩ Om ?_ a_
   ·rcases a8D j n with h | h
    ·have:j=n-1:=Om;subst this;rw[a7U Om] at c;cases c; exact d
    ·exact p j x h c
   ·exact Lq
  ·simp only[go_sem,bF (Om:((xs[n-1]:Nat):Int)≠0),tA];refine aQ (.inr rfl) rfl ?_;rw[out fun x _ c=>by rw[a7U Om] at c; cases c; exact d];rfl
 ·simp only[go_sem,i,tA];refine aQ (.inr rfl) rfl ?_;rw[out fun x h=>by omega];rfl
theorem Bm {C:Ctx} (xs:List Nat) (c:aH C 138 [aJ xs] .nil (aF (.int .i64 (nl (val xs):Nat)))):DO.wp C (aV l9.res (aF (.bool (decide (nl (val xs)>512))))) (PF.args [aJ xs]) .nil:=by
 simp only[go_sem,DO,Bn,Bo,l9];refine aA c rfl ?_;simp only[go_sem];refine aQ (.inr rfl) rfl ?_;simp only[bO,PV.bool.injEq,decide_eq_decide];omega
def szL (n:Nat):List Nat:=if nl n>512 then [] else aI n
def szE (n:Nat):Int:=if nl n>512 then 2 else 0
def szV (n:Nat):PV:=.tup [aJ (szL n),.int .i64 (szE n)]
theorem B5 {C:Ctx} (xs:List Nat) (l:Lim xs) (c:aH C 138 [aJ xs] .nil (aF (.int .i64 (nl (val xs):Nat)))):DQ.wp C (aV mf.res (bY (szV (val xs)))) (PF.args [aJ xs]) .nil:=by
 simp only[go_sem,DQ,B6,B7,mf];refine aA c rfl ?_;simp only[go_sem,B8];by_cases h:nl (val xs)>512
 ·have i:((nl (val xs):Nat):Int)>512:=Om;simp only[go_sem,i,B9];refine bA (vs:=[.aB,.int .i64 2]) (.inr rfl) .nil rfl a_ ⟨?_,rfl⟩;rw[szV,szL,szE,if_pos h,if_pos h];refine .tup rfl fun j p q d e=>?_
  match j with
  | 0=>simp at d e; subst d; subst e; exact .nil 1
  | 1=>simp at d e; subst d; subst e; exact .refl _
  | j+2=>simp at d
 ·have i:¬ ((nl (val xs):Nat):Int)>512:=Om;have w:=fM l;have u:((nl (val xs):Nat):Int)≤(xs.length:Nat):=Om;simp only[go_sem,i,Ca,u,or_true,a8R];refine bA (.inr rfl) .nil rfl a_ ⟨?_,rfl⟩;rw[szV,szL,szE,if_neg h,if_neg h,← kJ l,Ba];exact .refl _
theorem Qa {C:Ctx} (v:Nat) (F:v<18446744073709551616) (d:∀ xs,Lim xs→xs.length≤35184372087808→aH C 138 [aJ xs] .nil (aF (.int .i64 (nl (val xs):Nat)))) :
  JX.wp C (aV Hg.res (aF (aJ (aI v)))) (PF.args [.int .u64 v]) .nil:=by
 have u:IntKind.u32.wrap ((v:Nat):Int)=((v%4294967296:Nat):Int):=cL v;have w:Int.fdiv ((v:Nat):Int) 4294967296=((v/4294967296:Nat):Int):=by rw[Int.fdiv_eq_ediv_of_nonneg _ (by decide)]; rfl
 have l:v/4294967296<4294967296:=Om;have y:IntKind.u32.wrap ((v/4294967296:Nat):Int)=((v/4294967296:Nat):Int):=by rw[cL,a8T l]
 have e:Lim [v%4294967296,v/4294967296]:=by
  intro x q;simp only[a7T,List.mem_nil_iff,or_false] at q;rcases q with rfl | rfl
  ·exact a8Z _ (by decide)
  ·exact l
 have c:val [v%4294967296,v/4294967296]=v:=by simp only[val,Nat.mul_zero,a9M]; exact Nat.mod_add_div v 4294967296
 have E:∀ a b:Int,PV.bin .shr (.int .u64 a) (.int .u64 b)=shift .shr .u64 a b:=fun _ _=>rfl;have i:shift .shr .u64 (v:Int) 32=some (.int .u64 ((v/4294967296:Nat):Int)):=by
  unfold shift;rw[if_neg (by decide)];simp only;have:min (Int.toNat 32) IntKind.u64.bits=32:=by decide
  rw[this];rw[show (2:Int) ^ 32=4294967296 by decide,w]
 simp only[go_sem,JX,Qb,Qc,Hg,u,i,y];have B:(2:Nat)*1≤16777216:=by decide
 simp only[go_sem,Qd];refine aA (d [v%4294967296,v/4294967296] e (by simp)) rfl ?_;have p:=fM e;rw[c] at p ⊢;have A:((nl v:Nat):Int)≤((2:Nat):Int):=by simp at p; omega
 simp only[go_sem,A,or_true,a8R];refine aQ (.inr rfl) rfl ?_;have:=kJ e;rw[c] at this;rw[← this,Ba];rfl
theorem Qy {C:Ctx} (xs:List Nat) (d:Lim xs) (l:xs.length≤35184372087808) (c:aH C 138 [aJ xs] .nil (aF (.int .i64 (nl (val xs):Nat)))) :
  KB.wp C (aV Hi.res (bY (aJ (aI (val xs))))) (PF.args [aJ xs]) .nil:=by
 simp only[go_sem,KB,Qz,Q1,Hi];refine aA c rfl ?_;have p:=fM d;have e:((nl (val xs):Nat):Int)≤(xs.length:Nat):=Om;simp only[go_sem,e,or_true,a8R];refine fI (rows:=[]) (src:=aL (aI (val xs))) .nil ?_ ?_ fun v H' i _=>?_
 ·simp only[go_sem];rw[← kJ d,← List.map_take]
 ·unfold roomFor;rw[cA];have:(aI (val xs)).length=nl (val xs):=rfl;simp only[a9W,maxLen];omega
 ·exact qL (.inr rfl) (by simpa using i) rfl
end Go.PM
theorem Sq {p:Prop} (h:p:=by simp only[go_sem]):p:=h
theorem Ev {p:Prop} (h:p:=by simp only[go_sem]<;>rfl):p:=h
namespace Go.PM
open Go Go.Na
def amJ (xs ys:List Nat) (i:Int):PF:=(((PF.nil.set 0 (aJ xs)).set 1 (aJ ys)).set 7 (.int .i64 i))
theorem abW {C:Ctx} (xs ys:List Nat) (E:Lim xs) (F:Lim ys) (Y:xs.length≤35184372087808) (Z:ys.length≤35184372087808) (q:aH C 138 [aJ xs] .nil (aF (.int .i64 (nl (val xs):Nat)))) (u:aH C 138 [aJ ys] .nil (aF (.int .i64 (nl (val ys):Nat)))) :
  QX.wp C (aV amI.res (aF (.int .i64 (dP (val xs) (val ys))))) (PF.args [aJ xs,aJ ys]) .nil:=by
 simp only[go_sem,QX,abX,abY,amI];refine aA q Ev ?_;simp only[go_sem];refine aA u Ev ?_;simp only[go_sem,abZ];have S:=fM E;have N:=fM F;by_cases U:nl (val xs)<nl (val ys)
 ·have c:((nl (val xs):Nat):Int)<(nl (val ys):Nat):=Om;simp only[go_sem,c,acA];refine aQ (.inr rfl) Ev ?_;have:val xs<val ys:=by
   rcases a8D (val xs) (val ys) with h | h
   ·exact h
   ·have:=fT h; omega
  simp[bO,dP,this]
 have c:¬ ((nl (val xs):Nat):Int)<(nl (val ys):Nat):=Om;simp only[go_sem,c,acB];by_cases V:nl (val xs)>nl (val ys)
 ·have d:((nl (val xs):Nat):Int)>(nl (val ys):Nat):=Om;simp only[go_sem,d,acC];refine aQ (.inr rfl) Ev ?_;have:val ys<val xs:=by
   rcases a8D (val ys) (val xs) with h | h
   ·exact h
   ·have:=fT h; omega
  have l:¬ val xs<val ys:=Om;simp[bO,dP,this,l]
 have d:¬ ((nl (val xs):Nat):Int)>(nl (val ys):Nat):=Om;have R:nl (val xs)=nl (val ys):=Om;simp only[go_sem,d,acD];have ex:=aW (val xs);have i:=aW (val ys);have K:=aX (val xs);have M:=aX (val ys);refine wp_loop (α:=Nat) (fun k=>amJ xs ys ((k:Int)-1)) (fun _=>.nil) (fun k=>k≤nl (val xs)∧(aI (val xs)).drop k=(aI (val ys)).drop k) (fun k=>k) (nl (val xs)) ⟨a7M _,?_⟩ ?_ a_ ?_
 ·rw[bbA (by rw[nl]; exact a7M _),bbA (by rw[R,nl]; exact a7M _)]
 ·unfold amJ
  (repeat' (first|exact c_|refine d_ ?_ ?_))<;>first|(simp only[go_sem,wrap_i64 (show -9223372036854775808≤((nl (val xs):Nat):Int)-1 by omega) (show ((nl (val xs):Nat):Int)-1≤9223372036854775807 by omega)]<;>rfl)|rfl
 rintro k ⟨X,e⟩;simp only[go_sem,Pz,acE,amJ];by_cases W:0<k
 ·obtain⟨m,rfl⟩:∃ m,k=m+1:=⟨k-1,by omega⟩;have w:((m+1:Nat):Int)-1=(m:Int):=Om;have p:(m:Int)≥0:=Om;obtain⟨H,x,y⟩:=Iq E (Om:m<nl (val xs));obtain⟨J,A,B⟩:=Iq F (Om:m<nl (val ys));simp only[go_sem,w,p];refine bW .nil eT a_ ?_;simp only[go_sem,acF,bU xs H,bU ys J];by_cases O:xs[m]<ys[m]
  ·simp only[go_sem,show ((xs[m]:Nat):Int)<(ys[m]:Nat) by omega,acG];refine aQ (.inr rfl) Ev ?_;have:=ia K x A e (by rw[← y,← B]; exact O);rw[ex,i] at this;simp[bO,dP,this]
  ·simp only[go_sem,show ¬ ((xs[m]:Nat):Int)<(ys[m]:Nat) by omega];refine bW .nil eT a_ ?_;simp only[go_sem,P0,bU xs H,bU ys J];by_cases Q:xs[m]>ys[m]
   ·simp only[go_sem,show ((xs[m]:Nat):Int)>(ys[m]:Nat) by omega,P1];refine aQ (.inr rfl) Ev ?_;have:=ia M A x e.symm (by rw[← y,← B]; exact Q);rw[ex,i] at this;have l:¬ val xs<val ys:=Om;simp[bO,dP,this,l]
   ·simp only[go_sem,show ¬ ((xs[m]:Nat):Int)>(ys[m]:Nat) by omega,P2];refine aD m ⟨by omega,zd x A e (by rw[← y,← B]; omega)⟩ Om ?_ a_
    (repeat' (first|exact c_|refine d_ ?_ ?_))<;>first|(simp only[go_sem,wrap_i64 (Om:-9223372036854775808≤(m:Int)-1) (Om:(m:Int)-1≤9223372036854775807)]<;>rfl)|rfl
 ·have:k=0:=Om;subst this;have w:¬ ((0:Nat):Int)-1≥0:=by decide
  simp only[go_sem,w,P3];refine aQ (.inr rfl) Ev ?_;rw[a8R,a8R] at e;have:val xs=val ys:=by rw[← ex,← i,e]
  simp[bO,dP,this]
def Pm (k:Nat) (v:Nat):PF:=((PF.nil.set 4 (.int .i64 k)).set 5 (.int .u32 v))
theorem Po {C:Ctx} (xs:List Nat) (u:Lim xs) (S:xs.length≤35184372087808) (w:aH C 138 [aJ xs] .nil (aF (.int .i64 (nl (val xs):Nat)))) :
  JQ.wp C (aV Hf.res (aF (.int .i64 (cM (val xs):Nat)))) (PF.args [aJ xs]) .nil:=by
 simp only[go_sem,JQ,Pp,Pq,Hf];refine aA w Ev ?_;simp only[go_sem,Ps];have Q:=fM u;by_cases J:nl (val xs)=0
 ·simp only[go_sem,bL (show ((nl (val xs):Nat):Int)=0 by omega),Pt];refine aQ (.inr rfl) Ev ?_;have:val xs=0:=hZ.1 J;simp[bO,this,jN]
 obtain⟨n,H⟩:∃ n,nl (val xs)=n+1:=⟨nl (val xs)-1,by omega⟩;obtain⟨t,p,x⟩:=Sz u H;have q:t<4294967296:=u t (baC p);have c:n<xs.length:=Om;have O:val xs=val (xs.take n)+4294967296 ^ n*t:=by
  have e:=kJ u;have:=aW (val xs);have N:xs[n]=t:=by rw[a7U c] at p; exact a9V.inj p
  rw[← e,H,a9E c,N,fX,a8A,a9S Om] at this;simp only[val,Nat.mul_zero,a9M] at this;exact this.symm
 have R:cM (val xs)=32*n+cM t:=by
  have B:=fC (u.take n);rw[a8A,a9S Om] at B;rw[O,show (4294967296:Nat) ^ n=2 ^ (32*n) by rw[Nat.pow_mul]] at *
  exact Ir B x
 have d:(aL xs)[n]?=some [.int .u32 (t:Nat)]:=by rw[bU xs c];rw[a7U c] at p;rw[a9V.inj p]
 have K:IntKind.i64.wrap (((nl (val xs):Nat):Int)-1)=(n:Int):=by rw[wrap_i64 Om Om]; omega
 have M:IntKind.i64.wrap ((n:Int)*32)=((32*n:Nat):Int):=by rw[wrap_i64 Om Om]; omega
 simp only[go_sem,bF (show ((nl (val xs):Nat):Int)≠0 by omega),Pu,Pv,K,M,d];refine wp_loop (α:=Nat × Nat) (fun a=>Pm a.1 a.2) (fun _=>.nil) (fun a=>a.1+cM a.2=32*n+cM t∧a.2<4294967296) (fun a=>a.2) (32*n,t) ⟨rfl,q⟩ ?_ a_ ?_
 ·unfold Pm;exact Lq
 rintro⟨k,v⟩ ⟨E,hlt⟩;simp only at E hlt;have F:cM t≤32:=(lT t 32).2 q;simp only[go_sem,Pn,Pw,Pm];by_cases A:(v:Int)>0
 ·have y:v≠0:=Om;have i:PV.bin .shr (.int .u32 (v:Int)) (.int .u64 1)=some (.int .u32 ((v/2:Nat):Int)):=by
   show shift .shr .u32 (v:Int) 1=_;unfold shift;rw[if_neg (by decide)];simp only;have:min (Int.toNat 1) IntKind.u32.bits=1:=by decide
   rw[this,show (2:Int) ^ 1=2 by decide,Int.fdiv_eq_ediv_of_nonneg _ (by decide)];rfl
  have l:shift .shr .u32 (v:Int) 1=some (.int .u32 ((v/2:Nat):Int)):=i;simp only[go_sem,A,Px,Py,i,l,wZz k];refine aD (k+1,v/2) ⟨?_,?_⟩ (Nat.div_lt_self Om (by decide)) ?_ a_
  ·have:=pD y;simp only; omega
  ·simp only; omega
  ·exact Lq
 ·have:v=0:=Om;subst this;simp only[go_sem,A,Bi];refine aQ (.inr rfl) Ev ?_;rw[jN] at E;simp only[bO,PV.int.injEq,true_and];omega
structure pS (C:Ctx):Prop where
 length:∀ xs,Lim xs→xs.length≤35184372087808→aH C 138 [aJ xs] .nil (aF (.int .i64 (nl (val xs):Nat)))
 large:∀ xs,Lim xs→xs.length≤35184372087808→aH C 137 [aJ xs] .nil (aF (.bool (decide (nl (val xs)>512))))
 sized:∀ xs,Lim xs→xs.length≤35184372087808→aH C 141 [aJ xs] .nil (aF (szV (val xs)))
 trim:∀ xs,Lim xs→xs.length≤35184372087808→aH C 135 [aJ xs] .nil (aF (aJ (aI (val xs))))
 make:∀ v:Nat,v<18446744073709551616→aH C 132 [.int .u64 v] .nil (aF (aJ (aI v)))
 cmp:∀ xs ys,Lim xs→Lim ys→xs.length≤35184372087808→ys.length≤35184372087808→aH C 129 [aJ xs,aJ ys] .nil (aF (.int .i64 (dP (val xs) (val ys))))
def jE:PV→List Nat
 | .sl _ rows=>rows.map fun r=>match r with | [.int _ n]=>n.toNat | _=>0
 | _=>[]
theorem eG (xs:List Nat):jE (aJ xs)=xs:=by
 simp[jE,List.map_map,Function.comp_def]
def amH:Spec:=fun name vs=>match name,vs with
 | 138,[x]=>some ([],fun _=>aF (.int .i64 (nl (val (jE x)):Nat)))
 | _,_=>none
theorem oJ (xs:List Nat):amH 138 [aJ xs]=some ([],fun _=>aF (.int .i64 (nl (val xs):Nat))):=by
 show some _=_; rw[eG]
theorem yQ (P:List Nat) (k v:Nat):(P++a7K (k+1) 0).set P.length v=(P++[v])++a7K k 0:=by
 rw[baD _ _ (a7M _),baG,List.replicate_succ,bbC,a8Q];rfl
theorem fN (L:List Nat) (i v:Nat):(aL L).set i [.int .u32 (v:Int)]=aL (L.set i v):=by
 unfold aL; rw[List.map_set]
theorem jL (P:List Nat) (v:Nat):val (P++[v])=val P+4294967296 ^ P.length*v:=by
 rw[fX]; simp[val]
theorem cF (xs:List Nat) {i:Nat} (h:i<xs.length):val (xs.take (i+1))=val (xs.take i)+4294967296 ^ i*xs[i]:=by
 rw[a9E h,jL,a8A,a9S Om]
theorem xL {v:Nat}:shift .shr .u64 (v:Int) 32=some (.int .u64 ((v/4294967296:Nat):Int)):=by
 unfold shift;rw[if_neg (by decide)];simp only;have:min (Int.toNat 32) IntKind.u64.bits=32:=by decide
 rw[this,show (2:Int) ^ 32=4294967296 by decide,Int.fdiv_eq_ediv_of_nonneg _ (by decide)];rfl
theorem fD {a b:Nat} (h:a+b<18446744073709551616):IntKind.u64.wrap ((a:Int)+(b:Int))=((a+b:Nat):Int):=by
 rw[wrap_u64 Om Om]; omega
theorem bE {a:Nat} (h:a<18446744073709551616):IntKind.u64.wrap (a:Int)=(a:Int):=wrap_u64 Om Om
def ll (a b:List Nat) (o i c:Nat):PF:=(((((((PF.nil.set 0 (aJ a)).set 1 (aJ b)).set 6 (.osl o 1 0 (a.length+1))).set 7 (.int .u64 c)).set 35 (.int .i64 (a.length:Nat))).set 34 (aJ a)).set 36 (.int .i64 i))
theorem A9 {C:Ctx} (L:pS C) (a b:List Nat) (ha:Lim a) (hb:Lim b) (hl:b.length≤a.length) (h1:a.length≤1000) (F:PF) (f0:F 0=some (aJ a)) (f1:F 1=some (aJ b)) :
  aC.wp C (.seq (.region vh) (.seq (.region vi) (.seq (.seq (.region vj) (.block 0 (.loop cd))) (.seq (.region ch) (.seq (.region ci) .ret))))) (aV [.tmp 4,.tmp 5] (bY (szV (val a+val b)))) F .nil:=by
 have O:IntKind.i64.wrap ((a.length:Int)+1)=((a.length+1:Nat):Int):=cZ Om;have η:((a.length+1:Nat):Int)*((4:Nat):Int)≤140737488355328:=Om;have θ:((a.length+1:Nat):Int)≤9223372036854775807:=Om;have hz:a7K (a.length+1) [PV.int .u32 0]=aL ([]++a7K (a.length+1) 0):=by simp[aL]
 simp only[go_sem,vh,f0,O,η,θ,hz];refine aR fun o ho=>?_;simp only[go_sem,vi,vj,f0];refine wp_loop (α:=List Nat × Nat × Nat) (fun s=>ll a b s.2.2 s.1.length s.2.1) (fun s=>PH.nil.set s.2.2 (.rows 1 (aL (s.1++a7K (a.length+1-s.1.length) 0))))
  (fun s=>s.1.length≤a.length∧Lim s.1∧s.2.1≤1∧val s.1+4294967296 ^ s.1.length*s.2.1=val (a.take s.1.length)+val (b.take s.1.length)) (fun s=>a.length-s.1.length) ([],0,o) ⟨by simp,by simp[Lim],by simp,by simp[val]⟩ ?_ ?_ ?_
 ·unfold ll;exact Lq
 ·exact PH.aK a_ (by simp only[go_sem,a9W])
 rintro⟨P,c,q⟩ ⟨hP,d,hc,w⟩;simp only at hP d hc w;simp only[go_sem,cd,abV,ll];by_cases V:P.length<a.length
 ·have A:(P.length:Int)<(a.length:Nat):=Om;have ι:=ha _ (a7J V);obtain⟨k,S⟩:∃ k,a.length+1-P.length=k+1:=⟨a.length-P.length,by omega⟩;have H:(aL (P++a7K (k+1) 0))[P.length]?=some [.int .u32 ((0:Nat):Int)]:=by rw[bU _ (by simp)]; simp
  have i:a.length+1-(P.length+1)=k:=Om;have B:(P.length:Int)<((a.length+1:Nat):Int):=Om;have fin:∀ (t:Nat) (p:PF) (H':PH),t<2*4294967296→val P+4294967296 ^ P.length*t=val (a.take (P.length+1))+val (b.take (P.length+1)) →
    p 0=some (aJ a)→p 1=some (aJ b)→p 6=some (.osl q 1 0 (a.length+1))→p 7=some (.int .u64 (t:Nat))→p 8=some (.int .i64 P.length)→p 34=some (aJ a)→p 35=some (.int .i64 (a.length:Nat))→p 36=some (.int .i64 P.length) →
    H' q=some (.rows 1 (aL (P++a7K (k+1) 0)))→∀ K:bR,(∀ u y R H2,u.length=P.length+1→Lim u→y≤1→val u+4294967296 ^ u.length*y=val (a.take (P.length+1))+val (b.take (P.length+1))→(ll a b q u.length y).le R→H2 q=some (.rows 1 (aL (u++a7K k 0)))→K .normal R H2) →
    aC.wp C (.seq (.region ce) (.region cf)) (eX 1 (gE C (aC.wp C (.region cg)) K)) p H':=by
   intro t p H' ht hv g0 g1 g6 g7 g8 γ δ ε gH K hK;have l:(aL (P++a7K (k+1) 0)).set P.length [.int .u32 ((t%4294967296:Nat):Int)]=aL ((P++[t%4294967296])++a7K k 0):=by rw[fN,yQ]
   simp only[go_sem,ce,g6,g8,g7,cL,B,gH,H,l,cf,xL,cg,ε,cZ (Om:P.length<9223372036854775807)];refine hK (P++[t%4294967296]) (t/4294967296) _ _ (by simp) (d.app fun x U=>by simp at U; subst U; exact a8Z _ (by decide)) Om ?_ ?_ Sq
   ·rw[jL,a7O,a7S,a9D,a8H,a9R,← a7V,Nat.mod_add_div];exact hv
   ·unfold ll;rw[a7O,a7S];refine d_ (d_ (d_ (d_ (d_ (d_ (d_ c_ ?_) ?_) ?_) ?_) ?_) ?_) ?_<;>simp only[go_sem,g0,g1,g6,γ,δ]
  have Q:=cF a V;have ea:IntKind.u64.wrap ((a[P.length]:Nat):Int)=((a[P.length]:Nat):Int):=bE Om;have es:IntKind.u64.wrap ((c:Nat)+((a[P.length]:Nat):Int))=((c+a[P.length]:Nat):Int):=fD Om;simp only[go_sem,A,Pf,Pg,bU a V,ea,es,Ph];by_cases W:P.length<b.length
  ·have E:(P.length:Int)<(b.length:Nat):=Om;have κ:=hb _ (a7J W);have J:=cF b W;have eb:IntKind.u64.wrap ((b[P.length]:Nat):Int)=((b[P.length]:Nat):Int):=bE Om;have β:IntKind.u64.wrap (((c+a[P.length]:Nat):Int)+((b[P.length]:Nat):Int))=((c+a[P.length]+b[P.length]:Nat):Int):=fD Om;simp only[go_sem,E,Pi,bU b W,eb,β];refine fin (c+a[P.length]+b[P.length]) _ _ Om ?_ ?_ ?_ ?_ ?_ ?_ ?_ ?_ ?_ ?_ _ ?_
   ·rw[Q,J,a7V,a7V]; omega
   any_goals simp only[go_sem,S]
   intro u y R H2 M X Y N Z e6;rw[← M] at N;refine aD (u,y,q) ⟨by simp only; omega,X,Y,N⟩ (by simp only; omega) Z (PH.aK a_ ?_);simp only;rw[M,i]; exact e6
  ·have E:¬ (P.length:Int)<(b.length:Nat):=Om;have J:val (b.take (P.length+1))=val (b.take P.length):=by rw[a8C Om,a8C Om]
   simp only[go_sem,E];refine fin (c+a[P.length]) _ _ Om ?_ ?_ ?_ ?_ ?_ ?_ ?_ ?_ ?_ ?_ _ ?_
   ·rw[Q,J,a7V]; omega
   any_goals simp only[go_sem,S]
   intro u y R H2 M X Y N Z e6;rw[← M] at N;refine aD (u,y,q) ⟨by simp only; omega,X,Y,N⟩ (by simp only; omega) Z (PH.aK a_ ?_);simp only;rw[M,i]; exact e6
 ·have e:P.length=a.length:=Om;have A:¬ (P.length:Int)<(a.length:Nat):=Om;have S:a7K (a.length+1-P.length) 0=[0]:=by rw[show a.length+1-P.length=1 by omega]; rfl
  have H:(aL (P++[0]))[a.length]?=some [.int .u32 ((0:Nat):Int)]:=by rw[bU _ (by simp; omega)];simp[e]
  have l:(aL (P++[0])).set a.length [.int .u32 ((c%4294967296:Nat):Int)]=aL (P++[c]):=by have:=yQ P 0 (c%4294967296);simp only[List.replicate_zero,a9G,a8E,List.replicate_one] at this;rw[← e,fN,this,a8T Om]
  have B:(a.length:Int)<((a.length+1:Nat):Int):=Om;have hV:val (P++[c])=val a+val b:=by rw[jL,w,e,a8I,a8C hl]
  have ζ:Lim (P++[c]):=d.app fun x U=>by simp at U; omega
  simp only[go_sem,A,ch,cL,S,H,B,l,ci];have hs:=L.sized _ ζ (by simp; omega);rw[hV] at hs;refine qO (o:=q) (s:=1) (k:=a.length+1) (rs:=aL (P++[c])) (v:=szV (val a+val b)) ?_ rfl Sq (by rw[cA]; simp; omega) ?_
  ·rw[a8C (by rw[cA]; simp; omega)]; exact hs
  ·simp only[go_sem,szV];exact bA (.inr rfl) .nil rfl a_ ⟨.refl _,rfl⟩
def opV (big:Bool) (n:Nat):PV:=if big then .tup [aJ [],.int .i64 2] else szV n
def dY (a b:Nat):Bool:=decide (nl a>512)||decide (nl b>512)
theorem eR {res:List dV} {F:PF} {H:PH} {e:Int} (h:dV.evs F H res=some [.aB,.int .i64 e]):aV res (bY (.tup [aJ [],.int .i64 e])) .ret F H:=by
 refine bA (.inr rfl) .nil h a_ ⟨?_,rfl⟩;refine .tup rfl fun j p q c d=>?_
 match j with
 | 0=>simp at c d; subst c; subst d; exact .nil 1
 | 1=>simp at c d; subst c; subst d; exact .refl _
 | j+2=>simp at c
theorem bB (n:Nat):(aI n).length=nl n:=rfl
theorem jI {xs:List Nat} (h:Lim xs):(xs.map fun (n:Nat)=>[PV.int .u32 (n:Int)]).take (nl (val xs))=(aI (val xs)).map fun (n:Nat)=>[PV.int .u32 (n:Int)]:=by
 rw[← List.map_take,kJ h]
theorem abP {C:Ctx} (L:pS C) (a b:List Nat) (l:Lim a) (p:Lim b) (w:a.length≤35184372087808) (x:b.length≤35184372087808) :
  QW.wp C (aV amG.res (bY (opV (dY (val a) (val b)) (val a+val b)))) (PF.args [aJ a,aJ b]) .nil:=by
 simp only[go_sem,QW,abQ,abR,amG];refine aA (L.large a l w) rfl ?_;by_cases d:nl (val a)>512
 ·simp only[go_sem,d,vf];rw[show opV (dY (val a) (val b)) (val a+val b)=.tup [aJ [],.int .i64 2] by simp[opV,dY,d]];exact eR rfl
 simp only[go_sem,d];refine aA (L.large b p x) rfl ?_;by_cases i:nl (val b)>512
 ·simp only[go_sem,i,vf];rw[show opV (dY (val a) (val b)) (val a+val b)=.tup [aJ [],.int .i64 2] by simp[opV,dY,i]];exact eR rfl
 have e:opV (dY (val a) (val b)) (val a+val b)=szV (val a+val b):=by simp[opV,dY,d,i]
 rw[e];simp only[go_sem,i];refine bW .nil amH a_ ?_;simp only[go_sem,abS];have E:=fM l;have F:=fM p;have q:((nl (val a):Nat):Int)≤(a.length:Nat):=Om;have u:((nl (val b):Nat):Int)≤(b.length:Nat):=Om;refine bP (oJ a) (L.length a l w) rfl a_ ?_;simp only[go_sem,q,or_true,a8R,jI l];refine bP (oJ b) (L.length b p x) rfl a_ ?_;simp only[go_sem,u,or_true,a8R,jI p,abT,bB];have y:=aW (val a);have A:=aW (val b);by_cases B:nl (val a)<nl (val b)
 ·have c:((nl (val a):Nat):Int)<(nl (val b):Nat):=Om;simp only[go_sem,c,abU];have:=A9 L (aI (val b)) (aI (val a)) (aX _) (aX _) (by rw[bB,bB]; omega) (by rw[bB]; omega);rw[y,A,Nat.add_comm] at this;exact this _ rfl rfl
 ·have c:¬ ((nl (val a):Nat):Int)<(nl (val b):Nat):=Om;simp only[go_sem,c];have:=A9 L (aI (val a)) (aI (val b)) (aX _) (aX _) (by rw[bB,bB]; omega) (by rw[bB]; omega);rw[y,A] at this;exact this _ rfl rfl
theorem fU (n:Int):IntKind.u64.wrap n=n%18446744073709551616:=by simp[IntKind.wrap,IntKind.bits,IntKind.signed]
theorem YQ (n:Int):IntKind.u32.wrap n=n%4294967296:=by simp[IntKind.wrap,IntKind.bits,IntKind.signed]
theorem anP {v:Int}:shift .shr .u64 v 63=some (.int .u64 (v/9223372036854775808)):=by
 unfold shift;rw[if_neg (by decide)];simp only;have:min (Int.toNat 63) IntKind.u64.bits=63:=by decide
 rw[this,show (2:Int) ^ 63=9223372036854775808 by decide,Int.fdiv_eq_ediv_of_nonneg _ (by decide)]
def TD (a bor b:Nat):Nat:=(a+4294967296-bor-b)%4294967296
def dk (a bor b:Nat):Nat:=if a<bor+b then 1 else 0
theorem St {a bor b:Nat} (c:a<4294967296) (d:b<4294967296) (e:bor≤1) (v:Int) (i:v=((a:Int)-bor-b)%18446744073709551616) :
  IntKind.u32.wrap v=((TD a bor b:Nat):Int)∧v/9223372036854775808=((dk a bor b:Nat):Int)∧a+4294967296*dk a bor b=TD a bor b+b+bor∧TD a bor b<4294967296:=by
 rw[YQ];unfold TD dk;split<;>omega
def mg (a b:List Nat) (o i c:Nat):PF:=(((((((PF.nil.set 0 (aJ a)).set 1 (aJ b)).set 6 (.osl o 1 0 a.length)).set 7 (.int .u64 c)).set 33 (aJ a)).set 34 (.int .i64 (a.length:Nat))).set 35 (.int .i64 i))
theorem auL {C:Ctx} (L:pS C) (a b:List Nat) (ha:Lim a) (hb:Lim b) (η:val b≤val a) (hl:b.length≤a.length) (h1:a.length≤1000) (F:PF) (f0:F 0=some (aJ a)) (f1:F 1=some (aJ b)) :
  aC.wp C (.seq (.region v7) (.seq (.region v8) (.seq (.seq (.region wa) (.block 1 (.loop cr))) (.seq (.region cx) .ret)))) (aV [.tmp 4,.tmp 5] (bY (szV (val a-val b)))) F .nil:=by
 have δ:(a.length:Int)*((4:Nat):Int)≤140737488355328:=Om;have ε:(a.length:Int)≤9223372036854775807:=Om;have hz:a7K a.length [PV.int .u32 0]=aL ([]++a7K a.length 0):=by simp[aL]
 simp only[go_sem,v7,f0,δ,ε,hz];refine aR fun o ho=>?_;simp only[go_sem,v8,wa,f0];refine wp_loop (α:=List Nat × Nat × Nat) (fun s=>mg a b s.2.2 s.1.length s.2.1) (fun s=>PH.nil.set s.2.2 (.rows 1 (aL (s.1++a7K (a.length-s.1.length) 0))))
  (fun s=>s.1.length≤a.length∧Lim s.1∧s.2.1≤1∧val (a.take s.1.length)+4294967296 ^ s.1.length*s.2.1=val s.1+val (b.take s.1.length)) (fun s=>a.length-s.1.length) ([],0,o) ⟨by simp,by simp[Lim],by simp,by simp[val]⟩ ?_ ?_ ?_
 ·unfold mg;exact Lq
 ·exact PH.aK a_ (by simp only[go_sem,a9W])
 rintro⟨P,c,q⟩ ⟨hP,d,hc,y⟩;simp only at hP d hc y;simp only[go_sem,cr,adI,mg];by_cases R:P.length<a.length
 ·have w:(P.length:Int)<(a.length:Nat):=Om;have Z:=ha _ (a7J R);obtain⟨k,Q⟩:∃ k,a.length-P.length=k+1:=⟨a.length-P.length-1,by omega⟩;have γ:(aL (P++a7K (k+1) 0))[P.length]?=some [.int .u32 ((0:Nat):Int)]:=by rw[bU _ (by simp)]; simp
  have i:a.length-(P.length+1)=k:=Om;have ζ:=cF a R;have fin:∀ (t:Nat) (v:Int) (p:PF) (H':PH),t<4294967296→v=((a[P.length]:Int)-c-t)%18446744073709551616→val (b.take (P.length+1))=val (b.take P.length)+4294967296 ^ P.length*t →
    p 0=some (aJ a)→p 1=some (aJ b)→p 6=some (.osl q 1 0 a.length)→p 9=some (.int .u64 v)→p 8=some (.int .i64 P.length)→p 33=some (aJ a)→p 34=some (.int .i64 (a.length:Nat))→p 35=some (.int .i64 P.length) →
    H' q=some (.rows 1 (aL (P++a7K (k+1) 0)))→∀ K:bR,(∀ u A O H2,u.length=P.length+1→Lim u→A≤1→val (a.take (P.length+1))+4294967296 ^ u.length*A=val u+val (b.take (P.length+1))→(mg a b q u.length A).le O→H2 q=some (.rows 1 (aL (u++a7K k 0)))→K .normal O H2) →
    aC.wp C (.seq (.region cu) (.region cv)) (eX 2 (gE C (aC.wp C (.region cw)) K)) p H':=by
   intro t v p H' ht hv l g0 g1 g6 g9 g8 W X Y gH K hK;obtain⟨E,J,M,H⟩:=St Z ht hc v hv;have N:(aL (P++a7K (k+1) 0)).set P.length [.int .u32 ((TD a[P.length] c t:Nat):Int)]=aL ((P++[TD a[P.length] c t])++a7K k 0):=by rw[fN,yQ]
   simp only[go_sem,cu,g6,g8,g9,E,w,gH,γ,N,cv,anP,J,cw,Y,cZ (Om:P.length<9223372036854775807)];refine hK (P++[TD a[P.length] c t]) (dk a[P.length] c t) _ _ (by simp) (d.app fun x hx=>by simp at hx; subst hx; exact H) (by unfold dk; split<;>omega) ?_ ?_ Sq
   ·rw[jL,a7O,a7S,a9D,a8H,ζ,l,a9R,← a7V,M,a7V,a7V];omega
   ·unfold mg;rw[a7O,a7S];refine d_ (d_ (d_ (d_ (d_ (d_ (d_ c_ ?_) ?_) ?_) ?_) ?_) ?_) ?_<;>simp only[go_sem,g0,g1,g6,W,X]
  have ea:IntKind.u64.wrap ((a[P.length]:Nat):Int)=((a[P.length]:Nat):Int):=bE Om;simp only[go_sem,w,Qs,Qt,bU a R,ea,Qu];by_cases S:P.length<b.length
  ·have B:(P.length:Int)<(b.length:Nat):=Om;have β:=hb _ (a7J S);have l:=cF b S;have eb:IntKind.u64.wrap ((b[P.length]:Nat):Int)=((b[P.length]:Nat):Int):=bE Om;simp only[go_sem,B,Qv,bU b S,eb];refine fin b[P.length] (IntKind.u64.wrap (IntKind.u64.wrap ((a[P.length]:Int)-(c:Int))-(b[P.length]:Int))) _ _ β (by rw[fU,fU]; omega) l ?_ ?_ ?_ ?_ ?_ ?_ ?_ ?_ ?_ _ ?_
   any_goals simp only[go_sem,Q]
   intro u A O H2 E J M H U V;rw[← E] at H;refine aD (u,A,q) ⟨by simp only; omega,J,M,H⟩ (by simp only; omega) U (PH.aK a_ ?_);simp only;rw[E,i]; exact V
  ·have B:¬ (P.length:Int)<(b.length:Nat):=Om;have l:val (b.take (P.length+1))=val (b.take P.length)+4294967296 ^ P.length*0:=by rw[a8C Om,a8C Om]; simp
   simp only[go_sem,B];refine fin 0 (IntKind.u64.wrap ((a[P.length]:Int)-(c:Int))) _ _ (by decide) (by rw[fU]; omega) l ?_ ?_ ?_ ?_ ?_ ?_ ?_ ?_ ?_ _ ?_
   any_goals simp only[go_sem,Q]
   intro u A O H2 E J M H U V;rw[← E] at H;refine aD (u,A,q) ⟨by simp only; omega,J,M,H⟩ (by simp only; omega) U (PH.aK a_ ?_);simp only;rw[E,i]; exact V
 ·have e:P.length=a.length:=Om;have w:¬ (P.length:Int)<(a.length:Nat):=Om;have Q:a7K (a.length-P.length) 0=[]:=by rw[show a.length-P.length=0 by omega]; rfl
  have hV:val P=val a-val b:=by
   rw[e,a8I,a8C hl] at y;have hlt:=fC d;rw[e] at hlt;rcases a9Q c with h | h
   ·subst h; omega
   ·have:c=1:=Om;subst this; omega
  simp only[go_sem,w,Q,a9G,cx];have hs:=L.sized _ d Om;rw[hV] at hs;refine qO (o:=q) (s:=1) (k:=a.length) (rs:=aL P) (v:=szV (val a-val b)) ?_ rfl Sq (by rw[cA]; omega) ?_
  ·rw[a8C (by rw[cA]; omega)]; exact hs
  ·simp only[go_sem,szV];exact bA (.inr rfl) .nil rfl a_ ⟨.refl _,rfl⟩
def rP (a b:Nat):PV:=if dY a b then .tup [aJ [],.int .i64 2] else if a<b then .tup [aJ [],.int .i64 4] else szV (a-b)
theorem adC {C:Ctx} (L:pS C) (a b:List Nat) (e:Lim a) (i:Lim b) (w:a.length≤35184372087808) (x:b.length≤35184372087808) :
  RG.wp C (aV amV.res (bY (rP (val a) (val b)))) (PF.args [aJ a,aJ b]) .nil:=by
 simp only[go_sem,RG,adD,adE,amV];refine aA (L.large a e w) rfl ?_;by_cases c:nl (val a)>512
 ·simp only[go_sem,c,v6];rw[show rP (val a) (val b)=.tup [aJ [],.int .i64 2] by simp[rP,dY,c]];exact eR rfl
 simp only[go_sem,c];refine aA (L.large b i x) rfl ?_;by_cases d:nl (val b)>512
 ·simp only[go_sem,d,v6];rw[show rP (val a) (val b)=.tup [aJ [],.int .i64 2] by simp[rP,dY,d]];exact eR rfl
 simp only[go_sem,d,adF];refine aA (L.cmp a b e i w x) rfl ?_;by_cases l:val a<val b
 ·have u:dP (val a) (val b)<0:=by simp[dP,l]
  simp only[go_sem,u,adG];rw[show rP (val a) (val b)=.tup [aJ [],.int .i64 4] by simp[rP,dY,c,d,l]];exact eR rfl
 have u:¬ dP (val a) (val b)<0:=by unfold dP;rw[if_neg l];split<;>decide
 rw[show rP (val a) (val b)=szV (val a-val b) by simp[rP,dY,c,d,l]];simp only[go_sem,u];refine bW .nil amH a_ ?_;simp only[go_sem,adH];have B:=fM e;have E:=fM i;have p:((nl (val a):Nat):Int)≤(a.length:Nat):=Om;have q:((nl (val b):Nat):Int)≤(b.length:Nat):=Om;refine bP (oJ a) (L.length a e w) rfl a_ ?_;simp only[go_sem,p,or_true,a8R,jI e];refine bP (oJ b) (L.length b i x) rfl a_ ?_;simp only[go_sem,q,or_true,a8R,jI i];have y:=aW (val a);have A:=aW (val b);have F:=fT (Om:val b≤val a);have:=auL L (aI (val a)) (aI (val b)) (aX _) (aX _) Om (by rw[bB,bB]; omega) (by rw[bB]; omega);rw[y,A] at this;exact this _ rfl rfl
end Go.PM
namespace Go.Na
def dW:Nat→Nat→List Nat
 | 0,_=>[]
 | k+1,n=>(n%4294967296)::dW k (n/4294967296)
theorem lD:∀ k n,(dW k n).length=k
 | 0,_=>rfl
 | k+1,n=>by simp[dW,lD k]
theorem HK {xs:List Nat} (h:Lim xs):dW xs.length (val xs)=xs:=by
 induction xs with
 | nil=>rfl
 | cons x xs i =>have l:=h x (by simp);have c:(x+4294967296*val xs)%4294967296=x:=Om;have d:(x+4294967296*val xs)/4294967296=val xs:=Om;simp only[a8Y,dW,val];rw[c,d,i fun y e=>h y (by simp[e])]
theorem mL:∀ k n,Lim (dW k n)
 | 0,_=>fun x hx=>by cases hx
 | k+1,n=>fun x hx=>by
  simp only[dW,a7T] at hx;rcases hx with rfl | hx
  ·exact a8Z _ (by decide)
  ·exact mL k _ x hx
theorem AH:∀ k n,val (dW k n)=n%4294967296 ^ k
 | 0,n=>by simp[dW,val,Nat.mod_one]
 | k+1,n=>by simp only[dW,val,AH k];rw[a9D,a8L (4294967296 ^ k) 4294967296,Nat.mod_mul]
theorem oM {k n:Nat} (h:n<4294967296 ^ k):val (dW k n)=n:=by rw[AH,a8T h]
end Go.Na
namespace Go.PM
open Go Go.Na
theorem aZG {a b:Nat} (c:a<18446744073709551616) (d:b<18446744073709551616):(BitVec.ofInt 64 (a:Int) ||| BitVec.ofInt 64 (b:Int)).toNat=a ||| b:=by
 rw[BitVec.ofInt_natCast,BitVec.ofInt_natCast,BitVec.toNat_or,BitVec.toNat_ofNat,BitVec.toNat_ofNat,a8T (by simpa using c),a8T (by simpa using d)]
theorem Q5 {c x s:Nat} (d:c<2 ^ s) (h:c+2 ^ s*x<18446744073709551616):c ||| (2 ^ s*x)=c+2 ^ s*x:=by
 rw[Nat.or_comm,← Nat.two_pow_add_eq_or_of_lt d,Nat.add_comm]
theorem orI {a b n:Nat} (c:a<18446744073709551616) (d:b<18446744073709551616) (h:a ||| b=n) (e:n<18446744073709551616):kZ .or .u64 (a:Int) (b:Int)=some (.int .u64 (n:Int)):=by
 show some (PV.int .u64 (IntKind.u64.wrap (((BitVec.ofInt 64 (a:Int) ||| BitVec.ofInt 64 (b:Int)).toNat:Nat):Int)))=_;rw[aZG c d,h,bE e]
theorem LF {x s:Nat} (c:s≤64) (h:x*2 ^ s<18446744073709551616):shift .shl .u64 (x:Int) (s:Int)=some (.int .u64 ((2 ^ s*x:Nat):Int)):=by
 unfold shift;rw[if_neg Om];simp only;have:min (Int.toNat (s:Int)) IntKind.u64.bits=s:=by rw[show IntKind.u64.bits=64 from rfl]; omega
 rw[this,show (x:Int)*2 ^ s=((x*2 ^ s:Nat):Int) by simp,bE h,a8L]
def aHR (a:List Nat) (s o i c:Nat):PF:=(((((((PF.nil.set 0 (aJ a)).set 1 (.int .u64 s)).set 5 (.osl o 1 0 (a.length+1))).set 6 (.int .u64 c)).set 13 (aJ a)).set 14 (.int .i64 (a.length:Nat))).set 15 (.int .i64 i))
def upR (a:List Nat) (s:Nat) (r:PV) (H:PH):Prop:=∃ o,r=.osl o 1 0 (a.length+1)∧H=PH.nil.set o (.rows 1 (aL (dW (a.length+1) (val a*2 ^ s))))
theorem auM {C:Ctx} (a:List Nat) (s:Nat) (ha:Lim a) (hs:s<32) (h1:a.length≤1000):cy.wp C (aV nup.res (upR a s)) (PF.args [aJ a,.int .u64 s]) .nil:=by
 have F:IntKind.i64.wrap ((a.length:Int)+1)=((a.length+1:Nat):Int):=cZ Om;have S:((a.length+1:Nat):Int)*((4:Nat):Int)≤140737488355328:=Om;have U:((a.length+1:Nat):Int)≤9223372036854775807:=Om;have hz:a7K (a.length+1) [PV.int .u32 0]=aL ([]++a7K (a.length+1) 0):=by simp[aL]
 have N:2 ^ s≤2147483648:=baL (show 0<2 by decide) (Om:s≤31);have B:0<2 ^ s:=baB (by decide);simp only[go_sem,cy,auN,auO,nup,F,S,U,hz];refine aR fun o ho=>?_;simp only[go_sem,auP,auQ];refine wp_loop (α:=List Nat × Nat × Nat) (fun t=>aHR a s t.2.2 t.1.length t.2.1) (fun t=>PH.nil.set t.2.2 (.rows 1 (aL (t.1++a7K (a.length+1-t.1.length) 0))))
  (fun t=>t.1.length≤a.length∧Lim t.1∧t.2.1<2 ^ s∧val t.1+4294967296 ^ t.1.length*t.2.1=val (a.take t.1.length)*2 ^ s) (fun t=>a.length-t.1.length) ([],0,o) ⟨by simp,by simp[Lim],B,by simp[val]⟩ ?_ ?_ ?_
 ·unfold aHR;exact Lq
 ·exact PH.aK a_ (by simp only[go_sem,a9W])
 rintro⟨P,c,q⟩ ⟨Z,d,X,l⟩;simp only at Z d X l;simp only[go_sem,adJ,auR,aHR];by_cases J:P.length<a.length
 ·have p:(P.length:Int)<(a.length:Nat):=Om;have β:=ha _ (a7J J);obtain⟨k,R⟩:∃ k,a.length+1-P.length=k+1:=⟨a.length-P.length,by omega⟩;have w:(aL (P++a7K (k+1) 0))[P.length]?=some [.int .u32 ((0:Nat):Int)]:=by rw[bU _ (by simp)]; simp
  have A:a.length+1-(P.length+1)=k:=Om;have u:(P.length:Int)<((a.length+1:Nat):Int):=Om;have V:=cF a J;generalize W:a[P.length]=x at *
  have γ:x*2 ^ s≤4294967295*2147483648:=baP Om N;have ex:IntKind.u64.wrap ((x:Nat):Int)=((x:Nat):Int):=bE Om;have H:2 ^ s*x=x*2 ^ s:=a8L _ _;have M:shift .shl .u64 (x:Int) (s:Int)=some (.int .u64 ((2 ^ s*x:Nat):Int)):=LF Om Om;have K:=orI (a:=c) (b:=2 ^ s*x) (n:=c+2 ^ s*x) Om Om (Q5 X Om) Om;have E:(c+2 ^ s*x)/4294967296<2 ^ s:=by rw[baK (by decide)];have:2 ^ s*(x+1)≤2 ^ s*4294967296:=a9T _ Om;rw[a7V,Nat.mul_one] at this;omega
  have i:(aL (P++a7K (k+1) 0)).set P.length [.int .u32 (((c+2 ^ s*x)%4294967296:Nat):Int)]=aL ((P++[(c+2 ^ s*x)%4294967296])++a7K k 0):=by rw[fN,yQ]
  have Q:(aL a)[P.length]?=some [.int .u32 ((x:Nat):Int)]:=by rw[bU a J,W]
  simp only[go_sem,p,auS,auT,Q,ex,M,K,auU,cL,R,u,w,i,auV,xL,auW,cZ (Om:P.length<9223372036854775807)];refine aD (P++[(c+2 ^ s*x)%4294967296],(c+2 ^ s*x)/4294967296,q) ⟨by simp; omega,d.app fun y Y=>by simp at Y; subst Y; exact a8Z _ (by decide),E,?_⟩ (by simp; omega) ?_ (PH.aK a_ ?_)
  ·simp only;rw[jL,a7O,a7S,a9D,a8H,a9R,← a7V,Nat.mod_add_div,V,a7V,a8M,← a9R,l,H,a8H]
  ·simp only;rw[a7O,a7S];exact Lq
  ·simp only;rw[a7O,a7S,A];simp only[go_sem]
 ·have e:P.length=a.length:=Om;have p:¬ (P.length:Int)<(a.length:Nat):=Om;have R:a7K (a.length+1-P.length) 0=[0]:=by rw[show a.length+1-P.length=1 by omega]; rfl
  have w:(aL (P++[0]))[a.length]?=some [.int .u32 ((0:Nat):Int)]:=by rw[bU _ (by simp; omega)];simp[e]
  have i:(aL (P++[0])).set a.length [.int .u32 ((c%4294967296:Nat):Int)]=aL (P++[c]):=by have:=yQ P 0 (c%4294967296);simp only[List.replicate_zero,a9G,a8E,List.replicate_one] at this;rw[← e,fN,this,a8T Om]
  have u:(a.length:Int)<((a.length+1:Nat):Int):=Om;have hV:val (P++[c])=val a*2 ^ s:=by rw[jL,l,e,a8I]
  have O:Lim (P++[c]):=d.app fun x W=>by simp at W; omega
  have hD:dW (a.length+1) (val a*2 ^ s)=P++[c]:=by have:=HK O;rw[hV,a7O,a7S,e] at this;exact this
  simp only[go_sem,p,adK,cL,R,w,u,i,adL];exact bA (vs:=[.osl q 1 0 (a.length+1)]) (.inr rfl) (PH.nil.set q (.rows 1 (aL (P++[c])))) Ev (PH.aK a_ Sq) ⟨q,rfl,by rw[hD]⟩
def vz (a:List Nat) (d o k r:Nat):PF:=(((((PF.nil.set 0 (aJ a)).set 1 (.int .u32 d)).set 6 (.osl o 1 0 a.length)).set 7 (.int .u64 r)).set 8 (.int .i64 ((k:Int)-1)))
theorem Br {C:Ctx} (L:pS C) (a:List Nat) (d:Nat) (ha:Lim a) (i:0<d) (hd:d<4294967296) (h1:a.length≤1000) :
  DP.wp C (aV mb.res (aF (.tup [aJ (aI (val a/d)),.int .u32 ((val a%d:Nat):Int)]))) (PF.args [aJ a,.int .u32 d]) .nil:=by
 have W:(a.length:Int)*((4:Nat):Int)≤140737488355328:=Om;have X:(a.length:Int)≤9223372036854775807:=Om;have hz:a7K a.length [PV.int .u32 0]=aL (a7K a.length 0++[]):=by simp[aL]
 simp only[go_sem,DP,Bs,Bt,mb,W,X,hz];refine aR fun o ho=>?_;simp only[go_sem,Bu,Bv];refine wp_loop (α:=Nat × List Nat × Nat × Nat) (fun t=>vz a d t.2.2.2 t.1 t.2.2.1) (fun t=>PH.nil.set t.2.2.2 (.rows 1 (aL (a7K t.1 0++t.2.1))))
  (fun t=>t.1+t.2.1.length=a.length∧Lim t.2.1∧t.2.2.1<d∧val t.2.1*d+t.2.2.1=val (a.drop t.1)) (fun t=>t.1) (a.length,[],0,o) ⟨by simp,by simp[Lim],i,by simp[val]⟩ ?_ ?_ ?_
 ·unfold vz
  (repeat' (first|exact c_|refine d_ ?_ ?_))<;>first|(simp only[go_sem,wrap_i64 (Om:-9223372036854775808≤(a.length:Int)-1) (Om:(a.length:Int)-1≤9223372036854775807)]<;>rfl)|rfl
 ·exact PH.aK a_ Sq
 rintro⟨k,S,r,q⟩ ⟨hk,c,K,e⟩;simp only at hk c K e;simp only[go_sem,Bq,Bw,vz];by_cases h0:0<k
 ·obtain⟨m,rfl⟩:∃ m,k=m+1:=⟨k-1,by omega⟩;have u:((m+1:Nat):Int)-1=(m:Int):=Om;have U:(m:Int)≥0:=Om;have p:m<a.length:=Om;have hlt:(m:Int)<(a.length:Nat):=Om;have β:=ha _ (a7J p);have l:val (a.drop m)=a[m]+4294967296*val (a.drop (m+1)):=by rw[a9H p]; rfl
  generalize hx:a[m]=x at *
  have N:(aL a)[m]?=some [.int .u32 ((x:Nat):Int)]:=by rw[bU a p,hx]
  have ex:IntKind.u64.wrap ((x:Nat):Int)=((x:Nat):Int):=bE Om;have ed:IntKind.u64.wrap ((d:Nat):Int)=((d:Nat):Int):=bE Om;have E:shift .shl .u64 (r:Int) 32=some (.int .u64 ((2 ^ 32*r:Nat):Int)):=LF (s:=32) Om Om;have M:(2:Nat) ^ 32=4294967296:=by decide
  have w:=orI (a:=2 ^ 32*r) (b:=x) (n:=2 ^ 32*r+x) Om Om (Nat.two_pow_add_eq_or_of_lt Om r).symm Om;rw[M] at E w;have J:(4294967296*r+x)/d<4294967296:=by rw[baK i];have:4294967296*(r+1)≤4294967296*d:=a9T _ K;omega
  have O:¬ ((d:Nat):Int)=0:=Om;have A:IntKind.u64.wrap (a9O ((4294967296*r+x:Nat):Int) ((d:Nat):Int))=(((4294967296*r+x)/d:Nat):Int):=by rw[show a9O ((4294967296*r+x:Nat):Int) ((d:Nat):Int)=(((4294967296*r+x)/d:Nat):Int) from rfl];exact bE Om
  have B:Int.tmod ((4294967296*r+x:Nat):Int) ((d:Nat):Int)=(((4294967296*r+x)%d:Nat):Int):=rfl;have Z:IntKind.u32.wrap (((4294967296*r+x)/d:Nat):Int)=(((4294967296*r+x)/d:Nat):Int):=by rw[cL,a8T J]
  have F:a7K (m+1) 0++S=a7K m 0++(0::S):=by rw[List.replicate_succ',a8Q]; rfl
  have V:(aL (a7K m 0++(0::S)))[m]?=some [.int .u32 ((0:Nat):Int)]:=by rw[bU _ (by simp)]; simp
  have H:(aL (a7K m 0++(0::S))).set m [.int .u32 (((4294967296*r+x)/d:Nat):Int)]=aL (a7K m 0++(((4294967296*r+x)/d)::S)):=by rw[fN,baD _ _ (by simp)]; simp
  simp only[go_sem,u,U,Bx,E,N,ex,w,By,ed,O,A,Z,hlt,F,V,H,Bz,B,B0];refine aD (m,((4294967296*r+x)/d)::S,(4294967296*r+x)%d,q) ⟨by simp only[a8Y]; omega,fun y hy=>?_,a8Z _ i,?_⟩ (by simp only; omega) ?_ (PH.aK a_ Sq)
  ·rw[a7T] at hy;rcases hy with rfl | hy
   ·exact J
   ·exact c y hy
  ·simp only[val];rw[l,← e,a8M,a7V,a8H];have:=baV (4294967296*r+x) d;rw[a8L d] at this;omega
  ·(repeat' (first|exact c_|refine d_ ?_ ?_))<;>first|(simp only[go_sem,wrap_i64 (Om:-9223372036854775808≤(m:Int)-1) (Om:(m:Int)-1≤9223372036854775807)]<;>rfl)|rfl
 ·have:k=0:=Om;subst this;have u:¬ ((0:Nat):Int)-1≥0:=by decide
  rw[a8R] at e;have hS:S.length=a.length:=Om;have J:val S=val a/d:=by rw[← e,a8L,Nat.mul_add_div i,baW K,a9M]
  have Y:r=val a%d:=by rw[← e,a8L,Nat.mul_add_mod,a8T K]
  have γ:a7K 0 0++S=S:=by simp
  simp only[go_sem,u,me,List.nil_append];have hl:=L.length S c Om;have δ:=fM c;have hc:((nl (val S):Nat):Int)≤(S.length:Nat):=Om;refine qO (o:=q) (s:=1) (k:=a.length) (rs:=aL S) (v:=.int .i64 (nl (val S):Nat)) ?_ Sq Sq (by rw[cA]; omega) ?_
  ·rw[a8C (by rw[cA]; omega)]; exact hl
  ·have R:PV.frz q 1 (aL S) (.osl q 1 0 a.length)=aJ S:=by
    have:0+a.length≤(aL S).length:=by rw[cA]; omega
    simp only[PV.frz,PV.sO,PV.dE,if_true,true_and,if_pos this,a8R];rw[a8C (by rw[cA]; omega)]
   have Q:∀ n:Int,∀ k,PV.frz q 1 (aL S) (.int k n)=.int k n:=fun _ _=>rfl;have er:IntKind.u32.wrap ((r:Nat):Int)=((r:Nat):Int):=by rw[cL,a8T Om]
   simp only[go_sem,R,Q,hc,or_true,a8R,jI c,er];refine bA (vs:=[aJ (aI (val S)),.int .u32 ((r:Nat):Int)]) (.inr rfl) .nil Ev a_ ⟨?_,rfl⟩;simp only[bO,← J,← Y]
end Go.PM
namespace Go.Na
theorem GK {L:List Nat} {i:Nat} (h:i<L.length) (v:Nat):val (L.set i v)+4294967296 ^ i*L[i]=val L+4294967296 ^ i*v:=by
 have c:i<(L.set i v).length:=by rw[a9L]; exact h
 rw[sB L h,sB (L.set i v) c,List.getElem_set_self,List.take_set_of_le (a7M _),List.drop_set_of_lt Om,a7V,a7V];omega
theorem r9 {L:List Nat} {i:Nat} (h:∀ (j x:Nat),i≤j→L[j]?=some x→x=0) (k v:Nat) (e:k<i):∀ (j x:Nat),i≤j→(L.set k v)[j]?=some x→x=0:=fun j x d c=>by
 rw[List.getElem?_set_ne Om] at c;exact h j x d c
end Go.Na
namespace Go.PM
open Go Go.Na
def kS (a b:List Nat) (o i:Nat):PF:=((((((PF.nil.set 0 (aJ a)).set 1 (aJ b)).set 6 (.osl o 1 0 (a.length+b.length))).set 32 (aJ a)).set 33 (.int .i64 (a.length:Nat))).set 34 (.int .i64 i))
def amU (a b:List Nat) (o i x c j:Nat):PF:=((((((((((((PF.nil.set 0 (aJ a)).set 1 (aJ b)).set 6 (.osl o 1 0 (a.length+b.length))).set 32 (aJ a)).set 33 (.int .i64 (a.length:Nat))).set 34 (.int .i64 i)).set 7 (.int .i64 i)).set 8 (.int .u32 x)).set 9 (.int .u64 c)).set 39 (aJ b)).set 40 (.int .i64 (b.length:Nat))).set 41 (.int .i64 j))
structure FD (a b L:List Nat) (i:Nat):Prop where
 len:L.length=a.length+b.length
 lim:Lim L
 v:val L=val (a.take i)*val b
 z:∀ j x,i+b.length≤j→L[j]?=some x→x=0
theorem abO {x y:Nat} (c:x<4294967296) (d:y<4294967296):IntKind.u64.wrap ((x:Int)*(y:Int))=((x*y:Nat):Int):=by
 have:x*y≤4294967295*4294967295:=baP Om Om;rw[show (x:Int)*(y:Int)=((x*y:Nat):Int) by simp];exact bE Om
theorem gG {a b:Nat} (h:a+b≤9223372036854775807):IntKind.i64.wrap ((a:Int)+(b:Int))=((a+b:Nat):Int):=by
 rw[wrap_i64 Om Om]; omega
theorem aHN {C:Ctx} (a b:List Nat) (ha:Lim a) (hb:Lim b) (h1:a.length≤1000) (h2:b.length≤1000) (L:List Nat) (i:Nat) (hi:i<a.length) (N:FD a b L i) (q:Nat) (K:bR) (F:PF) (H:PH) (J:(kS a b q i).le F) (hH:H q=some (.rows 1 (aL L)))
  (hK:∀ L' F' H',FD a b L' (i+1)→(kS a b q i).le F'→H' q=some (.rows 1 (aL L'))→K .normal F' H') :
  aC.wp C (.block 1 (.seq (.region vt) (.seq (.region vu) (.seq (.seq (.region vw) (.block 2 (.loop ck))) (.region cn))))) K F H:=by
 have f0:=J 0 _ (by unfold kS; simp only[go_sem]; rfl);have f1:=J 1 _ (by unfold kS; simp only[go_sem]; rfl);have f6:=J 6 _ (by unfold kS; simp only[go_sem]; rfl);have S:=J 32 _ (by unfold kS; simp only[go_sem]; rfl);have η:=J 33 _ (by unfold kS; simp only[go_sem]; rfl);have U:=J 34 _ (by unfold kS; simp only[go_sem]; rfl);have hx:=ha _ (a7J hi);have β:=cF a hi;generalize δ:a[i]=x at *
 have X:(aL a)[i]?=some [.int .u32 ((x:Nat):Int)]:=by rw[bU a hi,δ]
 simp only[go_sem,vt,vu,vw,S,U,f1,X];refine wp_loop (α:=List Nat × Nat × Nat) (fun t=>amU a b q i x t.2.1 t.2.2) (fun t=>PH.nil.set q (.rows 1 (aL t.1)))
  (fun t=>t.2.2≤b.length∧t.1.length=a.length+b.length∧Lim t.1∧t.2.1<4294967296∧val t.1+4294967296 ^ (i+t.2.2)*t.2.1=val (a.take i)*val b+4294967296 ^ i*(x*val (b.take t.2.2))∧∀ j y,i+b.length≤j→t.1[j]?=some y→y=0) (fun t=>b.length-t.2.2) (L,0,0)
  ⟨by simp,N.len,N.lim,by simp,by simp[val,N.v],N.z⟩ ?_ (PH.aK a_ hH) ?_
 ·unfold amU;exact Lq
 rintro⟨M,c,j⟩ ⟨hj,W,e,Z,u,Q⟩;simp only at hj W e Z u Q;simp only[go_sem,ck,Qe,amU];by_cases R:j<b.length
 ·have w:(j:Int)<(b.length:Nat):=Om;have O:=hb _ (a7J R);have γ:=cF b R;generalize ε:b[j]=y at *
  have Y:(aL b)[j]?=some [.int .u32 ((y:Nat):Int)]:=by rw[bU b R,ε]
  have d:i+j<M.length:=Om;have E:=e _ (a7J d);have p:=GK d;generalize ζ:M[i+j]=z at *
  have B:(aL M)[i+j]?=some [.int .u32 ((z:Nat):Int)]:=by rw[bU M d,ζ]
  have ex:IntKind.u64.wrap ((x:Nat):Int)=((x:Nat):Int):=bE Om;have ey:IntKind.u64.wrap ((y:Nat):Int)=((y:Nat):Int):=bE Om;have ez:IntKind.u64.wrap ((z:Nat):Int)=((z:Nat):Int):=bE Om;have em:=abO hx O;have ι:x*y≤4294967295*4294967295:=baP Om Om;have e1:IntKind.u64.wrap (((x*y:Nat):Int)+(z:Int))=((x*y+z:Nat):Int):=fD Om;have e2:IntKind.u64.wrap ((c:Int)+((x*y+z:Nat):Int))=((c+(x*y+z):Nat):Int):=fD Om;have A:IntKind.i64.wrap ((i:Int)+(j:Int))=((i+j:Nat):Int):=gG Om;have hlt:((i+j:Nat):Int)<((a.length+b.length:Nat):Int):=Om;generalize ht:c+(x*y+z)=t at *
  have θ:t<4294967296*4294967296:=Om;have l:(aL M).set (i+j) [.int .u32 ((t%4294967296:Nat):Int)]=aL (M.set (i+j) (t%4294967296)):=fN M (i+j) _;simp only[go_sem,w,Qf,Y,Qg,ex,ey,em,A,hlt,B,ez,e1,e2,Qh,cL,l,Qi,xL,Qj,wZz j];refine aD (M.set (i+j) (t%4294967296),t/4294967296,j+1) ⟨by simp only; omega,by simp only[a9L]; exact W,e.set _ (a8Z _ (by decide)),by simp only; omega,?_,r9 Q _ _ Om⟩ (by simp only; omega) ?_ (PH.aK a_ Sq)
  ·simp only;have V:=p (t%4294967296);have h4:4294967296 ^ (i+(j+1))*(t/4294967296)+4294967296 ^ (i+j)*(t%4294967296)=4294967296 ^ (i+j)*t:=by rw[← a9R,a9D,a8H,← a7V,baV]
   have h5:4294967296 ^ (i+j)*t=4294967296 ^ (i+j)*c+(4294967296 ^ (i+j)*(x*y)+4294967296 ^ (i+j)*z):=by rw[← ht,a7V,a7V]
   have h6:4294967296 ^ i*(x*val (b.take (j+1)))=4294967296 ^ i*(x*val (b.take j))+4294967296 ^ (i+j)*(x*y):=by rw[γ,a7V,a7V,Nat.pow_add];congr 1;rw[Nat.mul_left_comm x,a8H]
   omega
  ·exact Lq
 ·have he:j=b.length:=Om;have w:¬ (j:Int)<(b.length:Nat):=Om;subst he;have d:i+b.length<M.length:=Om;have E:M[i+b.length]=0:=Q _ _ (a7M _) (a7U d);have p:=GK d;have B:(aL M)[i+b.length]?=some [.int .u32 ((0:Nat):Int)]:=by rw[bU M d,E]
  have A:IntKind.i64.wrap ((i:Int)+(b.length:Int))=((i+b.length:Nat):Int):=gG Om;have hlt:((i+b.length:Nat):Int)<((a.length+b.length:Nat):Int):=Om;have l:(aL M).set (i+b.length) [.int .u32 ((c%4294967296:Nat):Int)]=aL (M.set (i+b.length) c):=by rw[a8T Z]; exact fN M _ _
  simp only[go_sem,w,cn,A,cL,hlt,B,l];refine hK (M.set (i+b.length) c) _ _ ⟨by rw[a9L]; exact W,e.set _ Z,?_,fun j y hj O=>?_⟩ (by unfold kS; exact Lq) Sq
  ·have V:=p c;rw[E,Nat.mul_zero,a9M] at V;rw[V,u,a8I,β,a8M,a8H]
  ·rw[List.getElem?_set_ne Om] at O;exact Q j y Om O
theorem auI {C:Ctx} (L:pS C) (a b:List Nat) (Q:Lim a) (R:Lim b) (N:a.length≤1000) (O:b.length≤1000) (F:PF) (f0:F 0=some (aJ a)) (f1:F 1=some (aJ b)) :
  aC.wp C (.seq (.region vq) (.seq (.seq (.region vr) (.block 0 (.loop cl))) (.seq (.region cp) .ret))) (aV [.tmp 4,.tmp 5] (bY (szV (val a*val b)))) F .nil:=by
 have l:IntKind.i64.wrap ((a.length:Int)+(b.length:Int))=((a.length+b.length:Nat):Int):=gG Om;have y:((a.length+b.length:Nat):Int)*((4:Nat):Int)≤140737488355328:=Om;have A:((a.length+b.length:Nat):Int)≤9223372036854775807:=Om;have U:a7K (a.length+b.length) [PV.int .u32 0]=aL (a7K (a.length+b.length) 0):=by simp[aL]
 simp only[go_sem,vq,f0,f1,l,y,A,U];refine aR fun o X=>?_;simp only[go_sem,vr,f0];refine wp_loop (α:=List Nat × Nat) (fun t=>kS a b o t.2) (fun t=>PH.nil.set o (.rows 1 (aL t.1))) (fun t=>t.2≤a.length∧FD a b t.1 t.2) (fun t=>a.length-t.2) (a7K (a.length+b.length) 0,0)
  ⟨by simp,by simp,vQ _,by simp[val,sD],fun j x _ E=>by rw[List.getElem?_replicate] at E; split at E<;>simp_all⟩ ?_ (PH.aK a_ Sq) ?_
 ·unfold kS;exact Lq
 rintro⟨M,i⟩ ⟨hi,d⟩;simp only at hi d;simp only[go_sem,cl,adB,kS];by_cases H:i<a.length
 ·have e:(i:Int)<(a.length:Nat):=Om;have p:=aHN (C:=C) a b Q R N O M i H d o;simp only[go_sem] at p;simp only[go_sem,e];refine p _ _ _ (by unfold kS; exact Lq) Sq ?_;intro L' V H' w c u;have q:=c 34 _ (by unfold kS; simp only[go_sem]; rfl);have g0:=c 0 _ (by unfold kS; simp only[go_sem]; rfl);have g1:=c 1 _ (by unfold kS; simp only[go_sem]; rfl);have W:=c 6 _ (by unfold kS; simp only[go_sem]; rfl);have J:=c 32 _ (by unfold kS; simp only[go_sem]; rfl);have K:=c 33 _ (by unfold kS; simp only[go_sem]; rfl);simp only[go_sem,Qk,q,wZz i];refine aD (L',i+1) ⟨by simp only; omega,w⟩ (by simp only; omega) ?_ (PH.aK a_ u);exact Lq
 ·have S:i=a.length:=Om;subst S;have e:¬ (a.length:Int)<(a.length:Nat):=Om;have hV:val M=val a*val b:=by rw[d.v,a8I]
  simp only[go_sem,cp];have B:=L.sized _ d.lim (by rw[d.len]; omega);rw[hV] at B;refine qO (o:=o) (s:=1) (k:=a.length+b.length) (rs:=aL M) (v:=szV (val a*val b)) ?_ rfl Sq (by rw[cA,d.len]; exact a7M _) ?_
  ·rw[a8C (by rw[cA,d.len]; exact a7M _)]; exact B
  ·simp only[go_sem,szV];exact bA (.inr rfl) .nil rfl a_ ⟨.refl _,rfl⟩
theorem acX {C:Ctx} (L:pS C) (a b:List Nat) (i:Lim a) (l:Lim b) (u:a.length≤35184372087808) (w:b.length≤35184372087808) :
  RC.wp C (aV amT.res (bY (opV (dY (val a) (val b)) (val a*val b)))) (PF.args [aJ a,aJ b]) .nil:=by
 simp only[go_sem,RC,acY,acZ,amT];refine aA (L.large a i u) rfl ?_;by_cases c:nl (val a)>512
 ·simp only[go_sem,c,vp];rw[show opV (dY (val a) (val b)) (val a*val b)=.tup [aJ [],.int .i64 2] by simp[opV,dY,c]];exact eR rfl
 simp only[go_sem,c];refine aA (L.large b l w) rfl ?_;by_cases d:nl (val b)>512
 ·simp only[go_sem,d,vp];rw[show opV (dY (val a) (val b)) (val a*val b)=.tup [aJ [],.int .i64 2] by simp[opV,dY,d]];exact eR rfl
 have e:opV (dY (val a) (val b)) (val a*val b)=szV (val a*val b):=by simp[opV,dY,c,d]
 rw[e];simp only[go_sem,d];refine bW .nil amH a_ ?_;simp only[go_sem,adA];have A:=fM i;have B:=fM l;have p:((nl (val a):Nat):Int)≤(a.length:Nat):=Om;have q:((nl (val b):Nat):Int)≤(b.length:Nat):=Om;refine bP (oJ a) (L.length a i u) rfl a_ ?_;simp only[go_sem,p,or_true,a8R,jI i];refine bP (oJ b) (L.length b l w) rfl a_ ?_;simp only[go_sem,q,or_true,a8R,jI l];have x:=aW (val a);have y:=aW (val b);have:=auI L (aI (val a)) (aI (val b)) (aX _) (aX _) (by rw[bB]; omega) (by rw[bB]; omega);rw[x,y] at this;have:=fun F f0 f1=>this F f0 f1;simp only[go_sem] at this;exact this _ rfl rfl
open Go Go.Na
theorem oq {A P W Z:List Nat} {i:Nat} (d:P.length=i) (hi:i<W.length):(aL (A++(P++W.drop i)++Z))[A.length+i]?=some [.int .u32 ((W[i]:Nat):Int)]:=by
 have c:A.length+i<(A++(P++W.drop i)++Z).length:=by simp; omega
 rw[bU _ c];congr 4;rw[List.getElem_append_left (by simp; omega),bbD Om,bbD Om,List.getElem_drop];congr 1;omega
theorem GH {A P W Z:List Nat} {i:Nat} (c:P.length=i) (hi:i<W.length) (v:Nat):(aL (A++(P++W.drop i)++Z)).set (A.length+i) [.int .u32 (v:Int)]=aL (A++((P++[v])++W.drop (i+1))++Z):=by
 rw[fN];congr 1;rw[List.set_append_left _ _ (by simp; omega),baD _ _ Om,baD _ _ Om,a9H hi];rw[show A.length+i-A.length-P.length=0 by omega,bbC];simp
theorem aDG {t:Nat} (h:t<18446744073709551616):kZ .and .u64 (t:Int) 4294967295=some (.int .u64 ((t%4294967296:Nat):Int)):=by
 show some (PV.int .u64 (IntKind.u64.wrap (((BitVec.ofInt 64 (t:Int) &&& BitVec.ofInt 64 (4294967295:Int)).toNat:Nat):Int)))=_;have e:BitVec.ofInt 64 (4294967295:Int)=BitVec.ofNat 64 4294967295:=by rfl
 rw[e,BitVec.ofInt_natCast,BitVec.toNat_and,BitVec.toNat_ofNat,BitVec.toNat_ofNat,a8T (by simpa using h)];have c:(4294967295:Nat)%2 ^ 64=2 ^ 32-1:=by decide
 rw[c,Nat.and_two_pow_sub_one_eq_mod];rw[bE (Nat.lt_of_lt_of_le (a8Z _ (by decide)) (by decide))]
theorem aDS {c f x:Nat} (e:c<4294967296) (d:f≤4294967296) (i:x<4294967296):c+f*x<18446744073709551616∧(c+f*x)/4294967296<4294967296∧f*x≤4294967296*4294967295:=by
 have:f*x≤4294967296*4294967295:=baP d Om;refine⟨by omega,?_,this⟩;omega
def Qw (v:List Nat) (j o i c b:Nat) (f:Nat):PF:=((((((((PF.nil.set 0 (.osl o 1 j (v.length+1))).set 1 (aJ v)).set 2 (.int .u64 f)).set 7 (.int .u64 c)).set 8 (.int .u64 b)).set 13 (aJ v)).set 14 (.int .i64 (v.length:Nat))).set 15 (.int .i64 i))
def LJ (n w m:Nat):Nat:=if w<m then w+4294967296 ^ n-m else w-m
theorem RH {C:Ctx} (A W Z v:List Nat) (f:Nat) (hW:Lim W) (hv:Lim v) (hl:W.length=v.length+1) (h1:A.length+v.length≤100000) (hf:f≤4294967296) (μ:val v*f≤val W+4294967296 ^ (v.length+1)) (o:Nat) :
  uG.wp C (aV BO.res (fun r H'=>r=.bool (decide (val W<val v*f))∧H'=PH.nil.set o (.rows 1 (aL (A++dW (v.length+1) (LJ (v.length+1) (val W) (val v*f))++Z)))))
   (PF.args [.osl o 1 A.length (v.length+1),aJ v,.int .u64 f]) (PH.nil.set o (.rows 1 (aL (A++W++Z)))):=by
 simp only[go_sem,uG,RI,RJ,RK,BO];refine wp_loop (α:=List Nat × Nat × Nat) (fun t=>Qw v A.length o t.1.length t.2.1 t.2.2 f) (fun t=>PH.nil.set o (.rows 1 (aL (A++(t.1++W.drop t.1.length)++Z))))
  (fun t=>t.1.length≤v.length∧Lim t.1∧t.2.1<4294967296∧t.2.2≤1∧val (W.take t.1.length)+4294967296 ^ t.1.length*t.2.2+4294967296 ^ t.1.length*t.2.1=val t.1+val (v.take t.1.length)*f) (fun t=>v.length-t.1.length) ([],0,0)
  ⟨by simp,by simp[Lim],by simp,by simp,by simp[val]⟩ ?_ (PH.aK a_ (by simp only[go_sem,a9W,a8R,List.nil_append])) ?_
 ·unfold Qw;exact Lq
 rintro⟨P,c,b⟩ ⟨hP,i,hc,hb,q⟩;simp only at hP i hc hb q;simp only[go_sem,NR,RL,Qw];by_cases V:P.length<v.length
 ·have E:(P.length:Int)<(v.length:Nat):=Om;have w:P.length<W.length:=Om;have F:(P.length:Int)<((v.length+1:Nat):Int):=Om;have hx:=hv _ (a7J V);have hw:=hW _ (a7J w);have ζ:=cF v V;have B:=cF W w;have J:=oq (A:=A) (Z:=Z) (P:=P) rfl w;have p:=GH (A:=A) (Z:=Z) (P:=P) rfl w;generalize κ:v[P.length]=x at *
  generalize ι:W[P.length]=y at *
  have θ:(aL v)[P.length]?=some [.int .u32 ((x:Nat):Int)]:=by rw[bU v V,κ]
  obtain⟨k1,k2,k3⟩:=aDS hc hf hx;have ex:IntKind.u64.wrap ((x:Nat):Int)=((x:Nat):Int):=bE Om;have X:IntKind.u64.wrap ((y:Nat):Int)=((y:Nat):Int):=bE Om;have em:IntKind.u64.wrap ((f:Int)*(x:Int))=((f*x:Nat):Int):=by rw[show (f:Int)*(x:Int)=((f*x:Nat):Int) by simp];exact bE Om
  have l:c+f*x<18446744073709551616:=k1;have ea:IntKind.u64.wrap ((c:Int)+((f*x:Nat):Int))=((c+f*x:Nat):Int):=fD l;have O:=aDG l;have η:val (v.take (P.length+1))*f=val (v.take P.length)*f+4294967296 ^ P.length*(f*x):=by rw[ζ,a8M,a8H,a8L x f]
  generalize f*x=u at *
  have R:(c+u)%4294967296<4294967296:=a8Z _ (by decide);obtain⟨s1,s2,s3,s4⟩:=St (a:=y) (bor:=b) (b:=(c+u)%4294967296) hw R hb (IntKind.u64.wrap (IntKind.u64.wrap ((y:Int)-(((c+u)%4294967296:Nat):Int))-(b:Int))) (by rw[fU,fU]; omega);generalize hd:TD y b ((c+u)%4294967296)=d at *
  generalize γ:dk y b ((c+u)%4294967296)=U at *
  have β:U≤1:=by rw[← γ]; unfold dk; split<;>omega
  have hs:=p d;simp only[go_sem,E,RM,θ,RN,ex,em,ea,RP,F,J,X,O,RQ,s1,hs,RR,anP,s2,RS,xL,NS,cZ (Om:P.length<9223372036854775807)];refine aD (P++[d],(c+u)/4294967296,U) ⟨by simp; omega,i.app fun z hz=>by simp at hz; omega,k2,β,?_⟩ (by simp; omega) ?_ (PH.aK a_ ?_)
  ·simp only;rw[a7O,a7S,jL,B,η,a9D,a8H,a8H];have h4:4294967296 ^ P.length*y+4294967296 ^ P.length*(4294967296*U)=4294967296 ^ P.length*d+4294967296 ^ P.length*((c+u)%4294967296)+4294967296 ^ P.length*b:=by rw[← a7V,s3,a7V,a7V]
   have h5:4294967296 ^ P.length*(4294967296*((c+u)/4294967296))+4294967296 ^ P.length*((c+u)%4294967296)=4294967296 ^ P.length*c+4294967296 ^ P.length*u:=by rw[← a7V,baV,a7V]
   omega
  ·simp only;rw[a7O,a7S];exact Lq
  ·simp only;rw[a7O,a7S];simp only[go_sem]
 ·have e:P.length=v.length:=Om;have E:¬ (P.length:Int)<(v.length:Nat):=Om;have w:v.length<W.length:=Om;have F:(v.length:Int)<((v.length+1:Nat):Int):=Om;have hw:=hW _ (a7J w);have B:=cF W w;have J:=oq (A:=A) (Z:=Z) (P:=P) e w;have p:=GH (A:=A) (Z:=Z) (P:=P) e w;have H:val (W.take (v.length+1))=val W:=by rw[a8C Om]
  generalize ι:W[v.length]=y at *
  have X:IntKind.u64.wrap ((y:Nat):Int)=((y:Nat):Int):=bE Om;have Y:=fC i;rw[e] at q Y;rw[a8I] at q;rw[H] at B;have S:4294967296 ^ (v.length+1)=4294967296 ^ v.length*4294967296:=a9D _ _;have ξ:val W+4294967296 ^ v.length*(b+c)=val P+val v*f+4294967296 ^ v.length*y:=by rw[B,a7V]; omega
  have ν:b+c≤y+4294967296:=by
   rcases a8D (y+4294967296) (b+c) with h | h
   ·exfalso;have:4294967296 ^ v.length*(y+4294967296+1)≤4294967296 ^ v.length*(b+c):=a9T _ h;rw[a7V,a7V,Nat.mul_one] at this;omega
   ·exact h
  have M:∃ d k:Nat,d<4294967296∧k≤1∧y+4294967296*k=d+(b+c)∧IntKind.u32.wrap (IntKind.u64.wrap (IntKind.u64.wrap ((y:Int)-(c:Int))-(b:Int)))=(d:Int)∧((IntKind.u64.wrap (IntKind.u64.wrap ((y:Int)-(c:Int))-(b:Int))/9223372036854775808==1)=decide (k=1)):=by
   rw[YQ,fU,fU];by_cases h:y<b+c
   ·refine⟨y+4294967296-(b+c),1,by omega,by omega,by omega,by omega,?_⟩;simp only[decide_true];exact bL Om
   ·refine⟨y-(b+c),0,by omega,by omega,by omega,by omega,?_⟩;exact bF Om
  obtain⟨d,k,hd,hk,hy,w1,w2⟩:=M;have hs:=p d;have hN:val (P++[d])+val v*f=val W+4294967296 ^ (v.length+1)*k:=by
   have:4294967296 ^ v.length*y+4294967296 ^ v.length*(4294967296*k)=4294967296 ^ v.length*d+4294967296 ^ v.length*(b+c):=by rw[← a7V,hy,a7V]
   rw[jL,e,S,a8H];omega
  have Q:Lim (P++[d]):=i.app fun z hz=>by simp at hz; omega
  have δ:=fC Q;rw[a7O,a7S,e] at δ;have K:decide (k=1)=decide (val W<val v*f):=by
   congr 1;apply propext;constructor
   ·intro h; subst h; omega
   ·intro h;rcases a9Q k with h0 | h0
    ·subst h0; omega
    ·omega
  have N:LJ (v.length+1) (val W) (val v*f)=val (P++[d]):=by
   unfold LJ;split
   ·rename_i h;have:k=1:=by simpa [h] using K
    subst this; omega
   ·rename_i h;have:k=0:=by
     have:¬ k=1:=by simpa [h] using K
     omega
    subst this; omega
  have hD:dW (v.length+1) (LJ (v.length+1) (val W) (val v*f))=P++[d]:=by have:=HK Q;rw[a7O,a7S,e] at this;rw[N,this]
  have ε:W.drop (v.length+1)=[]:=bbA Om;simp only[go_sem,E,NT,e,F,J,X,NU,w1,hs,NV,anP,w2,K];refine bA (vs:=[.bool (decide (val W<val v*f))]) (.inr rfl) (PH.nil.set o (.rows 1 (aL (A++(P++[d]++W.drop (v.length+1))++Z)))) rfl (PH.aK a_ Sq) ⟨rfl,?_⟩;rw[hD,ε,a9G]
end Go.PM
namespace Go.Na
theorem aaP {xs ys:List Nat} (e:Lim xs) (i:Lim ys) (c:xs.length=ys.length) (d:val xs=val ys):xs=ys:=by
 rw[← HK e,← HK i,c,d]
theorem aOS {k n:Nat} {xs:List Nat} (e:Lim xs) (c:xs.length=k) (d:val xs=n%4294967296 ^ k):dW k n=xs :=
 aaP (mL k n) e (by rw[lD,c]) (by rw[AH,d])
end Go.Na
namespace Go.PM
open Go Go.Na
def Ql (v:List Nat) (j o i c:Nat):PF:=((((((PF.nil.set 0 (.osl o 1 j (v.length+1))).set 1 (aJ v)).set 4 (.int .u64 c)).set 7 (aJ v)).set 8 (.int .i64 (v.length:Nat))).set 9 (.int .i64 i))
theorem XA {C:Ctx} (A W Z v:List Nat) (hW:Lim W) (hv:Lim v) (hl:W.length=v.length+1) (h1:A.length+v.length≤100000) (o:Nat) :
  wF.wp C (aV JY.res (fun r H'=>r=.tup []∧H'=PH.nil.set o (.rows 1 (aL (A++dW (v.length+1) (val W+val v)++Z)))))
   (PF.args [.osl o 1 A.length (v.length+1),aJ v]) (PH.nil.set o (.rows 1 (aL (A++W++Z)))):=by
 simp only[go_sem,wF,XB,XC,JY];refine wp_loop (α:=List Nat × Nat) (fun t=>Ql v A.length o t.1.length t.2) (fun t=>PH.nil.set o (.rows 1 (aL (A++(t.1++W.drop t.1.length)++Z))))
  (fun t=>t.1.length≤v.length∧Lim t.1∧t.2≤1∧val (W.take t.1.length)+val (v.take t.1.length)=val t.1+4294967296 ^ t.1.length*t.2) (fun t=>v.length-t.1.length) ([],0)
  ⟨by simp,by simp[Lim],by simp,by simp[val]⟩ ?_ (PH.aK a_ (by simp only[go_sem,a9W,a8R,List.nil_append])) ?_
 ·unfold Ql;exact Lq
 rintro⟨P,c⟩ ⟨hP,d,hc,l⟩;simp only at hP d hc l;simp only[go_sem,WZ,XD,Ql];by_cases K:P.length<v.length
 ·have q:(P.length:Int)<(v.length:Nat):=Om;have p:P.length<W.length:=Om;have u:(P.length:Int)<((v.length+1:Nat):Int):=Om;have hx:=hv _ (a7J K);have hw:=hW _ (a7J p);have R:=cF v K;have E:=cF W p;have B:=oq (A:=A) (Z:=Z) (P:=P) rfl p;have i:=GH (A:=A) (Z:=Z) (P:=P) rfl p;generalize V:v[P.length]=x at *
  generalize U:W[P.length]=y at *
  have S:(aL v)[P.length]?=some [.int .u32 ((x:Nat):Int)]:=by rw[bU v K,V]
  have ex:IntKind.u64.wrap ((x:Nat):Int)=((x:Nat):Int):=bE Om;have M:IntKind.u64.wrap ((y:Nat):Int)=((y:Nat):Int):=bE Om;have X:IntKind.u64.wrap ((y:Int)+(x:Int))=((y+x:Nat):Int):=fD Om;have Y:IntKind.u64.wrap ((c:Int)+((y+x:Nat):Int))=((c+(y+x):Nat):Int):=fD Om;have Q:=i ((c+(y+x))%4294967296);simp only[go_sem,q,XE,S,XF,u,B,ex,M,X,Y,XG,cL,Q,XH,xL,XI,cZ (Om:P.length<9223372036854775807)];refine aD (P++[(c+(y+x))%4294967296],(c+(y+x))/4294967296) ⟨by simp; omega,d.app fun z J=>by simp at J; subst J; exact a8Z _ (by decide),by simp only; omega,?_⟩ (by simp; omega) ?_ (PH.aK a_ ?_)
  ·simp only;rw[a7O,a7S,jL,E,R,a9D,a8H];have h5:4294967296 ^ P.length*(4294967296*((c+(y+x))/4294967296))+4294967296 ^ P.length*((c+(y+x))%4294967296)=4294967296 ^ P.length*c+(4294967296 ^ P.length*y+4294967296 ^ P.length*x):=by rw[← a7V,baV,a7V,a7V]
   omega
  ·simp only;rw[a7O,a7S];exact Lq
  ·simp only;rw[a7O,a7S];simp only[go_sem]
 ·have e:P.length=v.length:=Om;have q:¬ (P.length:Int)<(v.length:Nat):=Om;have p:v.length<W.length:=Om;have u:(v.length:Int)<((v.length+1:Nat):Int):=Om;have hw:=hW _ (a7J p);have E:=cF W p;have B:=oq (A:=A) (Z:=Z) (P:=P) e p;have i:=GH (A:=A) (Z:=Z) (P:=P) e p;have w:val (W.take (v.length+1))=val W:=by rw[a8C Om]
  generalize U:W[v.length]=y at *
  have N:=fC d;rw[e] at l N;rw[a8I] at l;rw[w] at E;have ec:IntKind.u32.wrap ((c:Nat):Int)=((c:Nat):Int):=by rw[cL,a8T Om]
  have M:IntKind.u32.wrap ((y:Int)+(c:Int))=(((y+c)%4294967296:Nat):Int):=by rw[show (y:Int)+(c:Int)=((y+c:Nat):Int) by omega,cL]
  have Q:=i ((y+c)%4294967296);have F:Lim (P++[(y+c)%4294967296]):=d.app fun z J=>by simp at J; subst J; exact a8Z _ (by decide)
  have H:=fC F;rw[a7O,a7S,e] at H;have hD:dW (v.length+1) (val W+val v)=P++[(y+c)%4294967296]:=by
   refine aOS F (by rw[a7O,a7S,e]) ?_;have:val W+val v=val (P++[(y+c)%4294967296])+4294967296 ^ (v.length+1)*((y+c)/4294967296):=by rw[jL,e,a9D,a8H,a9R,← a7V,Nat.mod_add_div,a7V];omega
   rw[this,Nat.add_mul_mod_self_left,a8T H]
  have O:W.drop (v.length+1)=[]:=bbA Om;simp only[go_sem,q,XJ,e,u,B,ec,M,Q];refine bA (vs:=[]) (.inl rfl) (PH.nil.set o (.rows 1 (aL (A++(P++[(y+c)%4294967296]++W.drop (v.length+1))++Z)))) rfl (PH.aK a_ Sq) ⟨rfl,?_⟩;rw[hD,O,a9G]
def amR (o n:Nat) (len:Nat):PF:=((PF.nil.set 0 (.osl o 1 0 len)).set 3 (.int .i64 n))
theorem WY {C:Ctx} (xs:List Nat) (u:Lim xs) (y:xs.length≤35184372087808) (o:Nat):pK.wp C (aV yL.res (fun r H'=>r=.int .i64 (nl (val xs):Nat)∧H'=PH.nil.set o (.rows 1 (aL xs)))) (PF.args [.osl o 1 0 xs.length]) (PH.nil.set o (.rows 1 (aL xs))):=by
 simp only[go_sem,pK,JT,JU,yL];refine wp_loop (α:=Nat) (fun n=>amR o n xs.length) (fun _=>PH.nil.set o (.rows 1 (aL xs))) (fun n=>n≤xs.length∧∀ j x,n≤j→xs[j]?=some x→x=0) (fun n=>n) xs.length ⟨a7M _,fun j x h e=>by rw[a8X h] at e; cases e⟩ ?_ b_ ?_
 ·unfold amR;exact Lq
 rintro n ⟨q,p⟩;have out:(∀ x,0<n→xs[n-1]?=some x→x≠0)→nl (val xs)=n:=fun h=>aeP u q p h;simp only[go_sem,JS,JV,amR];by_cases i:(n:Int)>0
 ·have l:0<n:=Om;have hi:=bU xs (Om:n-1<xs.length);have hlt:((n-1:Nat):Int)<(xs.length:Nat):=Om;simp only[go_sem,i,wC (Om:n≤9223372036854775807) l,hi,hlt];by_cases d:xs[n-1]=0
  ·simp only[go_sem,bL (Om:((xs[n-1]:Nat):Int)=0),JW,wC (Om:n≤9223372036854775807) l];refine aD (n-1) ⟨by omega,fun j x w c=>?_⟩ Om ?_ b_
   ·rcases a8D j n with h | h
    ·have:j=n-1:=Om;subst this;rw[a7U Om] at c;cases c; exact d
    ·exact p j x h c
   ·exact Lq
  ·simp only[go_sem,bF (Om:((xs[n-1]:Nat):Int)≠0),tA];refine bA (.inr rfl) _ rfl b_ ⟨?_,rfl⟩;rw[out fun x _ c=>by rw[a7U Om] at c; cases c; exact d];rfl
 ·simp only[go_sem,i,tA];refine bA (.inr rfl) _ rfl b_ ⟨?_,rfl⟩;rw[out fun x h=>by omega];rfl
end Go.PM
namespace Go.Na
structure Kn (V W top next Vr head u2 Wr p:Nat):Prop where
 hV:V=top*(4294967296*p)+next*p+Vr
 hW:W=head*(4294967296*p)+u2*p+Wr
 hVr:Vr<p
 hWr:Wr<p
 htop:2147483648≤top
 a6R:next<4294967296
 hu2:u2<4294967296
 hlt:W<V*4294967296
section
variable {V W top next Vr head u2 Wr p:Nat}
theorem Kn.low (K:Kn V W top next Vr head u2 Wr p):next*p+Vr<4294967296*p∧u2*p+Wr<4294967296*p:=by
 have c:(next+1)*p≤4294967296*p:=a8N _ K.a6R;have d:(u2+1)*p≤4294967296*p:=a8N _ K.hu2;rw[a8M,Nat.one_mul] at c d;have:=K.hVr;have:=K.hWr;omega
theorem Kn.Ii (K:Kn V W top next Vr head u2 Wr p):0<V∧4294967296*p≤V∧0<p:=by
 have:=K.hVr;have h:1*(4294967296*p)≤top*(4294967296*p):=a8N _ (by have:=K.htop; omega);have:=K.hV;omega
theorem Kn.aWE (K:Kn V W top next Vr head u2 Wr p):W/V<4294967296:=by
 rw[baK K.Ii.1,a8L]; exact K.hlt
theorem Kn.g0 (K:Kn V W top next Vr head u2 Wr p):W/V≤head/top:=by
 have c:0<top:=by have:=K.htop; omega
 rw[Nat.le_div_iff_mul_le c];have d:W/V*V≤W:=Nat.div_mul_le_self W V;have e:W/V*(top*(4294967296*p))≤W/V*V:=a9T _ (by have:=K.hV; omega);have i:=K.low.2;have l:=K.hW;have h5:(W/V*top)*(4294967296*p)<(head+1)*(4294967296*p):=by rw[a8H,a8M,Nat.one_mul]; omega
 have:=Nat.lt_of_mul_lt_mul_right h5;omega
theorem Kn.g1 (K:Kn V W top next Vr head u2 Wr p) {g r:Nat} (i:g*top+r=head) (y:W/V≤g) (h:g≥4294967296∨g*next>r*4294967296+u2):1≤g∧W/V≤g-1:=by
 have q:=K.aWE;have c:=Nat.div_mul_le_self W V;generalize W/V=Q at *
 rcases h with h | h
 ·omega
 ·have l:Q≠g:=by
   intro e;have u:g*V≤W:=by rw[← e]; exact c
   have w:g*V=g*top*(4294967296*p)+g*next*p+g*Vr:=by rw[K.hV,a7V,a7V,a8H,a8H]
   have d:(r*4294967296+u2+1)*p≤g*next*p:=a8N _ h
   rw[a8M,a8M,Nat.one_mul,a8H r] at d;have x:g*top*(4294967296*p)+r*(4294967296*p)=head*(4294967296*p):=by rw[← a8M,i]
   have:=K.hW;have:=K.hWr;omega
  omega
theorem Kn.g2 (K:Kn V W top next Vr head u2 Wr p) {g r:Nat} (l:g*top+r=head) (q:g≤4294967296) (h:g*next≤r*4294967296+u2):g≤W/V+1:=by
 rcases a9Q g with e | e
 ·rw[e]; exact a7N _
 have d:g*V=g*top*(4294967296*p)+g*next*p+g*Vr:=by rw[K.hV,a7V,a7V,a8H,a8H]
 have c:g*next*p≤(r*4294967296+u2)*p:=a8N _ h
 rw[a8M,a8H r] at c;have i:g*top*(4294967296*p)+r*(4294967296*p)=head*(4294967296*p):=by rw[← a8M,l]
 have h5:g*Vr≤4294967296*Vr:=a8N _ q;have u:4294967296*(Vr+1)≤4294967296*p:=a9T _ K.hVr;have hV:=K.Ii;have hW:=K.hW;have h7:(g-1)*V≤W:=by
  have:g*V=(g-1)*V+V:=by obtain⟨k,rfl⟩:∃ k,g=k+1:=⟨g-1,by omega⟩;rw[a8M,Nat.one_mul]; rfl
  omega
 have:=(Nat.le_div_iff_mul_le hV.1).2 h7;generalize W/V=Q at *
 clear d c i h5 h7;omega
theorem Kn.g3 (K:Kn V W top next Vr head u2 Wr p) {g r:Nat} (l:g*top+r=head) (q:g≤4294967296) (u:4294967296≤r):g≤W/V+1:=by
 have c:=K.low.1;have hV:=K.Ii;have d:g*V=g*top*(4294967296*p)+g*(next*p+Vr):=by rw[K.hV,a9R,a7V,a8H]
 have e:g*(next*p+Vr)≤4294967296*(4294967296*p):=baP q Om;have i:g*top*(4294967296*p)+r*(4294967296*p)=head*(4294967296*p):=by rw[← a8M,l]
 have h5:4294967296*(4294967296*p)≤r*(4294967296*p):=a8N _ u;have hW:=K.hW;have h7:g*V≤W:=Om;have:=(Nat.le_div_iff_mul_le hV.1).2 h7;generalize W/V=Q at *
 clear d e i h5 h7;omega
theorem Kn.g4 (K:Kn V W top next Vr head u2 Wr p):head/top≤4294967296+1:=by
 have c:=K.low.1;have hV:=K.Ii;have hW:=K.hW;have hlt:=K.hlt;have q:=K.htop;have i:head<(top+1)*4294967296:=by
  have d:V<(top+1)*(4294967296*p):=by rw[K.hV,a8M,Nat.one_mul]; omega
  have l:V*4294967296≤(top+1)*(4294967296*p)*4294967296:=a8N _ (Nat.le_of_lt d);have e:head*(4294967296*p)<(top+1)*4294967296*(4294967296*p):=by
   have:(top+1)*(4294967296*p)*4294967296=(top+1)*4294967296*(4294967296*p):=by rw[a8H,a8L (4294967296*p) 4294967296,← a8H]
   omega
  exact Nat.lt_of_mul_lt_mul_right e
 have h5:head/top<4294967296+2:=by rw[baK Om];omega
 omega
end
theorem vN:∀ (k n:Nat),dW (k+1) n=dW k n++[n/4294967296 ^ k%4294967296]
 | 0,n=>by simp[dW]
 | k+1,n=>by show (n%4294967296)::dW (k+1) (n/4294967296)=(n%4294967296)::dW k (n/4294967296)++[n/4294967296 ^ (k+1)%4294967296];rw[vN k (n/4294967296),Nat.div_div_eq_div_mul,a9D,a8L 4294967296];rfl
theorem uO {xs:List Nat} (h:Lim xs):∀ {k:Nat},k≤xs.length→val (xs.drop k)=val xs/4294967296 ^ k:=by
 intro k c;have e:val xs=val (xs.take k)+4294967296 ^ k*val (xs.drop k):=by
  conv=>lhs; rw[← baE k xs,fX,a8A,a9S c]
 have d:=fC (h.take k);rw[a8A,a9S c] at d;rw[e,Nat.add_mul_div_left _ _ (baB (by decide)),baW d,a8E]
theorem XZ {R s i c d X:Nat} (q:s<32) (h:R/4294967296 ^ i=c+4294967296*(d+4294967296*X)):(R/2 ^ s)/4294967296 ^ i%4294967296=(4294967296*d+c)/2 ^ s%4294967296:=by
 rw[Nat.div_div_eq_div_mul,a8L (2 ^ s),← Nat.div_div_eq_div_mul,h];have l:4294967296*4294967296=2 ^ s*(2 ^ (32-s)*4294967296):=by rw[← a8H,← Nat.pow_add,show s+(32-s)=32 by omega]
 have e:c+4294967296*(d+4294967296*X)=(4294967296*d+c)+2 ^ s*(2 ^ (32-s)*X*4294967296):=by
  have:4294967296*(4294967296*X)=2 ^ s*(2 ^ (32-s)*X*4294967296):=by rw[← a8H,l,a8H,a8H,a8H,a8L 4294967296 X]
  rw[a7V,this]; omega
 rw[e,Nat.add_mul_div_left _ _ (baB (by decide)),Nat.add_mul_mod_self_right]
end Go.Na
namespace Go.PM
open Go Go.Na
theorem aSI {A W Z:List Nat} {i:Nat} (hi:i<W.length):(aL (A++W++Z))[A.length+i]?=some [.int .u32 ((W[i]:Nat):Int)]:=by
 have c:A.length+i<(A++W++Z).length:=by simp; omega
 rw[bU _ c];congr 4;rw[List.getElem_append_left (by simp; omega),bbD Om];congr 1;omega
def dF (u v:PV) (n:Nat) (q:PV) (top next j s:Nat):PF:=((((((((PF.nil.set 8 (.int .u64 s)).set 9 (u)).set 10 (v)).set 11 (.int .i64 n)).set 12 (q)).set 13 (.int .u64 top)).set 14 (.int .u64 next)).set 15 (.int .i64 j))
def dG (u v:PV) (n:Nat) (q:PV) (top next j s g r:Nat):PF:=((((((((((PF.nil.set 8 (.int .u64 s)).set 9 (u)).set 10 (v)).set 11 (.int .i64 n)).set 12 (q)).set 13 (.int .u64 top)).set 14 (.int .u64 next)).set 15 (.int .i64 j)).set 17 (.int .u64 g)).set 18 (.int .u64 r))
theorem Gn {C:Ctx} {V y top next Z head e Wr p:Nat} (i:Kn V y top next Z head e Wr p) (htop:top<4294967296) (o l m j s:Nat) (v q:PV) (ζ:j+m+2<l) (η:l≤100000) (U:List Nat) (hU:(aL U)[j+m]?=some [.int .u32 (e:Nat)]) (K:bR) (F:PF) (H:PH)
  (hF:(dG (.osl o 1 0 l) v (m+2) q top next j s (head/top) (head%top)).le F) (hH:H o=some (.rows 1 (aL U)))
  (Y:∀ g r x,y/V≤g→g≤y/V+1→g≤4294967296→(dG (.osl o 1 0 l) v (m+2) q top next j s g r).le x→K .normal x H) :
  aC.wp C (.block 4 (.loop uY)) K F H:=by
 have X:0<top:=by have:=i.htop; omega
 have hn:=i.a6R;have hu2:=i.hu2;simp only[go_sem];refine wp_loop (α:=Nat × Nat) (fun t=>dG (.osl o 1 0 l) v (m+2) q top next j s t.1 t.2) (fun _=>H) (fun t=>t.1*top+t.2=head∧y/V≤t.1∧t.1≤4294967296+1∧t.2<4294967296) (fun t=>t.1) (head/top,head%top)
  ⟨by simp only; rw[a8L]; exact baV head top,i.g0,i.g4,Nat.lt_trans (a8Z _ X) htop⟩ hF b_ ?_
 rintro⟨g,r⟩ ⟨J,W,S,hr⟩;simp only at J W S hr;have e1:IntKind.i64.wrap ((j:Int)+((m+2:Nat):Int))=((j+(m+2):Nat):Int):=gG Om;have e2:IntKind.i64.wrap (((j+(m+2):Nat):Int)-2)=((j+m:Nat):Int):=by rw[wrap_i64 Om Om]; omega
 have hlt:((j+m:Nat):Int)<(l:Nat):=Om;have O:IntKind.u64.wrap ((e:Nat):Int)=((e:Nat):Int):=bE Om;have B:shift .shl .u64 (r:Int) 32=some (.int .u64 ((2 ^ 32*r:Nat):Int)):=LF (s:=32) Om Om;have N:(2:Nat) ^ 32=4294967296:=by decide
 have A:=orI (a:=2 ^ 32*r) (b:=e) (n:=2 ^ 32*r+e) Om Om (Nat.two_pow_add_eq_or_of_lt Om r).symm Om;rw[N] at B A;have more:(g≥4294967296∨g*next>r*4294967296+e)→∀ x:PF,(dG (.osl o 1 0 l) v (m+2) q top next j s g r).le x→aC.wp C (.block 5 (.seq (.region DF) (.seq (.region DG) (.seq (.region DH) (.cond (.tmp 136) (.exit 4) .skip)))))
   (fJ (fun t:Nat × Nat=>dG (.osl o 1 0 l) v (m+2) q top next j s t.1 t.2) (fun _=>H) (fun t=>t.1*top+t.2=head∧y/V≤t.1∧t.1≤4294967296+1∧t.2<4294967296) (fun t=>t.1) g (eX 4 K)) x H:=by
  intro hc x d;obtain⟨g1,g2⟩:=i.g1 J W hc;have f8:=d 8 _ (by unfold dG; simp only[go_sem]; rfl);have f9:=d 9 _ (by unfold dG; simp only[go_sem]; rfl);have β:=d 10 _ (by unfold dG; simp only[go_sem]; rfl);have f11:=d 11 _ (by unfold dG; simp only[go_sem]; rfl);have γ:=d 12 _ (by unfold dG; simp only[go_sem]; rfl);have f13:=d 13 _ (by unfold dG; simp only[go_sem]; rfl);have f14:=d 14 _ (by unfold dG; simp only[go_sem]; rfl);have δ:=d 15 _ (by unfold dG; simp only[go_sem]; rfl);have Q:=d 17 _ (by unfold dG; simp only[go_sem]; rfl);have R:=d 18 _ (by unfold dG; simp only[go_sem]; rfl);have w1:IntKind.u64.wrap ((g:Int)-1)=((g-1:Nat):Int):=by rw[wrap_u64 Om Om]; omega
  have w2:IntKind.u64.wrap ((r:Int)+(top:Int))=((r+top:Nat):Int):=fD Om;have E:(g-1)*top+(r+top)=head:=by obtain⟨k,rfl⟩:∃ k,g=k+1:=⟨g-1,by omega⟩;rw[a8M,Nat.one_mul] at J;simp only[Nat.add_sub_cancel];omega
  simp only[go_sem,DF,DG,DH,Q,R,f13,w1,w2];by_cases c:r+top≥4294967296
  ·have M:((r+top:Nat):Int)≥4294967296:=Om;simp only[go_sem,M];refine Y (g-1) (r+top) _ g2 (i.g3 E Om c) Om ?_;unfold dG;exact Lq
  ·have M:¬ ((r+top:Nat):Int)≥4294967296:=Om;simp only[go_sem,M];refine aD (g-1,r+top) ⟨E,g2,by simp only; omega,by simp only; omega⟩ (by simp only; omega) ?_ b_;unfold dG;exact Lq
 simp only[go_sem,uY,WR,dG];by_cases c1:g≥4294967296
 ·have u:(g:Int)≥4294967296:=Om;simp only[go_sem,u];have:=more (.inl c1);simp only[go_sem,dG] at this;refine this _ ?_;exact Lq
 ·have u:¬ (g:Int)≥4294967296:=Om;have ε:g*next≤4294967295*4294967295:=baP Om Om
  have em:IntKind.u64.wrap ((g:Int)*(next:Int))=((g*next:Nat):Int):=by rw[show (g:Int)*(next:Int)=((g*next:Nat):Int) by simp];exact bE Om
  simp only[go_sem,u,em,B,e1,e2,hlt,hH,hU,O,A];by_cases c2:g*next>r*4294967296+e
  ·have w:((g*next:Nat):Int)>((4294967296*r+e:Nat):Int):=Om;simp only[go_sem,w];have:=more (.inr c2);simp only[go_sem,dG] at this;refine this _ ?_;exact Lq
  ·have w:¬ ((g*next:Nat):Int)>((4294967296*r+e:Nat):Int):=Om;simp only[go_sem,w];refine Y g r _ W (i.g2 J Om Om) Om ?_;unfold dG;exact Lq
end Go.PM
namespace Go.Na
theorem aZX {W v:List Nat} {m:Nat} (hW:Lim W) (c:Lim v) (q:v.length=m+2) (p:W.length=m+3) (u:2147483648≤v[m+1]) (hlt:val W<val v*4294967296) :
  Kn (val v) (val W) (v[m+1]) (v[m]) (val (v.take m)) (W[m+2]*4294967296+W[m+1]) (W[m]) (val (W.take m)) (4294967296 ^ m):=by
 have i:val v=val (v.take m)+4294967296 ^ m*(v[m]+4294967296*v[m+1]):=by
  rw[sB v (Om:m<v.length)];congr 4;have:v.drop (m+1)=[v[m+1]]:=by rw[a9H Om,bbA Om]
  rw[this]; simp[val]
 have l:val W=val (W.take m)+4294967296 ^ m*(W[m]+4294967296*(W[m+1]+4294967296*W[m+2])):=by
  rw[sB W (Om:m<W.length)];congr 4;have:W.drop (m+1)=[W[m+1],W[m+2]]:=by rw[a9H Om,a9H Om,bbA Om]
  rw[this]; simp[val]
 have d:=fC (c.take m);have e:=fC (hW.take m);rw[a8A,a9S Om] at d e;refine⟨?_,?_,d,e,u,c _ (a7J _),hW _ (a7J _),hlt⟩
 ·rw[i,a7V,a8L (4294967296 ^ m) (v[m]),← a8H (4294967296 ^ m),a8L (4294967296 ^ m*4294967296),a8L (4294967296 ^ m) 4294967296];omega
 ·rw[l,a7V,a8L (4294967296 ^ m) (W[m]),← a8H (4294967296 ^ m),a8L (4294967296 ^ m*4294967296),a8L (4294967296 ^ m) 4294967296,a8L (W[m+2]),Nat.add_comm (4294967296*W[m+2])];omega
end Go.Na
namespace Go.PM
open Go Go.Na
structure ft (C:Ctx):Prop where
 subtract:∀ (A W Z v:List Nat) (f o:Nat),Lim W→Lim v→W.length=v.length+1→A.length+v.length≤100000→f≤4294967296→val v*f≤val W+4294967296 ^ (v.length+1) →
  aH C 142 [.osl o 1 A.length (v.length+1),aJ v,.int .u64 f] (PH.nil.set o (.rows 1 (aL (A++W++Z)))) (fun r H'=>r=.bool (decide (val W<val v*f))∧H'=PH.nil.set o (.rows 1 (aL (A++dW (v.length+1) (LJ (v.length+1) (val W) (val v*f))++Z))))
 restore:∀ (A W Z v:List Nat) (o:Nat),Lim W→Lim v→W.length=v.length+1→A.length+v.length≤100000 →
  aH C 139 [.osl o 1 A.length (v.length+1),aJ v] (PH.nil.set o (.rows 1 (aL (A++W++Z)))) (fun r H'=>r=.tup []∧H'=PH.nil.set o (.rows 1 (aL (A++dW (v.length+1) (val W+val v)++Z))))
theorem Jz (k n:Nat):dW k (n%4294967296 ^ k)=dW k n :=
 aaP (mL _ _) (mL _ _) (by rw[lD,lD]) (by rw[AH,AH,Nat.mod_mod])
theorem Gm {C:Ctx} (D:ft C) (A W Z v Q:List Nat) (m o M J s:Nat) (V:M≠o) (hW:Lim W) (hv:Lim v) (μ:v.length=m+2) (κ:W.length=m+3) (ht:2147483648≤v[m+1]) (hlt:val W<val v*4294967296)
  (m':J=A.length+(m+3)+Z.length) (h':J≤10000) (Φ:A.length<Q.length) (K:bR) (F:PF) (H:PH) (N:(dF (.osl o 1 0 J) (aJ v) (m+2) (.osl M 1 0 Q.length) (v[m+1]) (v[m]) A.length s).le F)
  (hH:H o=some (.rows 1 (aL (A++W++Z)))) (η:H M=some (.rows 1 (aL Q)))
  (hK:∀ F' H',(dF (.osl o 1 0 J) (aJ v) (m+2) (.osl M 1 0 Q.length) (v[m+1]) (v[m]) A.length s).le F'→H' o=some (.rows 1 (aL (A++dW (m+3) (val W%val v)++Z)))→H' M=some (.rows 1 (aL (Q.set A.length (val W/val v))))→K .normal F' H') :
  aC.wp C (.block 3 (.seq (.draw DD) (.seq (.draw DE) (.seq (.block 4 (.loop uY)) (.seq (.seq (.region DI) (.cond (.tmp 146) (.seq (.region DJ) (.region DK)) .skip)) (.region uZ)))))) K F H:=by
 have Kk:=aZX hW hv μ κ ht hlt;have l:∀ i (h:i<W.length),(aL (A++W++Z))[A.length+i]?=some [.int .u32 ((W[i]:Nat):Int)]:=fun i h=>aSI h;have g0:=l (m+2) Om;have g1:=l (m+1) Om;have g2:=l m Om;have hq:=Kk.aWE;have htop:v[m+1]<4294967296:=hv _ (a7J _);have q':=hW _ (a7J (Om:m+2<W.length));have r':=hW _ (a7J (Om:m+1<W.length));have U:=Kk.Ii.1;generalize p':v[m+1]=top at *
 generalize n':v[m]=next at *
 generalize s':W[m+2]=w at *
 generalize t':W[m+1]=X at *
 generalize u':W[m]=u2 at *
 have f8:=N 8 _ (by unfold dF; simp only[go_sem]; rfl);have f9:=N 9 _ (by unfold dF; simp only[go_sem]; rfl);have ω:=N 10 _ (by unfold dF; simp only[go_sem]; rfl);have f11:=N 11 _ (by unfold dF; simp only[go_sem]; rfl);have Γ:=N 12 _ (by unfold dF; simp only[go_sem]; rfl);have f13:=N 13 _ (by unfold dF; simp only[go_sem]; rfl);have f14:=N 14 _ (by unfold dF; simp only[go_sem]; rfl);have γ:=N 15 _ (by unfold dF; simp only[go_sem]; rfl);have e1:IntKind.i64.wrap ((A.length:Int)+((m+2:Nat):Int))=((A.length+(m+2):Nat):Int):=gG Om;have e2:IntKind.i64.wrap (((A.length+(m+2):Nat):Int)-1)=((A.length+(m+1):Nat):Int):=by rw[wrap_i64 Om Om]; omega
 have c0:((A.length+(m+2):Nat):Int)<(J:Nat):=Om;have c1:((A.length+(m+1):Nat):Int)<(J:Nat):=Om;have χ:IntKind.u64.wrap ((w:Nat):Int)=((w:Nat):Int):=bE Om;have ψ:IntKind.u64.wrap ((X:Nat):Int)=((X:Nat):Int):=bE Om;have β:shift .shl .u64 (w:Int) 32=some (.int .u64 ((2 ^ 32*w:Nat):Int)):=LF (s:=32) Om Om;have φ:(2:Nat) ^ 32=4294967296:=by decide
 have R:=orI (a:=2 ^ 32*w) (b:=X) (n:=2 ^ 32*w+X) Om Om (Nat.two_pow_add_eq_or_of_lt Om w).symm Om;rw[φ] at β R;have Θ:4294967296*w+X=w*4294967296+X:=Om;rw[Θ] at R;simp only[go_sem];refine bW H eT b_ ?_;simp only[go_sem,DD,f9,γ,f11,e1,e2,c0,c1,hH,g0,g1,χ,ψ,β,R];refine bW H eT b_ ?_;have o':0<top:=Om;have b':¬ ((top:Nat):Int)=0:=Om;generalize l':w*4294967296+X=head at *
 have Y:IntKind.u64.wrap (a9O ((head:Nat):Int) ((top:Nat):Int))=((head/top:Nat):Int):=by rw[show a9O ((head:Nat):Int) ((top:Nat):Int)=((head/top:Nat):Int) from rfl];exact bE (by have:=Kk.g4; omega)
 have α:Int.tmod ((head:Nat):Int) ((top:Nat):Int)=((head%top:Nat):Int):=rfl;simp only[go_sem,DE,f13,b',Y,α];have e:=Gn (C:=C) Kk htop o J m A.length s (aJ v) (.osl M 1 0 Q.length) Om Om (A++W++Z) g2;simp only[go_sem] at e;refine e _ _ H ?_ hH ?_
 ·unfold dG;refine d_ (d_ (d_ (d_ (d_ (d_ (d_ (d_ (d_ (d_ c_ ?_) ?_) ?_) ?_) ?_) ?_) ?_) ?_) ?_) ?_<;>simp only[go_sem,f8,f9,ω,f11,Γ,f13,f14,γ]
 clear e;intro g r F' q1 q2 q3 c;have h8:=c 8 _ (by unfold dG; simp only[go_sem]; rfl);have h9:=c 9 _ (by unfold dG; simp only[go_sem]; rfl);have x:=c 10 _ (by unfold dG; simp only[go_sem]; rfl);have y:=c 11 _ (by unfold dG; simp only[go_sem]; rfl);have δ:=c 12 _ (by unfold dG; simp only[go_sem]; rfl);have ε:=c 13 _ (by unfold dG; simp only[go_sem]; rfl);have ζ:=c 14 _ (by unfold dG; simp only[go_sem]; rfl);have B:=c 15 _ (by unfold dG; simp only[go_sem]; rfl);have S:=c 17 _ (by unfold dG; simp only[go_sem]; rfl);have e3:IntKind.i64.wrap (((A.length+(m+2):Nat):Int)+1)=((A.length+(m+3):Nat):Int):=by rw[wrap_i64 Om Om]; omega
 have c3:(A.length:Int)≤((A.length+(m+3):Nat):Int):=Om;have c4:((A.length+(m+3):Nat):Int)≤(J:Nat):=Om;have e4:A.length+(m+3)-A.length=v.length+1:=Om;have q:v.length+1=m+3:=Om;have k':val v*(val W/val v)+val W%val v=val W:=baV _ _;have θ:=fC hW;rw[κ] at θ;have υ:val W%val v<val v:=a8Z _ U;have ρ:=fC hv;rw[μ] at ρ;have ξ:4294967296 ^ (m+3)=4294967296 ^ (m+2)*4294967296:=a9D _ _;generalize i':val W/val v=u at *
 generalize j':val W%val v=rd at *
 have O:∀ (p:PF) (H2:PH),p 8=some (.int .u64 s)→p 9=some (.osl o 1 0 J)→p 10=some (aJ v)→p 11=some (.int .i64 ((m+2:Nat):Int))→p 12=some (.osl M 1 0 Q.length)→p 13=some (.int .u64 top)→p 14=some (.int .u64 next)→p 15=some (.int .i64 A.length)→p 17=some (.int .u64 u) →
   H2 o=some (.rows 1 (aL (A++dW (m+3) rd++Z)))→H2 M=some (.rows 1 (aL Q))→aC.wp C (.region uZ) (eX 3 K) p H2:=by
  intro p H2 k8 k9 c' d' σ e' f' τ g' kH kQ;have a':(aL Q)[A.length]?=some [.int .u32 ((Q[A.length]:Nat):Int)]:=bU Q Φ;have Ω:(A.length:Int)<(Q.length:Nat):=Om;have eq:IntKind.u32.wrap ((u:Nat):Int)=((u:Nat):Int):=by rw[cL,a8T hq]
  have ο:=fN Q A.length u;have ν:¬ o=M:=fun h=>V h.symm;simp only[go_sem,uZ,σ,τ,g',eq,Ω,kQ,a',ο];refine hK _ _ ?_ (by simp only[go_sem,ν,kH]) Sq;unfold dF;refine d_ (d_ (d_ (d_ (d_ (d_ (d_ (d_ c_ ?_) ?_) ?_) ?_) ?_) ?_) ?_) ?_<;>simp only[go_sem,k8,k9,c',d',σ,e',f',τ]
 have Ψ:(PH.nil.set o (.rows 1 (aL (A++W++Z)))).le H:=PH.aK a_ hH;have ι:val v*g≤val W+4294967296 ^ (v.length+1):=by have:val v*g≤val v*(u+1):=a9T _ q2;rw[a7V,Nat.mul_one] at this;rw[q,ξ]; omega
 simp only[go_sem,DI,h9,B,y,e1,e3,c3,c4,e4,x,S];refine kU (D.subtract A W Z v g o hW hv Om Om q3 ι) rfl Ψ ?_;rintro rr H' ⟨rfl,rfl⟩ -;rw[PH.tC];by_cases Ξ:g=u
 ·subst Ξ;have d:¬ val W<val v*g:=Om;have hN:LJ (v.length+1) (val W) (val v*g)=rd:=by unfold LJ; rw[if_neg d]; omega
  rw[hN,q];simp only[go_sem,d];have:=O;simp only[go_sem] at this;refine this _ _ ?_ ?_ ?_ ?_ ?_ ?_ ?_ ?_ ?_ ?_ ?_<;>simp only[go_sem,h8,h9,x,y,δ,ε,ζ,B,S,V,η]
 ·have Λ:g=u+1:=Om;subst Λ;rw[a7V,Nat.mul_one];have d:val W<val v*u+val v:=Om;have hN:LJ (v.length+1) (val W) (val v*u+val v)=rd+4294967296 ^ (m+3)-val v:=by unfold LJ; rw[if_pos d,q]; omega
  rw[hN];have w1:IntKind.u64.wrap (((u+1:Nat):Int)-1)=((u:Nat):Int):=by rw[wrap_u64 Om Om]; omega
  simp only[go_sem,d,DJ,S,w1,DK,h9,B,y,e1,e3,c3,c4,e4,x];have Δ:val (dW (v.length+1) (rd+4294967296 ^ (m+3)-val v))=rd+4294967296 ^ (m+3)-val v:=oM (by rw[q]; omega);refine kU (D.restore A (dW (v.length+1) (rd+4294967296 ^ (m+3)-val v)) Z v o (mL _ _) hv (lD _ _) Om) rfl (PH.aK a_ Sq) ?_;rintro rr H' ⟨rfl,rfl⟩ -;rw[PH.tC,PH.set_set,Δ];have E:dW (v.length+1) (rd+4294967296 ^ (m+3)-val v+val v)=dW (m+3) rd:=by rw[q,← Jz (m+3) (rd+4294967296 ^ (m+3)-val v+val v)];rw[show rd+4294967296 ^ (m+3)-val v+val v=rd+4294967296 ^ (m+3) by omega,Nat.add_mod_right,Jz]
  rw[E];simp only[go_sem];have:=O;simp only[go_sem] at this;refine this _ _ ?_ ?_ ?_ ?_ ?_ ?_ ?_ ?_ ?_ ?_ ?_<;>simp only[go_sem,h8,h9,x,y,δ,ε,ζ,B,V,η]
open Go
section
variable {C:Ctx} {K:bR} {F:PF} {H Hs:PH} {S:Spec}
theorem Yf {name:Nat} {vs:List PV} {R:PV→PH→Prop} {args:List aP} {st:Bool} {d:Option Nat} {K:PF→PH→Prop} (p:S name vs=some ([],fun _=>R)) (h:aH C name vs .nil R) (c:aP.evs F args=some vs)
  (e:∀ G:PH,∃ r H',R r H'∧lZ G .nil H') (q:∀ r H',R r H'→lZ H .nil H'→Hs.le (H.over .nil H')∧K (F.put d r) (H.over .nil H')):dOp C Hs S st (.call name args) d K F H:=by
 refine⟨vs,[],fun _=>R,c,p,fun o u=>by simp at u,by rw[KE]; exact h,fun G=>?_,fun r H' w c=>?_⟩
 ·obtain⟨r,H',i,l⟩:=e G;exact⟨r,H',i,fun o x y A=>l o x y (by simp[PH.nil])⟩
 ·rw[KE] at c ⊢;exact q r H' w c
theorem PH.over_self (c:PH) (h:c.le H):H.over c c=H:=PH.ext fun q=>by
 rw[gV];cases e:c q with
 | none=>rfl
 | some x=>exact (h q x e).symm
theorem cz {o:Nat} {x:cG} (h:H o=some x):H.only [o]=PH.nil.set o x:=PH.ext fun q=>by
 rw[rY,aT];by_cases e:q=o
 ·subst e; simp[h]
 ·simp[e,UV]
theorem ZK {name o:Nat} {x:cG} {vs:List PV} {v:PV} {R:PH→PV→PH→Prop} {args:List aP} {st:Bool} {d:Option Nat} {K:PF→PH→Prop} (B:S name vs=some ([o],R)) (w:H o=some x)
  (h:aH C name vs (PH.nil.set o x) (fun r H'=>r=v∧H'=PH.nil.set o x)) (c:R (PH.nil.set o x) v (PH.nil.set o x)) (l:∀ r H',R (PH.nil.set o x) r H'→r=v∧H'=PH.nil.set o x) (E:aP.evs F args=some vs) (p:Hs.le H) (J:K (F.put d v) H) :
  dOp C Hs S st (.call name args) d K F H:=by
 have e:=cz w;refine⟨vs,[o],_,E,B,fun q A=>?_,?_,fun G=>⟨v,_,by rw[e]; exact c,fun q y M u=>?_⟩,fun r H' i _=>?_⟩
 ·simp at A; subst A; exact⟨x,w⟩
 ·rw[e];exact h.post fun r H' i=>⟨r,.refl _,by rw[i.1,i.2]; exact c⟩
 ·rw[e] at u; rw[M] at u; cases u
 ·rw[e] at i;obtain⟨rfl,rfl⟩:=l r H' i;rw[e,PH.over_self _ (by rw[← e]; exact VD H [o])];exact⟨p,J⟩
theorem Xs {c:aC} {α:Type} (d:α→PF) (Hs:α→PH) (e:α→Prop) (m:α→Nat) (i:α) (o:Nat) {s:Nat} {rs:List (List PV)} (w:H o=some (.rows s rs)) (l:e i) (p:(d i).le (F.frz o s rs)) (q:(Hs i).le (H.frz o s rs))
  (u:∀ a,e a→c.wp C (fJ d Hs e m (m a) K) (d a) (Hs a)):aC.wp C (.loop c) K F H :=
 ⟨α,d,Hs,e,m,i,_,_,.step o w (.refl _ _),l,p,q,u⟩
@[go_sem] theorem yF (o s:Nat) (rs:List (List PV)) (q:Nat):(H.frz o s rs) q=if q=o then none else (H q).map (cG.frz o s rs):=(rfl)
theorem avL {t u o1 o2 s1 s2 k1 k2:Nat} {rs1 rs2:List (List PV)} {R:PV→PH→Prop} {e:kM} (M:e=.normal∨e=.ret) (d:o1≠o2) (B:F t=some (.osl o1 s1 0 k1)) (E:F u=some (.osl o2 s2 0 k2)) (i:H o1=some (.rows s1 rs1)) (l:H o2=some (.rows s2 rs2))
  (N:k1≤rs1.length) (O:k2≤rs2.length) (p:rs2.map (fun r=>r.map (PV.dE o1 s1 rs1))=rs2) (Q:(rs1.take k1)=rs1.take k1) (J:R (.tup [.sl s1 (rs1.take k1),.sl s2 (rs2.take k2)]) .nil):aV [.tmp t,.tmp u] R e F H:=by
 have q:∃ vs,dV.evs F H [.tmp t,.tmp u]=some vs∧∃ x y H2,jD (PF.nil.set 0 (bO vs)) H x y∧H2.le y∧∃ w,x 0=some w∧R w H2:=by
  have c:o2≠o1:=fun h=>d h.symm;have A:(H.frz o1 s1 rs1) o2=some (.rows s2 rs2):=by rw[yF,if_neg c,l]; simp only[a8W,cG.frz,p]
  refine⟨[.osl o1 s1 0 k1,.osl o2 s2 0 k2],by rw[kI,nC,B,kI,nC,E,oK],_,_,.nil,.step o1 i (.step o2 A (.refl _ _)),a_,_,?_,J⟩;have a1:0+k1≤rs1.length:=Om;have a2:0+k2≤rs2.length:=Om;simp only[PF.frz,kD,if_true,bO,a8W,PV.frz,PV.sO,PV.dE,a8U,a9P,true_and,if_pos a1,if_pos a2,a8R,if_neg c]
 rcases M with rfl | rfl<;>exact q
end
end Go.PM
namespace Go.Na
structure oY (U0 V n lu lq:Nat) (k:Nat) (U Q:List Nat):Prop where
 lu':U.length=lu
 lq':Q.length=lq
 limU:Lim U
 limQ:Lim Q
 v:val U+val Q*V=U0
 r:val (U.drop k)<V
 z:∀ i x,i<k→Q[i]?=some x→x=0
theorem J0 {H V n F q j:Nat} {U Q:List Nat} (h:oY H V n F q (j+1) U Q) (hV:V<4294967296 ^ n) (Z:j<q) (hl:F=q+n) :
  val ((U.drop j).take (n+1))<V*4294967296∧oY H V n F q j (U.take j++dW (n+1) (val ((U.drop j).take (n+1))%V)++U.drop (j+(n+1))) (Q.set j (val ((U.drop j).take (n+1))/V)):=by
 have R:=h.lu';have B:=h.lq';have c:0<V:=by have:=h.r; omega
 have e:j<U.length:=Om;have S:val (U.drop j)=U[j]+4294967296*val (U.drop (j+1)):=by rw[a9H e]; rfl
 have N:=h.limU _ (a7J e);have hlt:val (U.drop j)<V*4294967296:=by have:=h.r; omega
 have A:((U.drop j).take (n+1)).length=n+1:=by rw[a8A,a9J]; omega
 have J:val (U.drop j)=val ((U.drop j).take (n+1))+4294967296 ^ (n+1)*val (U.drop (j+(n+1))):=by
  conv=>lhs; rw[← baE (n+1) (U.drop j),fX,A,List.drop_drop]
 have K:4294967296 ^ (n+1)=4294967296 ^ n*4294967296:=a9D _ _;have O:V*4294967296≤4294967296 ^ n*4294967296:=a8N _ (Nat.le_of_lt hV);have w:val (U.drop (j+(n+1)))=0:=by
  rcases a9Q (val (U.drop (j+(n+1)))) with h0 | h0
  ·exact h0
  ·have:=a9T (4294967296 ^ (n+1)) h0;omega
 rw[w,Nat.mul_zero,a9M] at J;generalize hW:val ((U.drop j).take (n+1))=W at *
 have X:val U=val (U.take j)+4294967296 ^ j*W:=by
  conv=>lhs; rw[← baE j U,fX,a8A,a9S Om,J]
 have p:W%V<V:=a8Z _ c;have y:V*(W/V)+W%V=W:=baV _ _;have E:W/V<4294967296:=by rw[baK c,a8L]; omega
 have hD:val (dW (n+1) (W%V))=W%V:=oM Om;have u:Q[j]=0:=h.z j _ Om (a7U Om);have d:=GK (Om:j<Q.length) (W/V);rw[u,Nat.mul_zero,a9M] at d;have l:(U.take j).length=j:=by rw[a8A]; omega
 refine⟨by omega,?_,?_,?_,?_,?_,?_,?_⟩
 ·simp only[a7O,lD,a9J,a8A]; omega
 ·rw[a9L]; exact B
 ·exact ((h.limU.take j).app (mL _ _)).app (h.limU.drop _)
 ·exact h.limQ.set _ E
 ·rw[a8Q,fX,fX,l,hD,lD,w,Nat.mul_zero,a9M,d];have:=h.v;have h5:(val Q+4294967296 ^ j*(W/V))*V=val Q*V+4294967296 ^ j*(V*(W/V)):=by rw[a8M,a8H,a8L (W/V) V]
  have Y:4294967296 ^ j*W=4294967296 ^ j*(V*(W/V))+4294967296 ^ j*(W%V):=by rw[← a7V,y]
  omega
 ·rw[a8Q,List.drop_append_of_le_length Om,bbA Om,List.nil_append,fX,hD,w,Nat.mul_zero,a9M];exact p
 ·intro i x hi M;rw[List.getElem?_set_ne Om] at M;exact h.z i x Om M
end Go.Na
namespace Go.PM
open Go Go.Na
def dI (u v:PV) (n:Nat) (q:PV) (top next s:Nat) (j:Int):PF:=((((((((PF.nil.set 8 (.int .u64 s)).set 9 (u)).set 10 (v)).set 11 (.int .i64 n)).set 12 (q)).set 13 (.int .u64 top)).set 14 (.int .u64 next)).set 15 (.int .i64 j))
theorem rV (o s:Nat) (rs:List (List PV)) (L:List Nat):(aL L).map (fun r=>r.map (PV.dE o s rs))=aL L:=by
 unfold aL;rw[List.map_map];rfl
theorem P5 {C:Ctx} (D:ft C) (R m p e o o2 i s:Nat) (v c:List Nat) (h2:o2≠o) (h3:i≠o) (h4:i≠o2) (hv:Lim v) (J:v.length=m+2) (χ:(aL c).take (m+2)=aL v) (ψ:m+2≤c.length) (ht:2147483648≤v[m+1])
  (φ:p=e+(m+2)) (M:p≤10000) (U:List Nat) (w:oY R (val v) (m+2) p e e U (a7K e 0)) (K:bR) (F:PF) (H:PH)
  (u:(dI (.osl o 1 0 p) (.osl o2 1 0 (m+2)) (m+2) (.osl i 1 0 e) (v[m+1]) (v[m]) s ((e:Int)-1)).le F) (hH:H o=some (.rows 1 (aL U))) (θ:H o2=some (.rows 1 (aL c))) (η:H i=some (.rows 1 (aL (a7K e 0))))
  (hK:∀ U' Q' O,oY R (val v) (m+2) p e 0 U' Q'→(dI (.osl o 1 0 p) (aJ v) (m+2) (.osl i 1 0 e) (v[m+1]) (v[m]) s (-1)).le O→K .normal O ((PH.nil.set o (.rows 1 (aL U'))).set i (.rows 1 (aL Q')))) :
  aC.wp C (.block 2 (.loop DB)) K F H:=by
 have f8:=u 8 _ (by unfold dI; simp only[go_sem]; rfl);have f9:=u 9 _ (by unfold dI; simp only[go_sem]; rfl);have V:=u 10 _ (by unfold dI; simp only[go_sem]; rfl);have f11:=u 11 _ (by unfold dI; simp only[go_sem]; rfl);have W:=u 12 _ (by unfold dI; simp only[go_sem]; rfl);have f13:=u 13 _ (by unfold dI; simp only[go_sem]; rfl);have f14:=u 14 _ (by unfold dI; simp only[go_sem]; rfl);have X:=u 15 _ (by unfold dI; simp only[go_sem]; rfl);have x:¬ o=o2:=fun h=>h2 h.symm;have y:¬ i=o2:=h4;have N:¬ o=i:=fun h=>h3 h.symm;have ο:∀ (k:IntKind) (n:Int),PV.frz o2 1 (aL c) (.int k n)=.int k n:=fun _ _=>rfl;have σ:∀ l,PV.frz o2 1 (aL c) (.osl o 1 0 l)=.osl o 1 0 l:=fun l=>by simp only[PV.frz,PV.sO,PV.dE,if_neg x]
 have ρ:∀ l,PV.frz o2 1 (aL c) (.osl i 1 0 l)=.osl i 1 0 l:=fun l=>by simp only[PV.frz,PV.sO,PV.dE,if_neg y]
 have τ:PV.frz o2 1 (aL c) (.osl o2 1 0 (m+2))=aJ v:=by
  have:0+(m+2)≤(aL c).length:=by rw[cA]; omega
  simp only[PV.frz,PV.sO,PV.dE,if_true,true_and,if_pos this,a8R,χ]
 simp only[go_sem];refine Xs (α:=Nat × List Nat × List Nat) (fun t=>dI (.osl o 1 0 p) (aJ v) (m+2) (.osl i 1 0 e) (v[m+1]) (v[m]) s ((t.1:Int)-1)) (fun t=>(PH.nil.set o (.rows 1 (aL t.2.1))).set i (.rows 1 (aL t.2.2)))
  (fun t=>t.1≤e∧oY R (val v) (m+2) p e t.1 t.2.1 t.2.2) (fun t=>t.1) (e,U,a7K e 0) o2 θ ⟨a7M _,w⟩ ?_ ?_ ?_
 ·unfold dI;refine d_ (d_ (d_ (d_ (d_ (d_ (d_ (d_ c_ ?_) ?_) ?_) ?_) ?_) ?_) ?_) ?_<;>simp only[go_sem,f8,f9,V,f11,W,f13,f14,X,ο,σ,ρ,τ]
 ·refine PH.aK (PH.aK a_ ?_) ?_
  ·simp only[go_sem,x,hH,cG.frz,rV]
  ·simp only[go_sem,y,η,cG.frz,rV]
 rintro⟨k,U,Q⟩ ⟨hk,w⟩;simp only at hk w;simp only[go_sem,DB,WQ,dI];by_cases h0:0<k
 ·obtain⟨j,rfl⟩:∃ j,k=j+1:=⟨k-1,by omega⟩;have hz:((j+1:Nat):Int)-1=(j:Int):=Om;have υ:(j:Int)≥0:=Om;have E:val v<4294967296 ^ (m+2):=by have:=fC hv; rw[J] at this; exact this
  obtain⟨hlt,ι⟩:=J0 w E Om φ;have μ:=w.lu';have κ:=w.lq';have hA:(U.take j).length=j:=by rw[a8A]; omega
  have ν:((U.drop j).take (m+3)).length=m+3:=by rw[a8A,a9J]; omega
  have q:U.take j++(U.drop j).take (m+3)++U.drop (j+(m+3))=U:=by rw[a8Q,← List.drop_drop,baE,baE]
  have ξ:(U.drop (j+(m+3))).length=p-(j+(m+3)):=by rw[a9J,μ]
  have A:=Gm (C:=C) D (U.take j) ((U.drop j).take (m+3)) (U.drop (j+(m+3))) v Q m o i p s h3 ((w.limU.drop _).take _) hv J ν ht hlt (by rw[hA,ξ]; omega) M (by rw[hA]; omega);rw[hA,q,κ] at A;have S:IntKind.i64.wrap ((j:Int)-1)=(j:Int)-1:=wrap_i64 Om Om;simp only[go_sem,hz,υ];simp only[go_sem] at A;refine A _ _ _ ?_ (by simp only[go_sem,N]) Sq ?_
  ·unfold dF;exact Lq
  ·intro O H' d ζ B;have g8:=d 8 _ (by unfold dF; simp only[go_sem]; rfl);have g9:=d 9 _ (by unfold dF; simp only[go_sem]; rfl);have Y:=d 10 _ (by unfold dF; simp only[go_sem]; rfl);have Z:=d 11 _ (by unfold dF; simp only[go_sem]; rfl);have β:=d 12 _ (by unfold dF; simp only[go_sem]; rfl);have γ:=d 13 _ (by unfold dF; simp only[go_sem]; rfl);have δ:=d 14 _ (by unfold dF; simp only[go_sem]; rfl);have ε:=d 15 _ (by unfold dF; simp only[go_sem]; rfl);simp only[go_sem,WS,ε,S];refine aD (j,_,_) ⟨by simp only; omega,ι⟩ (by simp only; omega) ?_ (PH.aK (PH.aK a_ ζ) B);refine d_ (d_ (d_ (d_ (d_ (d_ (d_ (d_ c_ ?_) ?_) ?_) ?_) ?_) ?_) ?_) ?_<;>simp only[go_sem,g8,g9,Y,Z,β,γ,δ]
 ·have:k=0:=Om;subst this;have hz:¬ ((0:Nat):Int)-1≥0:=by decide
  simp only[go_sem,hz];refine hK U Q _ w ?_;unfold dI
  (repeat' (first|exact c_|refine d_ ?_ ?_))<;>first|(simp only[go_sem,show ((0:Nat):Int)-1=-1 from rfl]<;>rfl)|rfl
open Go Go.Na
def rFr (o d e c or n s i:Nat):PF:=((((((PF.nil.set 8 (.int .u64 s)).set 9 (.osl o 1 0 d)).set 12 (.osl e 1 0 c)).set 19 (.osl or 1 0 n)).set 166 (.int .i64 n)).set 167 (.int .i64 i))
theorem aWV {x s:Nat} (c:s≤64):shift .shr .u64 (x:Int) (s:Int)=some (.int .u64 ((x/2 ^ s:Nat):Int)):=by
 unfold shift;rw[if_neg Om];simp only;have:min (Int.toNat (s:Int)) IntKind.u64.bits=s:=by rw[show IntKind.u64.bits=64 from rfl]; omega
 rw[this,Int.fdiv_eq_ediv_of_nonneg _ (by exact_mod_cast a7N _)]
 norm_cast
theorem P6 {C:Ctx} (o l c Z n s:Nat) (U Q:List Nat) (hs:s<32) (h3:c≠o) (V:Lim U) (hl:U.length=l) (hn:n<l) (β:l≤10000) (K:bR) (F:PF)
  (f8:F 8=some (.int .u64 s)) (f9:F 9=some (.osl o 1 0 l)) (f11:F 11=some (.int .i64 n)) (γ:F 12=some (.osl c 1 0 Z))
  (hK:∀ or F' H',or≠o→or≠c→(rFr o l c Z or n s n).le F'→H' c=some (.rows 1 (aL Q))→H' or=some (.rows 1 (aL (dW n (val U/2 ^ s))))→K .normal F' H') :
  aC.wp C (.seq (.region DL) (.seq (.region DM) (.block 6 (.loop DC)))) K F ((PH.nil.set o (.rows 1 (aL U))).set c (.rows 1 (aL Q))):=by
 have X:((n:Nat):Int)*((4:Nat):Int)≤140737488355328:=Om;have Y:((n:Nat):Int)≤9223372036854775807:=Om;have hz:a7K n [PV.int .u32 0]=aL ([]++a7K n 0):=by simp[aL]
 simp only[go_sem,DL,f11,X,Y,hz];refine aR fun or H=>?_;have n1:¬ or=c:=(iU.1 H).1;have n2:¬ or=o:=(iU.1 (iU.1 H).2).1;have q:¬ c=or:=fun h=>n1 h.symm;have u:¬ o=or:=fun h=>n2 h.symm;have n3:¬ c=o:=h3;have w:¬ o=c:=fun h=>n3 h.symm;simp only[go_sem,DM];refine wp_loop (α:=List Nat) (fun P=>rFr o l c Z or n s P.length) (fun P=>((PH.nil.set o (.rows 1 (aL U))).set c (.rows 1 (aL Q))).set or (.rows 1 (aL (P++a7K (n-P.length) 0)))) (fun P=>P.length≤n∧P=dW P.length (val U/2 ^ s)) (fun P=>n-P.length) []
  ⟨by simp,rfl⟩ ?_ ?_ ?_
 ·unfold rFr;exact Lq
 ·refine PH.aK (PH.aK (PH.aK a_ ?_) ?_) ?_<;>simp only[go_sem,n1,q,n2,u,n3,w,a9W]
 rintro P ⟨hP,hD⟩;simp only[go_sem,DC,WT,rFr];by_cases c1:P.length<n
 ·have i:(P.length:Int)<(n:Nat):=Om;obtain⟨k,hk⟩:∃ k,n-P.length=k+1:=⟨n-P.length-1,by omega⟩;have W:(aL (P++a7K (k+1) 0))[P.length]?=some [.int .u32 ((0:Nat):Int)]:=by rw[bU _ (by simp)]; simp
  have N:P.length<U.length:=Om;have a1:P.length+1<U.length:=Om;have b0:(P.length:Int)<(l:Nat):=Om;have b1:((P.length+1:Nat):Int)<(l:Nat):=Om;have δ:=V _ (a7J N);have ε:=V _ (a7J a1);have e:val U/4294967296 ^ P.length=U[P.length]+4294967296*(U[P.length+1]+4294967296*val (U.drop (P.length+2))):=by rw[← uO V Om,a9H N,a9H a1];rfl
  have E:=XZ hs e;have g0:=bU U N;have g1:=bU U a1;generalize ζ:U[P.length]=p at *
  generalize η:U[P.length+1]=d at *
  have e1:IntKind.i64.wrap ((P.length:Int)+1)=((P.length+1:Nat):Int):=cZ Om;have R:IntKind.u64.wrap ((p:Nat):Int)=((p:Nat):Int):=bE Om;have S:IntKind.u64.wrap ((d:Nat):Int)=((d:Nat):Int):=bE Om;have A:shift .shl .u64 (d:Int) 32=some (.int .u64 ((2 ^ 32*d:Nat):Int)):=LF (s:=32) Om Om;have O:(2:Nat) ^ 32=4294967296:=by decide
  have y:=orI (a:=2 ^ 32*d) (b:=p) (n:=2 ^ 32*d+p) Om Om (Nat.two_pow_add_eq_or_of_lt Om d).symm Om;rw[O] at A y;have B:=aWV (x:=4294967296*d+p) (s:=s) Om;have M:(aL (P++a7K (k+1) 0)).set P.length [.int .u32 (((4294967296*d+p)/2 ^ s%4294967296:Nat):Int)]=aL ((P++[(4294967296*d+p)/2 ^ s%4294967296])++a7K k 0):=by rw[fN,yQ]
  simp only[go_sem,i,WU];refine bW .nil eT a_ ?_;simp only[go_sem,WV,i,e1,b0,b1,u,w,g0,g1,R,S,A,y,B,cL,hk,W,M];refine⟨a_,?_⟩;simp only[go_sem,WW,e1];refine aD (P++[(4294967296*d+p)/2 ^ s%4294967296]) ⟨by simp; omega,?_⟩ (by simp; omega) ?_ (PH.aK (PH.aK (PH.aK a_ ?_) ?_) ?_)
  ·rw[a7O,a7S,vN,← hD,E]
  ·rw[a7O,a7S];exact Lq
  ·simp only[go_sem,u,w]
  ·simp only[go_sem,q]
  ·rw[a7O,a7S,show n-(P.length+1)=k by omega];simp only[go_sem]
 ·have e:P.length=n:=Om;have i:¬ (P.length:Int)<(n:Nat):=Om;have J:a7K (n-P.length) 0=[]:=by rw[show n-P.length=0 by omega]; rfl
  rw[e] at hD;simp only[go_sem,i,J,a9G];refine hK or _ _ n2 n1 ?_ (by simp only[go_sem,q]) (by simp only[go_sem]; rw[← hD]);unfold rFr;rw[e];exact Lq
structure ZC (C:Ctx):Prop where
 L:pS C
 D:ft C
 up:∀ (a:List Nat) (s:Nat),Lim a→s<32→a.length≤1000→aH C 143 [aJ a,.int .u64 s] .nil (upR a s)
 short:∀ (a:List Nat) (d:Nat),Lim a→0<d→d<4294967296→a.length≤1000→aH C 140 [aJ a,.int .u32 d] .nil (aF (.tup [aJ (aI (val a/d)),.int .u32 ((val a%d:Nat):Int)]))
 lengthO:∀ (xs:List Nat) (o:Nat),Lim xs→xs.length≤35184372087808→aH C 138 [.osl o 1 0 xs.length] (PH.nil.set o (.rows 1 (aL xs))) (fun r H'=>r=.int .i64 (nl (val xs):Nat)∧H'=PH.nil.set o (.rows 1 (aL xs)))
def aEP:Spec:=fun name vs=>match name,vs with
 | 143,[x,.int _ s]=>some ([],fun _=>upR (jE x) s.toNat)
 | 138,[.osl q _ _ _]=>some ([q],fun c r H'=>H'=c∧∀ xs,Lim xs→c q=some (.rows 1 (aL xs))→r=.int .i64 (nl (val xs):Nat))
 | _,_=>none
theorem Yg (a:List Nat) (s:Nat):aEP 143 [aJ a,.int .u64 s]=some ([],fun _=>upR a s):=by
 show some _=_; rw[eG,a9A]
theorem Tz (a:List Nat) (s:Nat):∀ G:PH,∃ r H',upR a s r H'∧lZ G .nil H':=fun G=>by
 obtain⟨o,d⟩:=G.fresh;refine⟨_,_,⟨o,rfl,rfl⟩,fun q x c _=>?_⟩;rw[aT] at c;split at c
 ·rename_i e; subst e; exact d
 ·cases c
theorem RE {xs ys:List Nat} (h:aL xs=aL ys):xs=ys:=by
 have:=congrArg jE (show aJ xs=aJ ys by show PV.sl 1 (aL xs)=PV.sl 1 (aL ys); rw[h])
 rwa [eG,eG] at this
theorem Ck (q:Nat) (L:List Nat):(PH.nil.set q (.rows 1 (aL L)))=(PH.nil.set q (.rows 1 (aL L)))∧∀ xs,Lim xs→(PH.nil.set q (.rows 1 (aL L))) q=some (.rows 1 (aL xs))→(PV.int .i64 (nl (val L):Nat))=.int .i64 (nl (val xs):Nat):=by
 refine⟨rfl,fun xs c e=>?_⟩;rw[cP] at e;have:aL L=aL xs:=(cG.rows.inj (a9V.inj e)).2;rw[RE this]
def pG (A B:Nat):PV:=.tup [aJ (aI (A/B)),aJ (aI (A%B))]
def amL (a b:List Nat) (s:Nat):PF:=(((PF.nil.set 0 (aJ a)).set 1 (aJ b)).set 8 (.int .u64 s))
theorem aSL {x s:Nat} (c:s≤31) (h:x*2 ^ s<4294967296):shift .shl .u32 (x:Int) (s:Int)=some (.int .u32 ((x*2 ^ s:Nat):Int)):=by
 unfold shift;rw[if_neg Om];simp only;have:min (Int.toNat (s:Int)) IntKind.u32.bits=s:=by rw[show IntKind.u32.bits=32 from rfl]; omega
 rw[this,show (x:Int)*2 ^ s=((x*2 ^ s:Nat):Int) by simp,cL,a8T h]
theorem Vc {n i x:Nat} (c:(a7K n 0)[i]?=some x):x=0:=by
 have:=baC c;rw[List.mem_replicate] at this;exact this.2
theorem ln {C:Ctx} (F:ZC C) (A B:Nat) (hB:B≠0) (hA:nl A≤900) (i':nl B≤900) :
  zS.wp C (aV VC.res (bY (pG A B))) (PF.args [aJ (aI A),aJ (aI B)]) .nil:=by
 have LA:=aX A;have Y:=aX B;have vA:=aW A;have vB:=aW B;have lA:(aI A).length=nl A:=rfl;have lB:(aI B).length=nl B:=rfl;simp only[go_sem,zS,lx,ly,VC];refine aA (F.L.cmp _ _ LA Y Om Om) rfl ?_;rw[vA,vB];by_cases c1:A<B
 ·have hc:dP A B<0:=by simp[dP,c1]
  simp only[go_sem,hc,lz];refine aA (F.L.trim _ LA Om) rfl ?_;rw[vA];simp only[go_sem];refine bA (vs:=[.aB,aJ (aI A)]) (.inr rfl) .nil rfl a_ ⟨?_,rfl⟩;rw[pG,baW c1,a8T c1,fO];refine .tup rfl fun j p q hp hq=>?_
  match j with
  | 0=>simp at hp hq; subst hp; subst hq; exact .nil 1
  | 1=>simp at hp hq; subst hp; subst hq; exact .refl _
  | j+2=>simp at hp
 have hc:¬ dP A B<0:=by unfold dP;rw[if_neg c1];split<;>decide
 have Q:0<B:=a9U hB;have l':nl B≠0:=fun h=>hB (hZ.1 h);simp only[go_sem,hc,l2];by_cases c2:nl B=1
 ·have γ:B<4294967296:=by have:=(jB B 1).1 Om; simpa using this
  have Ξ:aI B=[B]:=oI hB γ;have X:A%B<B:=a8Z _ Q;have ew:IntKind.u64.wrap ((A%B:Nat):Int)=((A%B:Nat):Int):=bE Om;rw[Ξ];have ξ:=F.short (aI A) B LA Q γ Om;rw[vA] at ξ;simp only[go_sem,show (((1:Nat):Int)==1)=true from rfl,l3];refine aA ξ rfl ?_;simp only[go_sem,l4,ew];refine aA (F.L.make (A%B) Om) rfl ?_;simp only[go_sem];exact bA (vs:=[aJ (aI (A/B)),aJ (aI (A%B))]) (.inr rfl) .nil rfl a_ ⟨.refl _,rfl⟩
 obtain⟨m,hm⟩:∃ m,nl B=m+2:=⟨nl B-2,by omega⟩;have h':nl B≤nl A:=fT Om;obtain⟨bt,u,e'⟩:=Sz Y (n:=m+1) (by rw[vB]; exact hm);have K:m+1<(aI B).length:=Om;have ι:bt<4294967296:=Y bt (baC u);have j':B=val ((aI B).take (m+1))+4294967296 ^ (m+1)*bt:=by have e:=cF (aI B) K;rw[a8C Om,vB] at e;rw[a7U K] at u;rw[a9V.inj u] at e;exact e
 have S:=fC (Y.take (m+1));rw[a8A,a9S Om] at S;have ν:(aL (aI B))[m+1]?=some [.int .u32 ((bt:Nat):Int)]:=by rw[bU _ K];rw[a7U K] at u;rw[a9V.inj u]
 have i1:IntKind.i64.wrap ((((aI B).length:Nat):Int)-1)=((m+1:Nat):Int):=by rw[wrap_i64 Om Om]; omega
 have κ:¬ (((aI B).length:Nat):Int)=1:=Om;simp only[go_sem,bF κ,l5];refine wp_loop (α:=Nat) (fun s=>amL (aI A) (aI B) s) (fun _=>.nil) (fun s=>s≤31∧bt*2 ^ s<4294967296) (fun s=>32-s) 0 ⟨by omega,by simpa using ι⟩ ?_ a_ ?_
 ·unfold amL;exact Lq
 rintro s ⟨hs,Θ⟩;have υ:=aSL hs Θ;simp only[go_sem,lm,l6,amL,i1,ν,υ];refine aEF ?_ ?_
 ·intro c3;have τ:=of_decide_eq_true c3;have f':s<31:=by
   rcases a8D s 31 with h | h
   ·exact h
   ·exfalso;have e:2147483648≤2 ^ s:=baL (show 0<2 by decide) h;have H:1*2 ^ s≤bt*2 ^ s:=a8N _ Om;omega
  have es:IntKind.u64.wrap ((s:Int)+1)=((s+1:Nat):Int):=by rw[wrap_u64 Om Om]; omega
  simp only[go_sem,l7,es];refine aD (s+1) ⟨by omega,by rw[a9D,← a8H]; omega⟩ Om ?_ a_;exact Lq
 intro c3;have τ:=of_decide_eq_false c3;have y:s<32:=Om;have w:0<2 ^ s:=baB (by decide);have O:2147483648*4294967296 ^ (m+1)≤B*2 ^ s:=by
  have e:2147483648*4294967296 ^ (m+1)≤(bt*2 ^ s)*4294967296 ^ (m+1):=a8N _ Om;have H:(4294967296 ^ (m+1)*bt)*2 ^ s≤B*2 ^ s:=a8N _ Om;have h3:(4294967296 ^ (m+1)*bt)*2 ^ s=(bt*2 ^ s)*4294967296 ^ (m+1):=by rw[a8H,a8L]
  omega
 have θ:B*2 ^ s<4294967296 ^ (m+2):=by
  have h0:(bt+1)*2 ^ s≤4294967296:=by
   have g':(4294967296:Nat)=2 ^ (32-s)*2 ^ s:=by rw[← Nat.pow_add,show 32-s+s=32 by omega]
   have:bt<2 ^ (32-s):=by
    rcases a8D bt (2 ^ (32-s)) with h | h
    ·exact h
    ·have:=a8N (2 ^ s) h;omega
   have:=a8N (2 ^ s) (show bt+1≤2 ^ (32-s) from this);omega
  have e:B<(bt+1)*4294967296 ^ (m+1):=by rw[a8M,Nat.one_mul,a8L bt]; omega
  have H:B*2 ^ s<(bt+1)*4294967296 ^ (m+1)*2 ^ s:=Nat.mul_lt_mul_of_pos_right e w;have h3:(bt+1)*4294967296 ^ (m+1)*2 ^ s=(bt+1)*2 ^ s*4294967296 ^ (m+1):=Nat.mul_right_comm _ _ _;have h4:(bt+1)*2 ^ s*4294967296 ^ (m+1)≤4294967296*4294967296 ^ (m+1):=a8N _ h0;have h5:4294967296 ^ (m+2)=4294967296*4294967296 ^ (m+1):=by rw[a9D,a8L]
  omega
 have N:A<4294967296 ^ nl A:=(jB A _).1 (a7M _);simp only[go_sem];refine bW .nil aEP a_ ?_;simp only[go_sem,WL];have ua:=F.up (aI A) s LA y Om;have ub:=F.up (aI B) s Y y Om;refine Yf (Yg (aI A) s) ua rfl (Tz _ _) ?_;rintro r H' ⟨o,rfl,rfl⟩ -;rw[PH.pN,lA,vA];refine⟨a_,?_⟩;simp only[go_sem];refine Yf (Yg (aI B) s) ub rfl (Tz _ _) ?_;rintro r H' ⟨o2,rfl,rfl⟩ Δ;rw[PH.pN,lB,vB,hm];refine⟨a_,?_⟩;have Λ:=Δ o2 _ (by rw[aT,if_pos rfl]) (by rfl);have ρ:¬ o2=o:=(iU.1 Λ).1;have c':¬ o=o2:=fun h=>ρ h.symm;have k1:((m+2:Nat):Int)≤((m+2+1:Nat):Int):=Om;have k2:IntKind.i64.wrap (((nl A+1:Nat):Int)-((m+2:Nat):Int))=((nl A+1-(m+2):Nat):Int):=by rw[wrap_i64 Om Om]; omega
 obtain⟨c,Φ⟩:∃ c,nl A+1-(m+2)=c:=⟨_,rfl⟩;have Ψ:nl A+1=c+(m+2):=Om;rw[Φ] at k2;have k3:((c:Nat):Int)*((4:Nat):Int)≤140737488355328:=Om;have k4:((c:Nat):Int)≤9223372036854775807:=Om;have hz:a7K c [PV.int .u32 0]=aL (a7K c 0):=by simp[aL]
 have k5:m+2-0=m+2:=Om;simp only[go_sem,lB,hm,k1,k5,WM,WN,k2,k3,k4,hz];refine aR fun E μ=>?_;have q2:¬ E=o2:=(iU.1 μ).1;have q1:¬ E=o:=(iU.1 (iU.1 μ).2).1;have σ:¬ o2=E:=fun h=>q2 h.symm;have d':¬ o=E:=fun h=>q1 h.symm;have Ω:dW (m+2+1) (B*2 ^ s)=dW (m+2) (B*2 ^ s)++[B*2 ^ s/4294967296 ^ (m+2)%4294967296]:=vN _ _;have Lv:=mL (m+2) (B*2 ^ s);have lv:=lD (m+2) (B*2 ^ s);have vv:val (dW (m+2) (B*2 ^ s))=B*2 ^ s:=oM θ;have ο:(aL (dW (m+2+1) (B*2 ^ s))).take (m+2)=aL (dW (m+2) (B*2 ^ s)):=by unfold aL;rw[← List.map_take,Ω,List.take_append_of_le_length Om,a8C Om]
 generalize o':dW (m+2) (B*2 ^ s)=v at *
 have p':(dW (m+2+1) (B*2 ^ s)).length=m+2+1:=lD _ _;have M:∀ i (h:i<v.length),(aL (dW (m+2+1) (B*2 ^ s)))[i]?=some [.int .u32 ((v[i]:Nat):Int)]:=by intro i h;have e:(aL v)[i]?=some [.int .u32 ((v[i]:Nat):Int)]:=bU v h;rw[← ο,List.getElem?_take_of_lt Om] at e;exact e
 have g1:=M (m+1) Om;have g0:=M m Om;have htop:2147483648≤v[m+1]:=by
  have e:=cF v (Om:m+1<v.length);rw[a8C Om,vv] at e;have H:=fC (Lv.take (m+1));rw[a8A,a9S Om] at H;rcases a8D v[m+1] 2147483648 with h | h
  ·exfalso;have h3:4294967296 ^ (m+1)*(v[m+1]+1)≤4294967296 ^ (m+1)*2147483648:=a9T _ h;rw[a7V,Nat.mul_one] at h3;rw[a8L 2147483648] at O;omega
  ·exact h
 have n':=Lv _ (a7J (Om:m+1<v.length));have m':=Lv _ (a7J (Om:m<v.length));have w1:IntKind.u64.wrap ((v[m+1]:Nat):Int)=((v[m+1]:Nat):Int):=bE Om;have w0:IntKind.u64.wrap ((v[m]:Nat):Int)=((v[m]:Nat):Int):=bE Om;have j1:IntKind.i64.wrap (((m+2:Nat):Int)-1)=((m+1:Nat):Int):=by rw[wrap_i64 Om Om]; omega
 have j0:IntKind.i64.wrap (((m+2:Nat):Int)-2)=((m:Nat):Int):=by rw[wrap_i64 Om Om]; omega
 have d1:((m+1:Nat):Int)<((m+2:Nat):Int):=Om;have d0:((m:Nat):Int)<((m+2:Nat):Int):=Om;have jq:IntKind.i64.wrap ((c:Int)-1)=(c:Int)-1:=wrap_i64 Om Om;simp only[go_sem];refine bW .nil eT a_ ?_;simp only[go_sem,WO,j1,j0,d1,d0,σ,g1,g0,w1,w0,WP,jq];have η:A*2 ^ s<4294967296 ^ (nl A+1):=by
  have h0:2 ^ s≤4294967296:=by have:(2:Nat) ^ s≤2 ^ 32:=baL (by decide) Om;simpa using this
  have e:A*2 ^ s<4294967296 ^ nl A*2 ^ s:=Nat.mul_lt_mul_of_pos_right N w;have H:4294967296 ^ nl A*2 ^ s≤4294967296 ^ nl A*4294967296:=a9T _ h0;rw[a9D]; omega
 have LU:=mL (nl A+1) (A*2 ^ s);have lU:=lD (nl A+1) (A*2 ^ s);have vU:val (dW (nl A+1) (A*2 ^ s))=A*2 ^ s:=oM η;have hI:oY (A*2 ^ s) (val v) (m+2) (nl A+1) c c (dW (nl A+1) (A*2 ^ s)) (a7K c 0):=by
  refine⟨lU,List.length_replicate,LU,vQ _,by rw[vU,sD]; omega,?_,fun i x _ hx=>Vc hx⟩
  ·rw[uO LU Om,vU,vv,baK (baB (by decide))];have e:A*2 ^ s<4294967296 ^ nl A*2 ^ s:=Nat.mul_lt_mul_of_pos_right N w;have hx:nl A=m+1+c:=Om;have H:4294967296 ^ nl A=4294967296 ^ (m+1)*4294967296 ^ c:=by rw[hx,Nat.pow_add]
   have h3:2 ^ s≤2147483648:=by have:(2:Nat) ^ s≤2 ^ 31:=baL (by decide) hs;simpa using this
   have h4:4294967296 ^ nl A*2 ^ s≤(2147483648*4294967296 ^ (m+1))*4294967296 ^ c:=by rw[H,a8L (4294967296 ^ (m+1)*4294967296 ^ c),← a8H];exact a8N _ (a8N _ h3)
   have h5:(2147483648*4294967296 ^ (m+1))*4294967296 ^ c≤B*2 ^ s*4294967296 ^ c:=a8N _ O;omega
 have W:=P5 (C:=C) F.D (A*2 ^ s) m (nl A+1) c o o2 E s v (dW (m+2+1) (B*2 ^ s)) ρ q1 q2 Lv lv ο Om htop Ψ Om _ hI;simp only[go_sem] at W;refine W _ _ _ ?_ (by simp only[go_sem,c',d']) (by simp only[go_sem,σ]) Sq ?_
 ·unfold dI;exact Lq
 clear W;intro U' l F' d J;have hu:val U'<val v:=by have:=d.r; rwa [a8R] at this
 have V:=d.v;rw[vv] at hu V;have Γ:0<B*2 ^ s:=Om;have ψ:val l=A/B:=by
  have:A*2 ^ s/(B*2 ^ s)=val l:=by rw[← V,Nat.add_mul_div_right _ _ Γ,baW hu,a8E]
  rw[← this,Nat.mul_div_mul_right _ _ w]
 have ω:val U'/2 ^ s=A%B:=by
  have:A*2 ^ s%(B*2 ^ s)=val U':=by rw[← V,Nat.add_mul_mod_self_right,a8T hu]
  rw[← this,Nat.mul_mod_mul_right,Nat.mul_div_cancel _ w]
 have g8:=J 8 _ (by unfold dI; simp only[go_sem]; rfl);have g9:=J 9 _ (by unfold dI; simp only[go_sem]; rfl);have φ:=J 11 _ (by unfold dI; simp only[go_sem]; rfl);have χ:=J 12 _ (by unfold dI; simp only[go_sem]; rfl);have rest:=P6 (C:=C) o (nl A+1) E c (m+2) s U' l y q1 d.limU d.lu' Om Om;simp only[go_sem] at rest;simp only[go_sem];refine rest _ _ g8 g9 φ χ ?_;clear rest;intro or F2 H2 r1 r2 δ ε U;rw[ω] at U;have a':=δ 12 _ (by unfold rFr; simp only[go_sem]; rfl);have b':=δ 19 _ (by unfold rFr; simp only[go_sem]; rfl);have ζ:A%B<4294967296 ^ (m+2):=by have e:A%B<B:=a8Z _ Q;have H:B<4294967296 ^ nl B:=(jB B _).1 (a7M _);rw[hm] at H; omega
 have LR:=mL (m+2) (A%B);have lR:=lD (m+2) (A%B);have vR:val (dW (m+2) (A%B))=A%B:=oM ζ;have nQ:=fM d.limQ;have nR:=fM LR;have e1:=d.lq';generalize k':dW (m+2) (A%B)=R at *
 simp only[go_sem];refine bW .nil aEP a_ ?_;simp only[go_sem,WX,a'];have Z:=F.lengthO l E d.limQ Om;rw[e1] at Z;have β:=F.lengthO R or LR Om;rw[lR] at β;refine ZK (o:=E) (x:=.rows 1 (aL l)) (v:=.int .i64 (nl (val l):Nat)) rfl ε Z (Ck E l) (fun r H' X=>⟨X.2 l d.limQ (by rw[cP]),X.1⟩) rfl a_ ?_;have c4:((nl (val l):Nat):Int)≤(c:Nat):=Om;simp only[go_sem,c4,b',Nat.sub_zero];refine ZK (o:=or) (x:=.rows 1 (aL R)) (v:=.int .i64 (nl (val R):Nat)) rfl U β (Ck or R) (fun r H' X=>⟨X.2 R LR (by rw[cP]),X.1⟩) rfl a_ ?_;have c5:((nl (val R):Nat):Int)≤((m+2:Nat):Int):=Om;simp only[go_sem,c5];refine avL (o1:=E) (o2:=or) (s1:=1) (s2:=1) (k1:=nl (val l)) (k2:=nl (val R)) (rs1:=aL l) (rs2:=aL R) (.inr rfl) (fun h=>r2 h.symm) rfl rfl ε U (by rw[cA]; exact nQ) (by rw[cA]; exact nR) (rV _ _ _ _) rfl ⟨?_,rfl⟩;have t1:(aL l).take (nl (val l))=aL (aI (A/B)):=by have:=jI d.limQ;rw[ψ] at this ⊢;exact this
 have t2:(aL R).take (nl (val R))=aL (aI (A%B)):=by have:=jI LR;rw[vR] at this ⊢;exact this
 rw[t1,t2];exact .refl _
def aFM (a b:Nat):PF:=((PF.nil.set 0 (aJ (aI a))).set 1 (aJ (aI b)))
theorem acP {C:Ctx} (L:pS C) (c:∀ A B:Nat,B≠0→nl A≤900→nl B≤900→aH C 136 [aJ (aI A),aJ (aI B)] .nil (aF (pG A B))) (a b:List Nat) (p:Lim a) (q:Lim b) (w:a.length≤35184372087808) (E:b.length≤35184372087808) :
  RB.wp C (aV amP.res (bY (if dY (val a) (val b) then .tup [aJ [],.int .i64 2] else .tup [aJ (aI (a7I (val a) (val b))),.int .i64 0]))) (PF.args [aJ a,aJ b]) .nil:=by
 simp only[go_sem,RB,acQ,acR,amP];refine aA (L.large a p w) rfl ?_;by_cases d:nl (val a)>512
 ·simp only[go_sem,d,vn];rw[if_pos (by simp[dY,d])];exact eR rfl
 simp only[go_sem,d];refine aA (L.large b q E) rfl ?_;by_cases e:nl (val b)>512
 ·simp only[go_sem,e,vn];rw[if_pos (by simp[dY,e])];exact eR rfl
 rw[if_neg (by simp[dY,d,e])];simp only[go_sem,e,acS];refine aA (L.trim a p w) rfl ?_;simp only[go_sem];refine aA (L.trim b q E) rfl ?_;simp only[go_sem];refine wp_loop (α:=Nat × Nat) (fun t=>aFM t.1 t.2) (fun _=>.nil) (fun t=>a7I t.1 t.2=a7I (val a) (val b)∧nl t.1≤512∧nl t.2≤512) (fun t=>t.2) (val a,val b) ⟨rfl,by simp only; omega,by simp only; omega⟩ ?_ a_ ?_
 ·unfold aFM;exact Lq
 rintro⟨x,y⟩ ⟨l,F,u⟩;simp only at l F u;simp only[go_sem,acO,acT,aFM,bB];by_cases i:y=0
 ·subst i;have:¬ ((nl 0:Nat):Int)>0:=by rw[yK]; decide
  simp only[go_sem,this,acW];refine bA (vs:=[aJ (aI x),.int .i64 0]) (.inr rfl) .nil rfl a_ ⟨?_,rfl⟩;rw[← l,Nat.gcd_zero_right];exact .refl _
 ·have H:nl y≠0:=fun h=>i (hZ.1 h);have:((nl y:Nat):Int)>0:=Om;simp only[go_sem,this,acU];refine aA (c x y i Om Om) rfl ?_;simp only[go_sem,pG,acV];have hlt:x%y<y:=a8Z _ (a9U i);refine aD (y,x%y) ⟨?_,u,?_⟩ hlt ?_ a_
  ·simp only;rw[← l,Nat.gcd_comm y,← Nat.gcd_rec y x,Nat.gcd_comm]
  ·have:=fT (Nat.le_of_lt hlt);simp only; omega
  ·exact Lq
def mS (A B:Nat):PV:=if dY A B then .tup [aJ [],aJ [],.int .i64 2] else if B=0 then .tup [aJ [],aJ [],.int .i64 3] else .tup [aJ (aI (A/B)),aJ (aI (A%B)),.int .i64 0]
def amM:Spec:=fun name vs=>match name,vs with
 | 138,[x]=>some ([],fun _=>aF (.int .i64 (nl (val (jE x)):Nat)))
 | 136,[x,y]=>some ([],fun _=>aF (pG (val (jE x)) (val (jE y))))
 | _,_=>none
theorem QY (xs:List Nat):amM 138 [aJ xs]=some ([],fun _=>aF (.int .i64 (nl (val xs):Nat))):=by
 show some _=_; rw[eG]
theorem P4 (A B:Nat):amM 136 [aJ (aI A),aJ (aI B)]=some ([],fun _=>aF (pG A B)):=by
 show some _=_; rw[eG,eG,aW,aW]
theorem rX {res:List dV} {F:PF} {H:PH} {e:Int} (h:dV.evs F H res=some [.aB,.aB,.int .i64 e]):aV res (bY (.tup [aJ [],aJ [],.int .i64 e])) .ret F H:=by
 refine bA (.inr rfl) .nil h a_ ⟨?_,rfl⟩;refine .tup rfl fun j p q c d=>?_
 match j with
 | 0=>simp at c d; subst c; subst d; exact .nil 1
 | 1=>simp at c d; subst c; subst d; exact .nil 1
 | 2=>simp at c d; subst c; subst d; exact .refl _
 | j+3=>simp at c
theorem acH {C:Ctx} (L:pS C) (i:∀ A B:Nat,B≠0→nl A≤900→nl B≤900→aH C 136 [aJ (aI A),aJ (aI B)] .nil (aF (pG A B))) (a b:List Nat) (p:Lim a) (e:Lim b) (x:a.length≤35184372087808) (w:b.length≤35184372087808) :
  QZ.wp C (aV amK.res (bY (mS (val a) (val b)))) (PF.args [aJ a,aJ b]) .nil:=by
 simp only[go_sem,QZ,acI,acJ,amK];refine aA (L.large a p x) rfl ?_;by_cases c:nl (val a)>512
 ·simp only[go_sem,c,vm];rw[show mS (val a) (val b)=.tup [aJ [],aJ [],.int .i64 2] by simp[mS,dY,c]];exact rX rfl
 simp only[go_sem,c];refine aA (L.large b e w) rfl ?_;by_cases l:nl (val b)>512
 ·simp only[go_sem,l,vm];rw[show mS (val a) (val b)=.tup [aJ [],aJ [],.int .i64 2] by simp[mS,dY,l]];exact rX rfl
 simp only[go_sem,l,acK];refine aA (L.length b e w) rfl ?_;by_cases d:val b=0
 ·have:((nl (val b):Nat):Int)=0:=by rw[d,yK]; rfl
  simp only[go_sem,bL this,acL];rw[show mS (val a) (val b)=.tup [aJ [],aJ [],.int .i64 3] by simp[mS,dY,c,d,yK]];exact rX rfl
 have y:nl (val b)≠0:=fun h=>d (hZ.1 h);rw[show mS (val a) (val b)=.tup [aJ (aI (val a/val b)),aJ (aI (val a%val b)),.int .i64 0] by simp[mS,dY,c,l,d]];simp only[go_sem,bF (show ((nl (val b):Nat):Int)≠0 by omega)];refine bW .nil amM a_ ?_;simp only[go_sem,acM];have E:=fM p;have F:=fM e;have q:((nl (val a):Nat):Int)≤(a.length:Nat):=Om;have u:((nl (val b):Nat):Int)≤(b.length:Nat):=Om;refine bP (QY a) (L.length a p x) rfl a_ ?_;simp only[go_sem,q,or_true,a8R,jI p];refine bP (QY b) (L.length b e w) rfl a_ ?_;simp only[go_sem,u,or_true,a8R,jI e];refine bP (P4 (val a) (val b)) (i _ _ d Om Om) rfl a_ ?_;simp only[go_sem,pG,acN];exact bA (.inr rfl) .nil rfl a_ ⟨.refl _,rfl⟩
def jb:Rg:=[iA 6 (.alloc [zB,.aB,.aB]),iI 7 0]
def jc:Rg:=[iM 11 1,iM 12 2,iK2 13 131 11 12,iM 10 13,iE 14 10 0,iE 15 10 1,iM 8 14,iM 9 15]
def jd:Rg:=[iM 16 8,iK 17 128 16,iC 18 .gtr 17 1]
def je:Rg:=[iM 20 1,iM 21 8,iK2 22 130 20 21,iM 19 22,iE 23 19 0,iE 24 19 1,iE 25 19 2,iM 1 23]
def jf:Rg:=[iM 27 2,iM 28 8,iK2 29 130 27 28,iM 26 29,iE 30 26 0,iE 31 26 1,iE 32 26 2,iM 2 30]
def HS:Rg:=[iM 33 1,iK 34 128 33,iC 35 .gtr 34 4096,iM 36 35,gM 37 2 36 false,gK 38 128 37 36 false,gC 39 .gtr 38 4096 36 false,iQ 40 36 39]
def wV:Rg:=[iA 41 (.build [zB,.aB,.aB] []),iS 3 6 41,iI 7 2]
def HT:Rg:=[iM 42 0,iM 43 42,gM 44 1 43 true,gK 45 128 44 43 true,gC 46 .gtr 45 0 43 true,iP 47 43 46,iM 48 1,iK 49 135 48,iM 50 2,iK 51 135 50,iA 52 (.build [zB,.aB,.aB] [(0,1,(Tm 47)),(1,1,(Tm 49)),(2,1,(Tm 51))]),iS 3 6 52,iI 7 0]
def zG:aC:=(sq jb (.seq (sq jc (sq jd (.cond (Tm 18) (sq je (.region jf)) .skip))) (.seq (sq HS (.cond (Tm 40) (sq wV .ret) .skip)) (sq HT .ret))))
def akE:List Nat:=[]
def rU:aS:=⟨3,53,zG,[.cell 6 (some 3),.tmp 7]⟩
def zj:Rg:=[iZ 4]
def zk:Rg:=[iM 8 0,iM 9 1,iK2 10 133 8 9,iM 7 10,iE 11 7 0,iE 12 7 1,iM 5 11,iM 6 12]
def zl:Rg:=[iM 13 5,iM 4 13]
def CQ:aC:=(sq zj (sq zk (sq zl .ret)))
def asK:List Nat:=[]
def jr:aS:=⟨2,14,CQ,[.tmp 4]⟩
def K8:Rg:=[iA 1 (.box true (Tm 0)),iT 2 false]
def K9:Rg:=[iF 3 1 1,iL 4 3,iK 5 128 4,iC 6 .eql 5 0,iM 2 6]
def HX:aC:=(sq K8 (sq K9 .ret))
def aFI:List Nat:=[1]
def G5:aS:=⟨1,7,HX,[.tmp 2]⟩
def Kz:Rg:=[iA 4 (.alloc [zB,.aB,.aB]),iI 5 0]
def K0:Rg:=[iM 6 1,iC 7 .eql 6 0]
def K3:Rg:=[iA 8 (.build [zB,.aB,.aB] []),iS 3 4 8,iI 5 3]
def K4:Rg:=[iM 9 0,iC 10 .lss 9 0,iM 11 1,iC 12 .lss 11 0,iA 13 (.eqb true (Tm 10) (Tm 12)),iM 14 0,iK 15 119 14,iM 16 1,iK 17 119 16,iA 18 (.call 120 [(Tm 13),(Tm 15),(Tm 17)]),iE 19 18 0,iE 20 18 1,iS 3 4 19,iM 5 20]
def HU:aC:=(sq Kz (.seq (sq K0 (.cond (Tm 7) (sq K3 .ret) .skip)) (sq K4 .ret)))
def aFH:List Nat:=[]
def jg:aS:=⟨2,21,HU,[.cell 4 (some 3),.tmp 5]⟩
def Yl:Rg:=[iZ 2]
def Ym:Rg:=[iM 3 0,iC 4 .lss 3 0]
def Yn:Rg:=[iM 5 0,iA 6 (.conv .u64 (Tm 5)),iA 7 (.un .neg (Tm 6)),iK 8 132 7,iM 2 8]
def Yo:Rg:=[iM 9 0,iA 10 (.conv .u64 (Tm 9)),iK 11 132 10,iM 2 11]
def PL:aC:=(sq Yl (.seq (sq Ym (.cond (Tm 4) (sq Yn .ret) .skip)) (sq Yo .ret)))
def aPB:List Nat:=[]
def ajZ:aS:=⟨1,12,PL,[.tmp 2]⟩
def zn:Rg:=[iA 1 (.box true (Tm 0)),iT 2 false]
def zo:Rg:=[iF 4 2 1,iL 5 4,iK 6 128 5,iM 3 6]
def BF:Rg:=[iM 7 3,iC 8 .gtr 7 0,iM 9 8,gM 10 3 9 true,gC 11 .leq 10 4096 9 true,iP 12 9 11,iM 13 12,gF 14 1 1 13 true,gL 15 14 13 true,gK 16 128 15 13 true,gC 17 .leq 16 4096 13 true,iP 18 13 17,iM 2 18]
def CR:aC:=(sq zn (sq zo (sq BF .ret)))
def asL:List Nat:=[1]
def js:aS:=⟨1,19,CR,[.tmp 2]⟩
def jk:Rg:=[iA 1 (.box true (Tm 0)),iA 2 (.alloc [zB,.aB,.aB]),iI 3 0]
def jl:Rg:=[iO 4 3 1,iK 5 118 4,iA 6 (.un .not (Tm 5))]
def jm:Rg:=[iA 7 (.build [zB,.aB,.aB] []),iS 3 2 7,iI 3 1]
def jn:Rg:=[iF 8 0 1,iL 9 8,iF 10 1 1,iL 11 10,iF 12 2 1,iL 13 12,iA 14 (.call 120 [(Tm 9),(Tm 11),(Tm 13)]),iE 15 14 0,iE 16 14 1,iS 3 2 15,iM 3 16]
def zH:aC:=(sq jk (.seq (sq jl (.cond (Tm 6) (sq jm .ret) .skip)) (sq jn .ret)))
def akG:List Nat:=[1]
def FQ:aS:=⟨1,17,zH,[.cell 2 (some 3),.tmp 3]⟩
def Y0:Rg:=[iA 2 (.box true (Tm 0)),iA 3 (.box true (Tm 1)),iI 4 0,iI 5 0]
def Y1:Rg:=[iO 9 3 2,iK 10 118 9,iA 11 (.un .not (Tm 10)),iM 12 11,gO 13 3 3 12 false,gK 14 118 13 12 false,iG 15 (.un .not (Tm 14)) 12 false,iQ 16 12 15]
def uj:Rg:=[iI 4 0,iI 5 1]
def Y2:Rd:=[(iF 17 1 2,false),(iL 18 17,false),(iF 19 2 3,false),(iL 20 19,false),(iK2 21 121 18 20,true),(iF 22 1 3,true),(iL 23 22,true),(iF 24 2 2,true),(iL 25 24,true),(iK2 26 121 23 25,true),(iK2 27 129 21 26,true),(iM 6 27,false)]
def Y3:Rd:=[(iF 28 0 2,false),(iL 29 28,false),(iM 30 29,false),(gO 31 3 2 30 true,false),(gK 32 122 31 30 true,true),(iG 33 (.un .not (Tm 32)) 30 true,true),(iP 34 30 33,true),(iF 35 0 3,true),(iL 36 35,true),(iM 37 36,false),(gO 38 3 3 37 true,false),(gK 39 122 38 37 true,true),(iG 40 (.un .not (Tm 39)) 37 true,false),(iP 41 37 40,false),(iM 7 34,false),(iM 8 41,false)]
def yB:Rg:=[iM 43 7,iM 44 43,gM 45 8 44 true,iP 46 44 45,iM 42 46]
def uk:Rg:=[iM 47 6,iA 48 (.un .neg (Tm 47)),iM 4 48,iI 5 0]
def FN:Rg:=[iM 50 7,iM 49 50]
def ul:Rg:=[iI 4 (-1),iI 5 0]
def UR:Rg:=[iM 52 8,iM 51 52]
def ZN:Rg:=[iI 4 1,iI 5 0]
def ZO:Rg:=[iM 53 6,iM 4 53,iI 5 0]
def PO:aC:=(sq Y0 (.seq (sq Y1 (.cond (Tm 16) (sq uj .ret) .skip)) (dq Y2 (dq Y3 (.seq (.block 0 (sq yB (.cond (Tm 42) (sq uk .ret) (sq FN (.cond (Tm 49) (sq ul .ret) (sq UR (.cond (Tm 51) (sq ZN .ret) .skip))))))) (sq ZO .ret))))))
def aPD:List Nat:=[2,3]
def akA:aS:=⟨2,54,PO,[.tmp 4,.tmp 5]⟩
def Yq:Rg:=[iA 2 (.box true (Tm 0)),iA 3 (.box true (Tm 1)),iA 4 (.alloc [zB,.aB,.aB]),iI 5 0]
def Yr:Rg:=[iO 15 3 2,iK 16 118 15,iA 17 (.un .not (Tm 16)),iM 18 17,gO 19 3 3 18 false,gK 20 118 19 18 false,iG 21 (.un .not (Tm 20)) 18 false,iQ 22 18 21]
def ui:Rg:=[iA 23 (.build [zB,.aB,.aB] []),iS 3 4 23,iI 5 1]
def Ys:Rd:=[(iF 24 1 2,false),(iL 25 24,false),(iF 26 2 3,false),(iL 27 26,false),(iK2 28 121 25 27,true),(iF 29 1 3,true),(iL 30 29,true),(iF 31 2 2,true),(iL 32 31,true),(iK2 33 121 30 32,true),(iF 34 2 2,true),(iL 35 34,true),(iF 36 2 3,true),(iL 37 36,true),(iK2 38 121 35 37,true),(iM 6 28,false),(iM 7 33,false),(iM 8 38,false)]
def Yt:Rg:=[iF 39 0 2,iL 40 39,iF 41 0 3,iL 42 41,iA 43 (.eqb false (Tm 40) (Tm 42))]
def Yu:Rg:=[iM 45 6,iM 46 7,iK2 47 127 45 46,iM 44 47,iE 48 44 0,iE 49 44 1,iM 9 48,iM 10 49]
def Yv:Rg:=[iF 50 0 2,iL 51 50,iM 52 9,iM 53 8,iA 54 (.call 120 [(Tm 51),(Tm 52),(Tm 53)]),iE 55 54 0,iE 56 54 1,iS 3 4 55,iM 5 56]
def Yw:Rg:=[iM 57 6,iM 58 7,iK2 59 129 57 58,iC 60 .geq 59 0]
def Yx:Rg:=[iM 62 6,iM 63 7,iK2 64 134 62 63,iM 61 64,iE 65 61 0,iE 66 61 1,iM 11 65,iM 12 66]
def Yy:Rg:=[iF 67 0 2,iL 68 67,iM 69 11,iM 70 8,iA 71 (.call 120 [(Tm 68),(Tm 69),(Tm 70)]),iE 72 71 0,iE 73 71 1,iS 3 4 72,iM 5 73]
def Kq:Rg:=[iM 75 7,iM 76 6,iK2 77 134 75 76,iM 74 77,iE 78 74 0,iE 79 74 1,iM 13 78,iM 14 79]
def Kr:Rg:=[iF 80 0 3,iL 81 80,iM 82 13,iM 83 8,iA 84 (.call 120 [(Tm 81),(Tm 82),(Tm 83)]),iE 85 84 0,iE 86 84 1,iS 3 4 85,iM 5 86]
def PN:aC:=(sq Yq (.seq (sq Yr (.cond (Tm 22) (sq ui .ret) .skip)) (dq Ys (.seq (sq Yt (.cond (Tm 43) (sq Yu (sq Yv .ret)) .skip)) (.seq (sq Yw (.cond (Tm 60) (sq Yx (sq Yy .ret)) .skip)) (sq Kq (sq Kr .ret)))))))
def aPC:List Nat:=[2,3]
def ZM:aS:=⟨2,87,PN,[.cell 4 (some 3),.tmp 5]⟩
def Y6:Rg:=[iA 2 (.alloc [zB,.aB,.aB]),iI 3 0]
def Y7:Rg:=[iA 9 (.call 132 [(.const (.int .u64 1))]),iA 10 (.build [zB,.aB,.aB] [(2,1,(Tm 9))]),iA 4 (.alloc [zB,.aB,.aB]),iS 3 4 10]
def Y8:Rg:=[iM 11 0,iN 12 11,iI 13 0]
def Y9:Rg:=[iB 14 .lss 13 12]
def Za:Rg:=[iX 15 3 11 13,iO 16 3 15,iA 6 (.alloc [zB,.aB,.aB]),iS 3 6 16]
def Zb:Rg:=[iO 18 3 4,iO 19 3 6,iK2 20 113 18 19,iM 17 20,iE 21 17 0,iE 22 17 1,iA 7 (.alloc [zB,.aB,.aB]),iS 3 7 21,iM 8 22]
def uq:Rg:=[iM 23 8,iC 24 .neq 23 0]
def Zc:Rg:=[iA 25 (.build [zB,.aB,.aB] []),iM 26 8,iS 3 2 25,iM 3 26]
def Zd:Rg:=[iO 27 3 7,iS 3 4 27]
def Ze:Rg:=[iC 28 .add 13 1,iM 13 28]
def K6:aC:=(sq Y9 (.seq (.cond (Tm 14) .skip (.exit 0)) (.seq (.block 1 (sq Za (sq Zb (.seq (sq uq (.cond (Tm 24) (sq Zc .ret) .skip)) (.region Zd))))) (.region Ze))))
def ZR:Rg:=[iO 29 3 4,iS 3 2 29,iI 3 0]
def PU:aC:=(sq Y6 (sq Y7 (.seq (sq Y8 (.block 0 (.loop K6))) (sq ZR .ret))))
def aPI:List Nat:=[]
def uo:aS:=⟨1,30,PU,[.cell 2 (some 3),.tmp 3]⟩
theorem CoL.nil:CoL [] []:=.refl _
theorem CoL.cons {p q:PV} {ps i:List PV} (h:Co p q) (e:CoL ps i):CoL (p::ps) (q::i) :=
 ⟨by simp[e.len],fun j a b c d=>by
  cases j with
  | zero=>simp at c d; subst c; subst d; exact h
  | succ j=>exact e.at_ j a b (by simpa using c) (by simpa using d)⟩
theorem CoL.agg {ps c:List PV} (h:CoL ps c):Co (.agg ps) (.agg c):=.agg h.len h.at_
theorem CoL.tup {ps c:List PV} (h:CoL ps c):Co (.tup ps) (.tup c):=.tup h.len h.at_
structure qU (C:Ctx):Prop extends pS C where
 bits:∀ xs,Lim xs→xs.length≤35184372087808→aH C 128 [aJ xs] .nil (aF (.int .i64 (cM (val xs):Nat)))
 add:∀ xs ys,Lim xs→Lim ys→xs.length≤35184372087808→ys.length≤35184372087808→aH C 127 [aJ xs,aJ ys] .nil (aF (opV (dY (val xs) (val ys)) (val xs+val ys)))
 sub:∀ xs ys,Lim xs→Lim ys→xs.length≤35184372087808→ys.length≤35184372087808→aH C 134 [aJ xs,aJ ys] .nil (aF (rP (val xs) (val ys)))
 mul:∀ xs ys,Lim xs→Lim ys→xs.length≤35184372087808→ys.length≤35184372087808→aH C 133 [aJ xs,aJ ys] .nil (aF (opV (dY (val xs) (val ys)) (val xs*val ys)))
 gcd:∀ xs ys,Lim xs→Lim ys→xs.length≤35184372087808→ys.length≤35184372087808→aH C 131 [aJ xs,aJ ys] .nil (aF (if dY (val xs) (val ys) then .tup [aJ [],.int .i64 2] else .tup [aJ (aI (a7I (val xs) (val ys))),.int .i64 0]))
 div:∀ xs ys,Lim xs→Lim ys→xs.length≤35184372087808→ys.length≤35184372087808→aH C 130 [aJ xs,aJ ys] .nil (aF (mS (val xs) (val ys)))
theorem hC {a b:Nat} (c:nl a≤512) (d:nl b≤512):dY a b=false:=by
 simp[dY]; omega
theorem lJ {a b m n:Nat} (c:nl a≤m) (d:nl b≤n):nl (a*b)≤m+n:=by
 rw[jB] at c d ⊢;rw[Nat.pow_add];by_cases h:b=0
 ·subst h; exact Nat.mul_pos (baB (by decide)) (baB (by decide))
 ·calc a*b<4294967296 ^ m*b:=Nat.mul_lt_mul_of_pos_right c (a9U h)
   _≤4294967296 ^ m*4294967296 ^ n:=a9T _ (Nat.le_of_lt d)
theorem AE {n:Nat} (h:nl n≤512):szV n=.tup [aJ (aI n),.int .i64 0]:=by
 have:¬ nl n>512:=Om;simp[szV,szL,szE,this]
theorem zi {C:Ctx} (L:qU C) (a b:List Nat) (c:Lim a) (d:Lim b) (e:a.length≤35184372087808) (i:b.length≤35184372087808) (l:nl (val a)≤256) (p:nl (val b)≤256) :
  CQ.wp C (aV jr.res (aF (aJ (aI (val a*val b))))) (PF.args [aJ a,aJ b]) .nil:=by
 simp only[go_sem,CQ,zj,zk,jr];refine aA (L.mul a b c d e i) rfl ?_;have:=lJ l p;rw[hC Om Om,opV,AE Om];simp only[go_sem,zl];refine aQ (.inr rfl) rfl ?_;rfl
abbrev eH (neg:Bool) (a b:List Nat):List PV:=[.bool neg,aJ a,aJ b]
theorem K7 {C:Ctx} (L:qU C) (neg:Bool) (a b:List Nat) (d:Lim a) (e:a.length≤35184372087808) :
  HX.wp C (aV G5.res (aF (.bool (decide (val a=0))))) (PF.args [.agg (eH neg a b)]) .nil:=by
 simp only[go_sem,HX,K8,K9,G5];refine aA (L.bits a d e) rfl ?_;simp only[go_sem];refine aQ (.inr rfl) rfl ?_;have:=@jW (val a);by_cases c:val a=0
 ·rw[bL Om,decide_eq_true c]; rfl
 ·rw[bF Om,decide_eq_false c]; rfl
def cU (a b:Nat):Bool:=decide (0<cM b)&&decide (cM b≤4096)&&decide (cM a≤4096)
theorem zm {C:Ctx} (L:qU C) (neg:Bool) (a b:List Nat) (l:Lim a) (p:Lim b) (q:a.length≤35184372087808) (u:b.length≤35184372087808) :
  CR.wp C (aV js.res (aF (.bool (cU (val a) (val b))))) (PF.args [.agg (eH neg a b)]) .nil:=by
 simp only[go_sem,CR,zn,zo,js];refine aA (L.bits b p u) rfl ?_;by_cases e:0<cM (val b)
 ·have c:((cM (val b):Nat):Int)>0:=Om;by_cases i:cM (val b)≤4096
  ·have d:((cM (val b):Nat):Int)≤4096:=Om;simp only[go_sem,BF,c,d];refine aA (L.bits a l q) rfl ?_;simp only[go_sem];refine aQ (.inr rfl) rfl ?_;show PV.bool (decide _)=_;rw[cU,decide_eq_true e,decide_eq_true i,a7R,a7R];congr 1;rw[decide_eq_decide];omega
  ·have d:¬ ((cM (val b):Nat):Int)≤4096:=Om;simp only[go_sem,BF,c,d];refine aQ (.inr rfl) rfl ?_;show PV.bool _=_;simp[cU,e,i]
 ·have c:¬ ((cM (val b):Nat):Int)>0:=Om;simp only[go_sem,BF,c];refine aQ (.inr rfl) rfl ?_;show PV.bool _=_;simp[cU,e]
theorem Yk {C:Ctx} (L:qU C) (v:Int) (d:-9223372036854775808≤v) (i:v≤9223372036854775807) :
  PL.wp C (aV ajZ.res (aF (aJ (aI v.natAbs)))) (PF.args [.int .i64 v]) .nil:=by
 simp only[go_sem,PL,Yl,Ym,ajZ];by_cases c:v<0
 ·have e:IntKind.u64.wrap (0-IntKind.u64.wrap v)=(v.natAbs:Int):=by rw[fU,fU]; omega
  simp only[go_sem,c,Yn,e];refine aA (L.make v.natAbs Om) rfl ?_;simp only[go_sem];refine aQ (.inr rfl) rfl ?_;rfl
 ·have e:IntKind.u64.wrap v=(v.natAbs:Int):=by rw[fU]; omega
  simp only[go_sem,c,Yo,e];refine aA (L.make v.natAbs Om) rfl ?_;simp only[go_sem];refine aQ (.inr rfl) rfl ?_;rfl
abbrev BE (e:Int):PV:=.tup [.agg (eH false [] []),.int .i64 e]
abbrev akH (neg:Bool) (a b:Nat):PV:=.tup [.agg (eH neg (aI a) (aI b)),.int .i64 0]
def IX (neg:Bool) (a b:Nat):PV :=
 if cM (a/a7I a b)>4096∨cM (b/a7I a b)>4096 then BE 2 else akH (neg&&decide (a/a7I a b≠0)) (a/a7I a b) (b/a7I a b)
theorem hL {res:List dV} {F:PF} {H:PH} {e:Int} (h:dV.evs F H res=some [.agg [.bool false,.aB,.aB],.int .i64 e]):aV res (bY (BE e)) .ret F H :=
 bA (.inr rfl) .nil h a_ ⟨CoL.tup (.cons (CoL.agg (.cons (.refl _) (.cons (.nil 1) (.cons (.nil 1) .nil)))) (.cons (.refl _) .nil)),rfl⟩
theorem Is {n:Nat}:cM n>1↔n>1:=by
 have:=lT n 1;omega
theorem l8 {a n:Nat} (g:Nat) (h:nl a≤n):nl (a/g)≤n:=a8V (fT (baF _ _)) h
theorem PS {C:Ctx} (L:qU C) (neg:Bool) (a b:List Nat) (l:Lim a) (u:Lim b) (p:a.length≤35184372087808) (w:b.length≤35184372087808) (o:Nat) (F:PF) (H:PH)
  (f0:F 0=some (.bool neg)) (f1:F 1=some (aJ a)) (f2:F 2=some (aJ b)) (f6:F 6=some (.ptr o 3 0 0)) (f7:F 7=some (.int .i64 0)) (c:H o=some (.rows 3 [[.bool false,.aB,.aB]])) :
  aC.wp C (.seq (.seq (.region HS) (.cond (.tmp 40) (.seq (.region wV) .ret) .skip)) (.seq (.region HT) .ret)) (aV rU.res (bY (if cM (val a)>4096∨cM (val b)>4096 then BE 2 else akH (neg&&decide (val a≠0)) (val a) (val b)))) F H:=by
 have fin:∀ (r:List (List PV)) F H,F 6=some (.ptr o 3 0 0)→F 7=some (.int .i64 2)→H o=some (.rows 3 [[.bool false,.aB,.aB]])→aV rU.res (bY (BE 2)) .ret F H:=by intro r F H A h7 h;refine hL ?_;simp only[go_sem,rU,A,h7,h]
 simp only[go_sem,HS,f1];refine aA (L.bits a l p) rfl ?_;by_cases x:cM (val a)>4096
 ·have d:((cM (val a):Nat):Int)>4096:=Om;rw[if_pos (.inl x)];simp only[go_sem,d,wV,f6,c];exact fin [] _ _ (by simp only[go_sem,f6]) rfl Sq
 ·have d:¬ ((cM (val a):Nat):Int)>4096:=Om;simp only[go_sem,d,f2];refine aA (L.bits b u w) rfl ?_;by_cases y:cM (val b)>4096
  ·have i:((cM (val b):Nat):Int)>4096:=Om;rw[if_pos (.inr y)];simp only[go_sem,i,wV,f6,c];exact fin [] _ _ (by simp only[go_sem,f6]) rfl Sq
  ·have i:¬ ((cM (val b):Nat):Int)>4096:=Om;rw[if_neg Om];have last:∀ F:PF,F 1=some (aJ a)→F 2=some (aJ b)→F 6=some (.ptr o 3 0 0)→∀ (q:Bool),q=(neg&&decide (val a≠0))→F 47=some (.bool q) →
     True:=fun _ _ _ _ _ _ _=>trivial
   simp only[go_sem,i,HT,f0,f1,f2,f6,c];cases neg with
   | false =>simp only[go_sem,f0,f1,f2,f6,c];refine aA (L.trim a l p) rfl ?_;simp only[go_sem,f0,f1,f2,f6,c];refine aA (L.trim b u w) rfl ?_;simp only[go_sem,f0,f1,f2,f6,c,a7P];refine bA (.inr rfl) .nil (vs:=[.agg (eH false (aI (val a)) (aI (val b))),.int .i64 0]) ?_ a_ ⟨.refl _,rfl⟩;simp only[go_sem,rU,f6,c]
   | true =>
    simp only[go_sem,f0,f1,f2,f6,c];refine aA (L.bits a l p) rfl ?_;have e:decide (((cM (val a):Nat):Int)>0)=decide (val a≠0):=by have:=@jW (val a);rw[decide_eq_decide]; omega
    simp only[go_sem,f0,f1,f2,f6,c,e];refine aA (L.trim a l p) rfl ?_;simp only[go_sem,f0,f1,f2,f6,c];refine aA (L.trim b u w) rfl ?_;simp only[go_sem,f0,f1,f2,f6,c,a7R];refine bA (.inr rfl) .nil (vs:=[.agg (eH (decide (val a≠0)) (aI (val a)) (aI (val b))),.int .i64 0]) ?_ a_ ⟨.refl _,rfl⟩;simp only[go_sem,rU,f6,c]
theorem ja {C:Ctx} (L:qU C) (neg:Bool) (a b:List Nat) (q:Lim a) (u:Lim b) (w:a.length≤35184372087808) (x:b.length≤35184372087808) (y:nl (val a)≤512) (l:nl (val b)≤512) (A:val b≠0) :
  zG.wp C (aV rU.res (bY (IX neg (val a) (val b)))) (PF.args [.bool neg,aJ a,aJ b]) .nil:=by
 simp only[go_sem,zG,jb,jc];refine aR fun o E=>?_;simp only[go_sem];refine aA (L.gcd a b q u w x) rfl ?_;rw[hC y l];simp only[go_sem,jd];have e:a7I (val a) (val b)≠0:=by intro h; exact A (Nat.gcd_eq_zero_iff.1 h).2
 have i:nl (a7I (val a) (val b))≤512:=a8V (fT (Nat.gcd_le_right _ (a9U A))) l;have d:(aI (a7I (val a) (val b))).length≤35184372087808:=by rw[bB]; omega
 refine aA (L.bits _ (aX _) d) rfl ?_;rw[aW];by_cases c:a7I (val a) (val b)>1
 ·have p:((cM (a7I (val a) (val b)):Nat):Int)>1:=by have:=Is.2 c; omega
  simp only[go_sem,p,je];refine aA (L.div a _ q (aX _) w d) rfl ?_;rw[aW,mS,hC y i,if_neg (by decide),if_neg e];simp only[go_sem,jf];refine aA (L.div b _ u (aX _) x d) rfl ?_;rw[aW,mS,hC l i,if_neg (by decide),if_neg e];simp only[go_sem];have:=PS L neg (aI (val a/a7I (val a) (val b))) (aI (val b/a7I (val a) (val b))) (aX _) (aX _) (by rw[bB]; have:=l8 (a7I (val a) (val b)) y; omega) (by rw[bB]; have:=l8 (a7I (val a) (val b)) l; omega) o;rw[aW,aW] at this;have:=fun F H=>this F H;simp only[aC.wp,go_sem] at this;exact this _ _ rfl rfl rfl rfl rfl Sq
 ·have p:¬ ((cM (a7I (val a) (val b)):Nat):Int)>1:=by have:=(@Is (a7I (val a) (val b))); omega
  have B:a7I (val a) (val b)=1:=Om;simp only[go_sem,p];rw[IX,B,Nat.div_one,Nat.div_one];have:=PS L neg a b q u w x o;simp only[aC.wp,go_sem] at this;exact this _ _ rfl rfl rfl rfl rfl Sq
structure AQ (C:Ctx):Prop extends qU C where
 times:∀ a b,Lim a→Lim b→a.length≤35184372087808→b.length≤35184372087808→nl (val a)≤256→nl (val b)≤256→aH C 121 [aJ a,aJ b] .nil (aF (aJ (aI (val a*val b))))
 zero:∀ neg a b,Lim a→a.length≤35184372087808→aH C 122 [.agg (eH neg a b)] .nil (aF (.bool (decide (val a=0))))
 valid:∀ neg a b,Lim a→Lim b→a.length≤35184372087808→b.length≤35184372087808→aH C 118 [.agg (eH neg a b)] .nil (aF (.bool (cU (val a) (val b))))
 abs:∀ v:Int,-9223372036854775808≤v→v≤9223372036854775807→aH C 119 [.int .i64 v] .nil (aF (aJ (aI v.natAbs)))
 lowest:∀ neg a b,Lim a→Lim b→a.length≤35184372087808→b.length≤35184372087808→nl (val a)≤512→nl (val b)≤512→val b≠0→aH C 120 [.bool neg,aJ a,aJ b] .nil (aF (IX neg (val a) (val b)))
def ka (n d:Int):PV:=if d=0 then BE 3 else IX (decide (n<0) != decide (d<0)) n.natAbs d.natAbs
theorem nO {n k:Nat} (h:n<4294967296 ^ k):nl n≤k:=(jB _ _).2 h
theorem Oc (neg:Bool) (a b:Nat):∃ c x y e,IX neg a b=.tup [.agg (eH c x y),.int .i64 e]:=by
 unfold IX;split
 ·exact⟨_,_,_,_,rfl⟩
 ·exact⟨_,_,_,_,rfl⟩
theorem Ky {C:Ctx} (L:AQ C) (n d:Int) (l:-9223372036854775808≤n) (p:n≤9223372036854775807) (q:-9223372036854775808≤d) (u:d≤9223372036854775807) :
  HU.wp C (aV jg.res (bY (ka n d))) (PF.args [.int .i64 n,.int .i64 d]) .nil:=by
 simp only[go_sem,HU,Kz,K0];refine aR fun o A=>?_;unfold ka;by_cases c:d=0
 ·subst c;simp only[go_sem,K3];refine hL ?_;simp only[go_sem,jg]
 ·rw[if_neg c];simp only[go_sem,bF c,K4];refine aA (L.abs n l p) rfl ?_;simp only[go_sem];refine aA (L.abs d q u) rfl ?_;simp only[go_sem];have B:nl n.natAbs≤2:=nO Om;have E:nl d.natAbs≤2:=nO Om;have low:=L.lowest (decide (n<0) != decide (d<0)) (aI n.natAbs) (aI d.natAbs) (aX _) (aX _) (by rw[bB]; omega) (by rw[bB]; omega);rw[aW,aW] at low;have low:=low Om Om Om;refine aA low rfl ?_;obtain⟨i,x,y,e,w⟩:=Oc (decide (n<0) != decide (d<0)) n.natAbs d.natAbs;rw[w];simp only[go_sem];exact bA (.inr rfl) .nil (vs:=[.agg (eH i x y),.int .i64 e]) (by simp only[go_sem,jg]) a_ ⟨.refl _,rfl⟩
theorem fR {a b:Nat}:cU a b=true↔b≠0∧nl b≤128∧nl a≤128:=by
 have c:=lW b 128;have d:=lW a 128;have e:=@jW b;simp only[cU,a7X,decide_eq_true_eq];omega
def VH (neg:Bool) (a b:Nat):PV:=if cU a b then IX neg a b else BE 1
theorem jj {C:Ctx} (L:AQ C) (neg:Bool) (a b:List Nat) (d:Lim a) (i:Lim b) (l:a.length≤35184372087808) (p:b.length≤35184372087808) :
  zH.wp C (aV FQ.res (bY (VH neg (val a) (val b)))) (PF.args [.agg (eH neg a b)]) .nil:=by
 simp only[go_sem,zH,jk,jl];refine aR fun o A=>?_;simp only[go_sem];refine aA (L.valid neg a b d i l p) rfl ?_;unfold VH;cases u:cU (val a) (val b) with
 | false =>simp only[go_sem,jm,a7Y];refine hL ?_;simp only[go_sem,FQ]
 | true =>obtain⟨w,B,E⟩:=fR.1 u;simp only[go_sem,jn,a7L];refine aA (L.lowest neg a b d i l p Om Om w) rfl ?_;obtain⟨c,x,y,e,q⟩:=Oc neg (val a) (val b);rw[q];simp only[go_sem];exact bA (.inr rfl) .nil (vs:=[.agg (eH c x y),.int .i64 e]) (by simp only[go_sem,FQ]) a_ ⟨.refl _,rfl⟩
def pL (c:Bool) (a1 b1:Nat) (d:Bool) (a2 b2:Nat):Int :=
 match c&&decide (a1≠0),d&&decide (a2≠0) with
 | true,true=>- dP (a1*b2) (a2*b1)
 | true,false=>-1
 | false,true=>1
 | false,false=>dP (a1*b2) (a2*b1)
def BD (c:Bool) (a1 b1:Nat) (d:Bool) (a2 b2:Nat):PV :=
 if cU a1 b1&&cU a2 b2 then .tup [.int .i64 (pL c a1 b1 d a2 b2),.int .i64 0] else .tup [.int .i64 0,.int .i64 1]
def fr1:PV→List Nat
 | .agg [_,a,_]=>jE a
 | _=>[]
def frS:Spec:=fun name vs=>match name,vs with
 | 121,[x,y]=>some ([],fun _=>aF (aJ (aI (val (jE x)*val (jE y)))))
 | 129,[x,y]=>some ([],fun _=>aF (.int .i64 (dP (val (jE x)) (val (jE y)))))
 | 122,[x]=>some ([],fun _=>aF (.bool (decide (val (fr1 x)=0))))
 | _,_=>none
theorem vO (a b:List Nat):frS 121 [aJ a,aJ b]=some ([],fun _=>aF (aJ (aI (val a*val b)))):=by
 show some _=_; rw[eG,eG]
theorem aPG (a b:List Nat):frS 129 [aJ a,aJ b]=some ([],fun _=>aF (.int .i64 (dP (val a) (val b)))):=by
 show some _=_; rw[eG,eG]
theorem ZP (neg:Bool) (a b:List Nat):frS 122 [.agg (eH neg a b)]=some ([],fun _=>aF (.bool (decide (val a=0)))):=by
 show some _=_; rw[fr1,eG]
theorem aEC (a b:Nat):IntKind.i64.wrap (0-dP a b)=- dP a b:=by
 unfold dP; split
 ·rfl
 ·split<;>rfl
theorem Yz {C:Ctx} (L:AQ C) (p l:Bool) (a1 b1 a2 b2:List Nat) (e:Lim a1) (q:Lim b1) (c:Lim a2) (u:Lim b2)
  (i:a1.length≤35184372087808) (w:b1.length≤35184372087808) (d:a2.length≤35184372087808) (x:b2.length≤35184372087808) :
  PO.wp C (aV akA.res (bY (BD p (val a1) (val b1) l (val a2) (val b2)))) (PF.args [.agg (eH p a1 b1),.agg (eH l a2 b2)]) .nil:=by
 simp only[go_sem,PO,Y0,Y1];refine aA (L.valid p a1 b1 e q i w) rfl ?_;unfold BD;cases M:cU (val a1) (val b1) with
 | false =>simp only[go_sem,a7Y,uj,a7P];exact bA (.inr rfl) .nil (vs:=[.int .i64 0,.int .i64 1]) rfl a_ ⟨.refl _,rfl⟩
 | true =>
  obtain⟨X,O,Q⟩:=fR.1 M;simp only[go_sem,a7L];refine aA (L.valid l a2 b2 c u d x) rfl ?_;cases N:cU (val a2) (val b2) with
  | false =>simp only[go_sem,a7Y,uj,a8O];exact bA (.inr rfl) .nil (vs:=[.int .i64 0,.int .i64 1]) rfl a_ ⟨.refl _,rfl⟩
  | true =>
   obtain⟨Y,R,S⟩:=fR.1 N;simp only[go_sem,a7L,a9N];refine bW .nil frS a_ ?_;simp only[go_sem,Y2];refine bP (vO a1 b2) (L.times a1 b2 e u i x Om Om) rfl a_ ?_;simp only[go_sem];refine bP (vO a2 b1) (L.times a2 b1 c q d w Om Om) rfl a_ ?_;simp only[go_sem];have V:=lJ Q R;have W:=lJ S O;have E:=L.cmp (aI (val a1*val b2)) (aI (val a2*val b1)) (aX _) (aX _) (by rw[bB]; omega) (by rw[bB]; omega);have H:=aPG (aI (val a1*val b2)) (aI (val a2*val b1));rw[aW,aW] at E H;refine bP H E rfl a_ ?_;simp only[go_sem];refine bW .nil frS a_ ?_;have U:(!decide (val a1=0))=decide (val a1≠0):=by by_cases h:val a1=0<;>simp[h]
   have J:(!decide (val a2=0))=decide (val a2≠0):=by by_cases h:val a2=0<;>simp[h]
   have fin:∀ (F:PF) (A B:Bool),F 6=some (.int .i64 (dP (val a1*val b2) (val a2*val b1)))→F 7=some (.bool A)→F 8=some (.bool B)→A=(p&&decide (val a1≠0))→B=(l&&decide (val a2≠0)) →
     aC.wp C (.seq (.block 0 (.seq (.region yB) (.cond (.tmp 42) (.seq (.region uk) .ret) (.seq (.region FN) (.cond (.tmp 49) (.seq (.region ul) .ret) (.seq (.region UR) (.cond (.tmp 51) (.seq (.region ZN) .ret) .skip))))))) (.seq (.region ZO) .ret)) (aV akA.res (bY (.tup [.int .i64 (pL p (val a1) (val b1) l (val a2) (val b2)),.int .i64 0]))) F .nil:=by
    intro F A B f6 f7 y K hB;rw[pL,← K,← hB];cases A<;>cases B
    ·simp only[go_sem,yB,FN,UR,ZO,f6,f7,y];exact bA (.inr rfl) .nil rfl a_ ⟨.refl _,rfl⟩
    ·simp only[go_sem,yB,FN,UR,ZN,f6,f7,y];exact bA (.inr rfl) .nil rfl a_ ⟨.refl _,rfl⟩
    ·simp only[go_sem,yB,FN,ul,f6,f7,y];exact bA (.inr rfl) .nil rfl a_ ⟨.refl _,rfl⟩
    ·simp only[go_sem,yB,uk,f6,f7,y,aEC];exact bA (.inr rfl) .nil rfl a_ ⟨.refl _,rfl⟩
   simp only[aC.wp,go_sem] at fin;simp only[go_sem,Y3];cases p with
   | false =>
    simp only[go_sem];cases l with
    | false =>simp only[go_sem];exact fin _ false false rfl rfl rfl rfl rfl
    | true =>simp only[go_sem];refine bP (ZP true a2 b2) (L.zero true a2 b2 c d) rfl a_ ?_;simp only[go_sem,J];exact fin _ false (decide (val a2≠0)) rfl rfl rfl rfl (by rw[a7R])
   | true =>
    simp only[go_sem];refine bP (ZP true a1 b1) (L.zero true a1 b1 e i) rfl a_ ?_;simp only[go_sem,U];cases l with
    | false =>simp only[go_sem];exact fin _ (decide (val a1≠0)) false rfl rfl rfl (by rw[a7R]) rfl
    | true =>simp only[go_sem];refine bP (ZP true a2 b2) (L.zero true a2 b2 c d) rfl a_ ?_;simp only[go_sem,J];exact fin _ (decide (val a1≠0)) (decide (val a2≠0)) rfl rfl rfl (by rw[a7R]) (by rw[a7R])
abbrev FV:=Bool × Nat × Nat
abbrev FR:=Except Int FV
def iH (neg:Bool) (a b:Nat):FR :=
 if cM (a/a7I a b)>4096∨cM (b/a7I a b)>4096 then .error 2 else .ok (neg&&decide (a/a7I a b≠0),a/a7I a b,b/a7I a b)
def frV:FR→PV
 | .ok (n,a,b)=>akH n a b
 | .error e=>BE e
theorem u5 (neg:Bool) (a b:Nat):IX neg a b=frV (iH neg a b):=by
 unfold IX iH;split<;>rfl
def gI:FV→FV→FR
 | (c,a1,b1),(d,a2,b2)=>if cU a1 b1&&cU a2 b2 then
   (if c=d then iH c (a1*b2+a2*b1) (b1*b2) else if a2*b1≤a1*b2 then iH c (a1*b2-a2*b1) (b1*b2) else iH d (a2*b1-a1*b2) (b1*b2))
  else .error 1
theorem P9 {a b m:Nat} (c:nl a≤m) (d:nl b≤m):nl (a+b)≤m+1:=by
 rw[jB] at c d ⊢;rw[a9D]; omega
theorem UN (a b:Nat):(dP a b≥0)↔b≤a:=by
 unfold dP;split
 ·constructor
  ·intro h; exact absurd h (by decide)
  ·intro h; omega
 ·split
  ·constructor
   ·intro h; omega
   ·intro h; decide
  ·constructor
   ·intro h; omega
   ·intro h; decide
theorem tX (r:FR):∃ c x y e,frV r=.tup [.agg (eH c x y),.int .i64 e]:=by
 rcases r with e | ⟨n,a,b⟩
 ·exact⟨_,_,_,_,rfl⟩
 ·exact⟨_,_,_,_,rfl⟩
theorem Yp {C:Ctx} (L:AQ C) (i p:Bool) (a1 b1 a2 b2:List Nat) (M:Lim a1) (w:Lim b1) (N:Lim a2) (E:Lim b2)
  (O:a1.length≤35184372087808) (J:b1.length≤35184372087808) (Q:a2.length≤35184372087808) (K:b2.length≤35184372087808) :
  PN.wp C (aV ZM.res (bY (frV (gI (i,val a1,val b1) (p,val a2,val b2))))) (PF.args [.agg (eH i a1 b1),.agg (eH p a2 b2)]) .nil:=by
 simp only[go_sem,PN,Yq];refine aR fun o ho=>?_;simp only[go_sem,Yr];refine aA (L.valid i a1 b1 M w O J) rfl ?_;simp only[gI];cases hv:cU (val a1) (val b1) with
 | false =>simp only[go_sem,a7Y,ui,a7P];refine hL ?_;simp only[go_sem,ZM]
 | true =>
  obtain⟨v1,v2,v3⟩:=fR.1 hv;simp only[go_sem,a7L];refine aA (L.valid p a2 b2 N E Q K) rfl ?_;cases hw:cU (val a2) (val b2) with
  | false =>simp only[go_sem,a7Y,ui,a8O];refine hL ?_;simp only[go_sem,ZM]
  | true =>
   obtain⟨w1,w2,w3⟩:=fR.1 hw;simp only[go_sem,a7L,a9N];refine bW .nil frS a_ ?_;simp only[go_sem,Ys];refine bP (vO a1 b2) (L.times a1 b2 M E O K Om Om) rfl a_ ?_;simp only[go_sem];refine bP (vO a2 b1) (L.times a2 b1 N w Q J Om Om) rfl a_ ?_;simp only[go_sem];refine bP (vO b1 b2) (L.times b1 b2 w E J K Om Om) rfl a_ ?_;simp only[go_sem];have m1:=lJ v3 w2;have m2:=lJ w3 v2;have m3:=lJ v2 w2;have d0:val b1*val b2≠0:=Nat.mul_ne_zero v1 w1;generalize hA:val a1*val b2=A at *
   generalize hB:val a2*val b1=B at *
   generalize hD:val b1*val b2=D at *
   have fin:∀ (F:PF) (H:PH) (r:FR),(∃ d x y e,frV r=.tup [.agg (eH d x y),.int .i64 e]∧F 4=some (.ptr o 3 0 0)∧F 5=some (.int .i64 e)∧H o=some (.rows 3 [eH d x y]))→aV ZM.res (bY (frV r)) .ret F H:=by rintro F H r ⟨d,x,y,e,he,f4,f5,hH⟩;rw[he];exact bA (.inr rfl) .nil (vs:=[.agg (eH d x y),.int .i64 e]) (by simp only[go_sem,ZM,f4,f5,hH]) a_ ⟨.refl _,rfl⟩
   have U:(i==p)=decide (i=p):=by cases i<;>cases p<;>rfl
   have low:∀ neg x,nl x≤257→aH C 120 [.bool neg,aJ (aI x),aJ (aI D)] .nil (aF (frV (iH neg x D))):=by
    intro neg x hx;have V:(aI x).length≤35184372087808:=by rw[bB]; omega
    have W:(aI D).length≤35184372087808:=by rw[bB]; omega
    have:=L.lowest neg (aI x) (aI D) (aX _) (aX _) V W;rw[aW,aW,u5] at this;exact this Om Om d0
   have lA:(aI A).length≤35184372087808:=by rw[bB]; omega
   have lB:(aI B).length≤35184372087808:=by rw[bB]; omega
   simp only[go_sem,Yt];by_cases c:i=p
   ·rw[if_pos c];have R:(i==p)=true:=by rw[U,decide_eq_true c]
    simp only[go_sem,R,Yu];have q:=L.add (aI A) (aI B) (aX _) (aX _) lA lB;have α:=P9 m1 m2;rw[aW,aW,hC Om Om,opV,AE Om] at q;refine aA q rfl ?_;simp only[go_sem,Yv];refine aA (low i _ Om) rfl ?_;obtain⟨d,x,y,e,l⟩:=tX (iH i (A+B) D);rw[l];simp only[go_sem];rw[← l];exact fin _ _ _ ⟨d,x,y,e,l,by simp only[go_sem],by simp only[go_sem],by simp only[go_sem]⟩
   ·rw[if_neg c];have R:(i==p)=false:=by rw[U,decide_eq_false c]
    simp only[go_sem,R,Yw];have hc:=L.cmp (aI A) (aI B) (aX _) (aX _) lA lB;rw[aW,aW] at hc;refine aA hc rfl ?_;have u:∀ X Y:Nat,nl X≤256→nl Y≤256→Y≤X→aH C 134 [aJ (aI X),aJ (aI Y)] .nil (aF (.tup [aJ (aI (X-Y)),.int .i64 0])):=by intro X Y V W h;have:=L.sub (aI X) (aI Y) (aX _) (aX _) (by rw[bB]; omega) (by rw[bB]; omega);have Z:=fT (Om:X-Y≤X);rw[aW,aW,rP,hC Om Om,if_neg (by decide),if_neg Om,AE Om] at this;exact this
    by_cases g:B≤A
    ·have S:dP A B≥0:=(UN A B).2 g;rw[if_pos g];simp only[go_sem,S,Yx];refine aA (u A B Om Om g) rfl ?_;simp only[go_sem,Yy];have Z:=fT (Om:A-B≤A);refine aA (low i (A-B) Om) rfl ?_;obtain⟨d,x,y,e,l⟩:=tX (iH i (A-B) D);rw[l];simp only[go_sem];rw[← l];exact fin _ _ _ ⟨d,x,y,e,l,by simp only[go_sem],by simp only[go_sem],by simp only[go_sem]⟩
    ·have S:¬ dP A B≥0:=fun h=>g ((UN A B).1 h);rw[if_neg g];simp only[go_sem,S,Kq];refine aA (u B A Om Om Om) rfl ?_;simp only[go_sem,Kr];have Z:=fT (Om:B-A≤B);refine aA (low p (B-A) Om) rfl ?_;obtain⟨d,x,y,e,l⟩:=tX (iH p (B-A) D);rw[l];simp only[go_sem];rw[← l];exact fin _ _ _ ⟨d,x,y,e,l,by simp only[go_sem],by simp only[go_sem],by simp only[go_sem]⟩
structure RF where
 neg:Bool
 num:List Nat
 den:List Nat
abbrev RF.cells (x:RF):List PV:=eH x.neg x.num x.den
def RF.Ok (x:RF):Prop:=Lim x.num∧Lim x.den∧x.num.length≤35184372087808∧x.den.length≤35184372087808
def RF.v (x:RF):FV:=(x.neg,val x.num,val x.den)
abbrev frs (l:List RF):PV:=.sl 3 (l.map RF.cells)
def FV.rf:FV→RF
 | (n,a,b)=>⟨n,aI a,aI b⟩
def FV.Small:FV→Prop
 | (_,a,b)=>nl a≤900000∧nl b≤900000
theorem FV.aWG (x:FV):x.rf.v=x:=by
 obtain⟨n,a,b⟩:=x;show (n,val (aI a),val (aI b))=_;rw[aW,aW]
def nG (l:List FV):FR:=l.foldlM gI (false,0,1)
theorem sU {neg:Bool} {a b:Nat} {r:FV} (h:iH neg a b=.ok r):r.Small∧r.rf.Ok:=by
 unfold iH at h;split at h
 ·cases h
 ·rename_i e;have c:=(lW (a/a7I a b) 128).1 Om;have d:=(lW (b/a7I a b) 128).1 Om;injection h with h
  subst h;refine⟨⟨by omega,by omega⟩,aX _,aX _,?_,?_⟩
  ·show (aI _).length≤_;rw[bB]; omega
  ·show (aI _).length≤_;rw[bB]; omega
theorem tz {x y r:FV} (h:gI x y=.ok r):r.rf.Ok:=by
 obtain⟨c,a1,b1⟩:=x;obtain⟨d,a2,b2⟩:=y;simp only[gI] at h;split at h
 ·split at h
  ·exact (sU h).2
  ·split at h
   ·exact (sU h).2
   ·exact (sU h).2
 ·cases h
theorem WF {α β:Type} {f:β→α→Except Int β} (l:List α) (b:β) {k:Nat} (h:k<l.length):(l.take (k+1)).foldlM f b=((l.take k).foldlM f b).bind fun x=>f x l[k]:=by
 rw[a9E h,List.foldlM_append];cases (l.take k).foldlM f b with
 | error e=>rfl
 | ok x =>show ([l[k]]:List α).foldlM f x=f x l[k];rw[List.foldlM_cons];cases f x l[k]<;>rfl
theorem jh {α β:Type} {f:β→α→Except Int β} (l:List α) (b:β) {k:Nat} {e:Int} (h:(l.take k).foldlM f b=.error e):l.foldlM f b=.error e:=by
 conv=>lhs; rw[← baE k l,List.foldlM_append,h]
 rfl
def aKQ (l:List RF) (o2 o4:Nat) (k:Nat):PF:=((((((PF.nil.set 2 (.ptr o2 3 0 0)).set 3 (.int .i64 0)).set 4 (.ptr o4 3 0 0)).set 11 (frs l)).set 12 (.int .i64 (l.length:Nat))).set 13 (.int .i64 k))
def dl (o2 o4:Nat) (c:List PV):PH:=(PH.nil.set o2 (.rows 3 [[.bool false,.aB,.aB]])).set o4 (.rows 3 [c])
theorem Y5 {C:Ctx} (L:AQ C) (O:∀ x y:RF,x.Ok→y.Ok→aH C 113 [.agg x.cells,.agg y.cells] .nil (aF (frV (gI x.v y.v)))) (l:List RF) (hl:∀ x∈l,x.Ok) (X:l.length≤9223372036854775807) :
  PU.wp C (aV uo.res (bY (frV (nG (l.map RF.v))))) (PF.args [frs l]) .nil:=by
 simp only[go_sem,PU,Y6];refine aR fun o2 β=>?_;simp only[go_sem,Y7];refine aA (L.make 1 (by decide)) rfl ?_;simp only[go_sem];refine aR fun o4 Q=>?_;have i:o4≠o2:=by rintro rfl; simp only[aT,if_true] at Q; cases Q
 have c:o2≠o4:=Ne.symm i;simp only[go_sem,Y8];refine wp_loop (α:=Nat × FV × PV) (fun t=>aKQ l o2 o4 t.1) (fun t=>dl o2 o4 [.bool t.2.1.1,t.2.2,aJ (aI t.2.1.2.2)]) (fun t=>t.1≤l.length∧((l.map RF.v).take t.1).foldlM gI (false,0,1)=.ok t.2.1∧(t.2.2=.aB∧t.2.1.2.1=0∨t.2.2=aJ (aI t.2.1.2.1))∧(FV.rf t.2.1).Ok) (fun t=>l.length-t.1)
  (0,(false,0,1),.aB) ⟨a7N _,rfl,.inl ⟨rfl,rfl⟩,⟨aX _,aX _,?_,?_⟩⟩ ?_ ?_ ?_
 ·show (aI 0).length≤_;rw[fO]; simp
 ·show (aI 1).length≤_;rw[oI (by decide) (by decide)]; simp
 ·unfold aKQ
  (repeat' (first|exact c_|refine d_ ?_ ?_))<;>first|(simp only[go_sem,a7G]<;>rfl)|rfl
 ·unfold dl;exact PH.aK (PH.aK a_ (by simp only[go_sem,c,i])) (by simp only[go_sem,c,i])
 rintro⟨k,⟨N,R,M⟩,W⟩ ⟨Z,U,K,F⟩;simp only at Z U K F ⊢;have H:CoL [.bool N,W,aJ (aI M)] (FV.rf (N,R,M)).cells:=by
  refine .cons (.refl _) (.cons ?_ (.cons (.refl _) .nil));rcases K with ⟨rfl,rfl⟩ | rfl
  ·show Co .aB (aJ (aI 0));rw[fO]; exact .nil 1
  ·exact .refl _
 simp only[go_sem,K6,Y9,aKQ];by_cases hlt:k<l.length
 ·have u:(k:Int)<(l.length:Nat):=Om;have hr:(l.map RF.cells)[k]?=some (l[k]).cells:=by simp[hlt]
  simp only[go_sem,u,Za,hr];refine aR fun o6 B=>?_;have w:o4≠o6:=by rintro rfl; simp only[dl,aT,if_true] at B; cases B
  have q:o2≠o6:=by rintro rfl; simp only[dl,aT,if_true,if_neg c] at B; cases B
  simp only[go_sem,Zb,dl,w,q,i,c];refine aA ((O (FV.rf (N,R,M)) l[k] F (hl _ (a7J hlt))).args (.cons (CoL.agg H) (.cons (.refl _) .nil))) rfl ?_;rw[FV.aWG];have d:=WF (f:=gI) (l.map RF.v) (false,0,1) (k:=k) (by simpa using hlt);rw[U] at d;simp only[Except.bind,a9B] at d;cases S:gI (N,R,M) (l[k]).v with
  | error e =>
   simp only[go_sem,frV];refine aR fun o7 p=>?_;have V:e≠0:=by
    revert S;obtain⟨n2,a2,b2⟩:=(l[k]).v;simp only[gI,iH]
    repeat' split
    all_goals (intro h; first | (injection h with h; subst h; decide) | cases h)
   have A:o2≠o7:=by rintro rfl; simp only[aT,q,c,if_true,if_false] at p; cases p
   simp only[go_sem,uq,dN V,Zc,A,q,c];rw[S] at d;rw[nG,jh _ _ d];refine hL ?_;simp only[go_sem,uo]
  | ok r =>
   obtain⟨rn,Y,rb⟩:=r;simp only[go_sem,frV];refine aR fun o7 p=>?_;have E:o4≠o7:=by rintro rfl; simp only[aT,w,if_true,if_false] at p; cases p
   have A:o2≠o7:=by rintro rfl; simp only[aT,q,c,if_true,if_false] at p; cases p
   simp only[go_sem,uq,Zd,E,A,w,q,i,c,Ne.symm E,Ze,wZz k];rw[S] at d;refine aD (k+1,(rn,Y,rb),aJ (aI Y)) ⟨hlt,d,.inr rfl,tz S⟩ (by simp only; omega) ?_ ?_
   ·exact Lq
   ·refine PH.aK (PH.aK a_ ?_) ?_
    ·simp only[go_sem,c,i,E,A,w,q]
    ·simp only[go_sem,c,i,E,A,w,q]
 ·have u:¬ (k:Int)<(l.length:Nat):=Om;have:k=l.length:=Om;subst this;rw[a8C (by simp)] at U;rw[nG,U];have J:bY (frV (.ok (N,R,M))) (bO [.agg [.bool N,W,aJ (aI M)],.int .i64 0]) .nil:=⟨CoL.tup (.cons (CoL.agg H) (.cons (.refl _) .nil)),rfl⟩;rcases K with ⟨rfl,rfl⟩ | rfl
  ·simp only[go_sem,u,ZR,dl,i,c];refine bA (.inr rfl) .nil ?_ a_ J;simp only[go_sem,uo,i,c]
  ·simp only[go_sem,u,ZR,dl,i,c];refine bA (.inr rfl) .nil ?_ a_ J;simp only[go_sem,uo,i,c]
def qE:Rg:=[iT 2 false]
def qF:Rg:=[iM 3 0,iA 4 (.bin .geq (Tm 3) (.const (.int .u8 97))),iM 5 4,gM 6 0 5 true,iG 7 (.bin .leq (Tm 6) (.const (.int .u8 122))) 5 true,iP 8 5 7,iM 9 8,gM 10 0 9 false,iG 11 (.bin .geq (Tm 10) (.const (.int .u8 65))) 9 false,gM 12 11 9 false,gM 13 0 12 true,iG 14 (.bin .leq (Tm 13) (.const (.int .u8 90))) 12 true,iG 15 (.pick (Tm 12) (Tm 14) (.const zB)) 9 false,iQ 16 9 15,iM 2 16]
def lG:aC:=(sq qE (sq qF .ret))
def alJ:List Nat:=[]
def FU:aS:=⟨1,17,lG,[.tmp 2]⟩
def BK:Rg:=[iT 2 false]
def BL:Rg:=[iM 3 0,iA 4 (.bin .geq (Tm 3) (.const (.int .u8 48))),iM 5 4,gM 6 0 5 true,iG 7 (.bin .leq (Tm 6) (.const (.int .u8 57))) 5 true,iP 8 5 7,iM 2 8]
def qY:aC:=(sq BK (sq BL .ret))
def atB:List Nat:=[]
def QG:aS:=⟨1,9,qY,[.tmp 2]⟩
def Am:Rg:=[iT 2 false]
def An:Rg:=[iM 3 0,iK 4 126 3,iM 5 4,gM 6 0 5 false,gK 7 124 6 5 false,iQ 8 5 7,iM 9 8,gM 10 0 9 false,iG 11 (.bin .eql (Tm 10) (.const (.int .u8 45))) 9 false,iQ 12 9 11,iM 13 12,gM 14 0 13 false,iG 15 (.bin .eql (Tm 14) (.const (.int .u8 46))) 13 false,iQ 16 13 15,iM 2 16]
def CW:aC:=(sq Am (sq An .ret))
def atN:List Nat:=[]
def QI:aS:=⟨1,17,CW,[.tmp 2]⟩
def IS:Rg:=[iT 2 false]
def IT:Rg:=[iM 4 0,iA 5 (.bin .eql (Tm 4) (.const (.str []))),iM 6 5,gM 7 0 6 false,iG 8 (.a6V (Tm 7)) 6 false,gC 9 .gtr 8 16 6 false,iQ 10 6 9,iM 11 10,gM 12 0 11 false,iG 13 (.a6W (Tm 12) (Ci 0)) 11 false,gK 14 126 13 11 false,iG 15 (.un .not (Tm 14)) 11 false,iQ 16 11 15]
def IU:Rg:=[iT 2 false]
def N3:Rg:=[iI 3 0]
def N4:Rg:=[iM 17 3,iM 18 0,iA 19 (.a6V (Tm 18)),iB 20 .lss 17 19]
def N5:Rg:=[iM 23 0,iM 24 3,iA 25 (.a6W (Tm 23) (Tm 24)),iK 26 125 25,iA 27 (.un .not (Tm 26))]
def N6:Rg:=[iT 2 false]
def N7:Rg:=[iM 21 3,iC 22 .add 21 1,iM 3 22]
def N1:aC:=(.seq (sq N4 (.cond (Tm 20) .skip (.exit 0))) (.seq (.block 1 (sq N5 (.cond (Tm 27) (sq N6 .ret) .skip))) (.region N7)))
def N8:Rg:=[iT 2 true]
def sS:aC:=(sq IS (.seq (sq IT (.cond (Tm 16) (sq IU .ret) .skip)) (.seq (sq N3 (.block 0 (.loop N1))) (sq N8 .ret))))
def aGO:List Nat:=[]
def j7:aS:=⟨1,28,sS,[.tmp 2]⟩
def jv:Rg:=[iT 6 false]
def jw:Rg:=[iM 7 0,iM 8 1,iB 9 .geq 7 8,iM 10 9,gM 11 0 10 true,gM 12 2 10 true,gB 13 .leq 11 12 10 true,iP 14 10 13,iM 6 14]
def zJ:aC:=(sq jv (sq jw .ret))
def aVC:List Nat:=[]
def gin:aS:=⟨3,15,zJ,[.tmp 6]⟩
def zq:Rg:=[iA 1 (.box true (Tm 0)),iT 2 false]
def zr:Rg:=[iF 3 1 1,iL 4 3,iK 5 128 4,iC 6 .gtr 5 0,iM 2 6]
def CS:aC:=(sq zq (sq zr .ret))
def asM:List Nat:=[1]
def jt:aS:=⟨1,7,CS,[.tmp 2]⟩
def Zw:Rg:=[iA 1 (.box true (Tm 0)),iT 2 false]
def Zx:Rg:=[iO 6 3 1,iK 7 116 6,iM 5 7,iE 8 5 0,iE 9 5 1,iA 3 (.alloc [zB,.aB,.aB]),iS 3 3 8,iM 4 9]
def UT:Rg:=[iM 10 4,iC 11 .eql 10 0,iM 12 11,gF 13 0 3 12 true,gL 14 13 12 true,iG 15 (.un .not (Tm 14)) 12 true,iP 16 12 15,iM 17 16,gF 18 1 3 17 true,gL 19 18 17 true,gK 20 128 19 17 true,gC 21 .leq 20 32 17 true,iP 22 17 21,iM 23 22,gF 24 2 3 23 true,gL 25 24 23 true,gK 26 128 25 23 true,gC 27 .leq 26 32 23 true,iP 28 23 27,iM 2 28]
def PZ:aC:=(sq Zw (sq Zx (sq UT .ret)))
def aPL:List Nat:=[1]
def akN:aS:=⟨1,29,PZ,[.tmp 2]⟩
def Z4:Rg:=[iA 1 (.box true (Tm 0)),iT 2 false]
def Z5:Rg:=[iA 8 (.call 115 [(Ci 1),(Ci 1)]),iM 7 8,iE 9 7 0,iE 10 7 1,iA 3 (.alloc [zB,.aB,.aB]),iS 3 3 9,iM 4 10]
def Z6:Rg:=[iO 12 3 1,iO 13 3 3,iK2 14 114 12 13,iM 11 14,iE 15 11 0,iE 16 11 1,iM 5 15,iM 6 16]
def uv:Rg:=[iM 17 6,iC 18 .eql 17 0,iM 19 18,gM 20 5 19 true,gC 21 .leq 20 0 19 true,iP 22 19 21,iM 2 22]
def QB:aC:=(sq Z4 (sq Z5 (sq Z6 (sq uv .ret))))
def aPN:List Nat:=[1]
def gone:aS:=⟨1,23,QB,[.tmp 2]⟩
def Ln:Rg:=[iT 4 false]
def Lo:Rg:=[iM 7 0,iN 8 7,iI 9 0]
def Lp:Rg:=[iB 10 .lss 9 8]
def Lr:Rg:=[iX 11 3 7 9,iO 12 3 11,iA 6 (.alloc [zB,.aB,.aB]),iS 3 6 12]
def Lt:Rg:=[iM 13 1,iO 14 3 6,iA 15 (.a6X (Tm 13) [(Tm 14)]),iA 16 (.un .not (Tm 15))]
def Lu:Rg:=[iT 4 false]
def Lw:Rg:=[iC 17 .add 9 1,iM 9 17]
def Ll:aC:=(sq Lp (.seq (.cond (Tm 10) .skip (.exit 0)) (.seq (.block 1 (sq Lr (sq Lt (.cond (Tm 16) (sq Lu .ret) .skip)))) (.region Lw))))
def Lx:Rg:=[iT 4 true]
def HZ:aC:=(sq Ln (.seq (sq Lo (.block 0 (.loop Ll))) (sq Lx .ret)))
def aFK:List Nat:=[]
def G7:aS:=⟨2,18,HZ,[.tmp 4]⟩
def L0:Rg:=[iT 4 false]
def L3:Rg:=[iM 7 0,iN 8 7,iI 9 0]
def L4:Rg:=[iB 10 .lss 9 8]
def L5:Rg:=[iX 11 1 7 9,iL 12 11,iM 6 12]
def L6:Rg:=[iM 13 1,iM 14 6,iA 15 (.a6X (Tm 13) [(Tm 14)]),iA 16 (.un .not (Tm 15))]
def L7:Rg:=[iT 4 false]
def L8:Rg:=[iC 17 .add 9 1,iM 9 17]
def Ly:aC:=(sq L4 (.seq (.cond (Tm 10) .skip (.exit 0)) (.seq (.block 1 (sq L5 (sq L6 (.cond (Tm 16) (sq L7 .ret) .skip)))) (.region L8))))
def L9:Rg:=[iT 4 true]
def IA:aC:=(sq L0 (.seq (sq L3 (.block 0 (.loop Ly))) (sq L9 .ret)))
def aFL:List Nat:=[]
def G8:aS:=⟨2,18,IA,[.tmp 4]⟩
def Ld:Rg:=[iT 4 false]
def Le:Rg:=[iM 7 0,iN 8 7,iI 9 0]
def Lf:Rg:=[iB 10 .lss 9 8]
def Lg:Rg:=[iX 11 1 7 9,iL 12 11,iM 6 12]
def Lh:Rg:=[iM 13 1,iM 14 6,iA 15 (.a6X (Tm 13) [(Tm 14)]),iA 16 (.un .not (Tm 15))]
def Li:Rg:=[iT 4 false]
def Lj:Rg:=[iC 17 .add 9 1,iM 9 17]
def La:aC:=(sq Lf (.seq (.cond (Tm 10) .skip (.exit 0)) (.seq (.block 1 (sq Lg (sq Lh (.cond (Tm 16) (sq Li .ret) .skip)))) (.region Lj))))
def Lk:Rg:=[iT 4 true]
def HY:aC:=(sq Ld (.seq (sq Le (.block 0 (.loop La))) (sq Lk .ret)))
def aFJ:List Nat:=[]
def G6:aS:=⟨2,18,HY,[.tmp 4]⟩
def zu:Rg:=[iT 2 false]
def zw:Rg:=[iM 3 0,iM 2 3]
def CU:aC:=(sq zu (sq zw .ret))
def asN:List Nat:=[]
def ju:aS:=⟨1,4,CU,[.tmp 2]⟩
def Mf:Rg:=[iA 1 (.box true (Tm 0)),iT 2 false]
def Mg:Rg:=[iF 8 3 1,iL 9 8,iN 10 9,iA 11 (.a6D 1 1 [zB] (Tm 10) (Tm 10)),iM 3 11]
def Mh:Rg:=[iI 4 0]
def Mi:Rg:=[iM 12 4,iM 13 3,iN 14 13,iB 15 .leq 12 14]
def Mj:Rg:=[iM 18 3,iN 19 18,iI 20 0]
def ZS:Rg:=[iB 21 .lss 20 19]
def Mk:Rg:=[iM 22 20,iM 5 22]
def ZT:Rg:=[iM 23 3,iM 24 5,iM 25 3,iM 26 5,iX 27 1 25 26,iL 28 27,iM 29 28,gF 30 3 1 29 false,gL 31 30 29 false,gM 32 5 29 false,iG 33 (.a6M 3 (Tm 31) (Tm 32)) 29 false,gO 34 3 33 29 false,gK 35 97 34 29 false,iQ 36 29 35,iX 37 1 23 24,iS 1 37 36]
def ZU:Rg:=[iF 38 2 1,iL 39 38,iM 40 5,iX 41 1 39 40,iL 42 41,iN 43 42,iI 44 0]
def Ml:Rg:=[iB 45 .lss 44 43]
def zy:Rg:=[iM 46 44,iX 47 3 42 44,iO 48 3 47,iA 7 (.alloc [zB,.aB,.aB]),iM 6 46,iS 3 7 48]
def PW:Rg:=[iM 49 3,iM 50 5,iM 51 3,iM 52 5,iX 53 1 51 52,iL 54 53,iM 55 54,gO 56 3 7 55 false,gK 57 97 56 55 false,gM 58 57 55 false,gM 59 3 58 true,gM 60 6 58 true,iG 61 (.a6M 1 (Tm 59) (Tm 60)) 58 true,gL 62 61 58 true,iG 63 (.pick (Tm 58) (Tm 62) (.const zB)) 55 false,iQ 64 55 63,iX 65 1 49 50,iS 1 65 64]
def BJ:Rg:=[iC 66 .add 44 1,iM 44 66]
def BH:aC:=(sq Ml (.seq (.cond (Tm 45) .skip (.exit 4)) (.seq (.block 5 (sq zy (.region PW))) (.region BJ))))
def PX:Rg:=[iC 67 .add 20 1,iM 20 67]
def BI:aC:=(sq ZS (.seq (.cond (Tm 21) .skip (.exit 2)) (.seq (.block 3 (sq Mk (sq ZT (sq ZU (.block 4 (.loop BH)))))) (.region PX))))
def zz:Rg:=[iM 16 4,iC 17 .add 16 1,iM 4 17]
def zx:aC:=(.seq (sq Mi (.cond (Tm 15) .skip (.exit 0))) (.seq (.block 1 (sq Mj (.block 2 (.loop BI)))) (.region zz)))
def z8:Rg:=[iM 68 3,iA 69 (.call 98 [(Tm 68),(.const (.fn 103 []))]),iM 2 69]
def IB:aC:=(sq Mf (sq Mg (.seq (sq Mh (.block 0 (.loop zx))) (sq z8 .ret))))
def aFN:List Nat:=[1]
def G9:aS:=⟨1,70,IB,[.tmp 2]⟩
def Zn:Rg:=[iA 1 (.box true (Tm 0)),iT 2 false]
def Zo:Rg:=[iF 12 1 1,iL 13 12,iN 14 13,iM 3 14]
def Zp:Rg:=[iM 15 3,iA 16 (.call 104 [(Tm 15),(Ci 1),(Ci 4)]),iA 17 (.un .not (Tm 16)),iM 18 17,gF 19 3 1 18 false,gL 20 19 18 false,gN 21 20 18 false,gM 22 3 18 false,gB 23 .neq 21 22 18 false,iQ 24 18 23,iM 25 24,gF 26 2 1 25 false,gL 27 26 25 false,gN 28 27 25 false,gM 29 3 25 false,gB 30 .neq 28 29 25 false,iQ 31 25 30,iM 32 31,gF 33 1 1 32 false,gL 34 33 32 false,iG 35 (.call 99 [(Tm 34),(.const (.fn 105 []))]) 32 false,iG 36 (.un .not (Tm 35)) 32 false,iQ 37 32 36,iM 38 37,gF 39 3 1 38 false,gL 40 39 38 false,iG 41 (.call 99 [(Tm 40),(.const (.fn 105 []))]) 38 false,iG 42 (.un .not (Tm 41)) 38 false,iQ 43 38 42]
def yD:Rg:=[iT 2 false]
def Zq:Rg:=[iF 44 2 1,iL 45 44,iN 46 45,iI 47 0]
def Zr:Rg:=[iB 48 .lss 47 46]
def Zs:Rg:=[iM 49 47,iX 50 1 45 47,iL 51 50,iM 4 49,iM 5 51]
def Zt:Rg:=[iM 52 5,iN 53 52,iM 54 3,iB 55 .neq 53 54,iM 56 55,gM 57 5 56 false,iG 58 (.call 99 [(Tm 57),(.const (.fn 105 []))]) 56 false,iG 59 (.un .not (Tm 58)) 56 false,iQ 60 56 59,iM 61 60,gM 62 5 61 false,gM 63 4 61 false,iG 64 (.a6M 3 (Tm 62) (Tm 63)) 61 false,gO 65 3 64 61 false,gK 66 97 65 61 false,iQ 67 61 66]
def US:Rg:=[iT 2 false]
def Zu:Rg:=[iC 68 .add 47 1,iM 47 68]
def Mm:aC:=(sq Zr (.seq (.cond (Tm 48) .skip (.exit 0)) (.seq (.block 1 (sq Zs (sq Zt (.cond (Tm 67) (sq US .ret) .skip)))) (.region Zu))))
def ZV:Rg:=[iF 70 1 1,iL 71 70,iK 72 117 71,iM 69 72,iE 73 69 0,iE 74 69 1,iA 6 (.alloc [zB,.aB,.aB]),iS 3 6 73,iM 7 74]
def IC:Rg:=[iA 76 (.call 115 [(Ci 1),(Ci 1)]),iM 75 76,iE 77 75 0,iE 78 75 1,iA 8 (.alloc [zB,.aB,.aB]),iS 3 8 77,iM 9 78]
def ID:Rg:=[iO 80 3 6,iO 81 3 8,iK2 82 114 80 81,iM 79 82,iE 83 79 0,iE 84 79 1,iM 10 83,iM 11 84]
def uC:Rg:=[iM 85 7,iC 86 .eql 85 0,iM 87 86,gM 88 10 87 true,gC 89 .eql 88 0 87 true,iP 90 87 89,iM 91 90,gO 92 4 1 91 true,gK 93 102 92 91 true,iP 94 91 93,iM 2 94]
def PY:aC:=(sq Zn (sq Zo (.seq (sq Zp (.cond (Tm 43) (sq yD .ret) .skip)) (.seq (sq Zq (.block 0 (.loop Mm))) (sq ZV (sq IC (sq ID (sq uC .ret))))))))
def aPK:List Nat:=[1]
def akM:aS:=⟨1,95,PY,[.tmp 2]⟩
def M1:Rg:=[iT 2 false]
def M2:Rg:=[iA 6 (.a7B (false,[.str])),iM 3 6]
def M3:Rg:=[iM 7 0,iN 8 7,iI 9 0]
def M4:Rg:=[iB 10 .lss 9 8]
def M5:Rg:=[iX 11 1 7 9,iL 12 11,iM 5 12]
def M6:Rg:=[iM 13 5,iK 14 123 13,iA 15 (.un .not (Tm 14)),iM 16 15,gM 17 3 16 false,gM 18 5 16 false,iG 19 (.lookup (false,[.str]) zB (Tm 17) (Tm 18) false) 16 false,iQ 20 16 19]
def aa:Rg:=[iT 2 false]
def M7:Rg:=[iM 21 3,iM 22 5,⟨none,.a6N (false,[.str]) (Tm 21) (Tm 22) (.const (.bool true)),none⟩]
def M8:Rg:=[iC 23 .add 9 1,iM 9 23]
def Mz:aC:=(sq M4 (.seq (.cond (Tm 10) .skip (.exit 0)) (.seq (.block 1 (sq M5 (.seq (sq M6 (.cond (Tm 20) (sq aa .ret) .skip)) (.region M7)))) (.region M8))))
def Ad:Rg:=[iT 2 true]
def IG:aC:=(sq M1 (sq M2 (.seq (sq M3 (.block 0 (.loop Mz))) (sq Ad .ret))))
def aFR:List Nat:=[]
def Hc:aS:=⟨1,24,IG,[.tmp 2]⟩
def ut:Rg:=[iA 1 (.box true (Tm 0)),iT 2 false]
def uu:Rg:=[iF 6 3 1,iL 7 6,iN 8 7,iC 9 .eql 8 0]
def Zg:Rg:=[iT 2 false]
def Zh:Rg:=[iF 10 3 1,iL 11 10,iA 12 (.a6M 7 (Tm 11) (Ci 0)),iO 13 7 12,iA 3 (.alloc [(.str []),zI,zI,zI,zB,.aB,.aB]),iS 7 3 13]
def yC:Rg:=[iF 14 0 3,iL 15 14,iA 16 (.bin .neq (Tm 15) (.const (.str []))),iM 17 16,gF 18 1 3 17 false,gL 19 18 17 false,gC 20 .neq 19 0 17 false,iQ 21 17 20,iM 22 21,gF 23 2 3 22 false,gL 24 23 22 false,gC 25 .neq 24 (-1) 22 false,iQ 26 22 25,iM 27 26,gF 28 3 3 27 false,gL 29 28 27 false,gC 30 .neq 29 0 27 false,iQ 31 27 30,iM 32 31,gF 33 4 3 32 false,gO 34 3 33 32 false,gK 35 105 34 32 false,iG 36 (.un .not (Tm 35)) 32 false,iQ 37 32 36,iM 38 37,gF 39 4 3 38 false,gO 40 3 39 38 false,gK 41 97 40 38 false,iQ 42 38 41]
def uB:Rg:=[iT 2 false]
def Zi:Rg:=[iF 43 3 1,iL 44 43,iA 45 (.slice 7 (Tm 44) (some (Ci 1)) none none),iN 46 45,iI 47 0]
def Zj:Rg:=[iB 48 .lss 47 46]
def Zk:Rg:=[iM 49 47,iX 50 7 45 47,iO 51 7 50,iA 5 (.alloc [(.str []),zI,zI,zI,zB,.aB,.aB]),iM 4 49,iS 7 5 51]
def Zl:Rd:=[(iF 52 2 5,false),(iL 53 52,false),(iM 54 4,false),(iA 55 (.call 104 [(Tm 53),(Ci 0),(Tm 54)]),true),(iA 56 (.un .not (Tm 55)),false),(iM 57 56,false),(gF 58 3 1 57 false,false),(gL 59 58 57 false,false),(gF 60 2 5 57 false,false),(gL 61 60 57 false,false),(iG 62 (.a6M 7 (Tm 59) (Tm 61)) 57 false,false),(gF 63 1 62 57 false,false),(gL 64 63 57 false,false),(gF 65 1 5 57 false,false),(gL 66 65 57 false,false),(gC 67 .sub 66 1 57 false,false),(gB 68 .neq 64 67 57 false,false),(iQ 69 57 68,false),(iM 70 69,false),(gF 71 1 5 70 false,false),(gL 72 71 70 false,false),(iG 73 (.call 104 [(Tm 72),(Ci 1),(Ci 4)]) 70 false,true),(iG 74 (.un .not (Tm 73)) 70 false,false),(iQ 75 70 74,false),(iM 76 75,false),(gF 77 3 5 76 false,false),(gL 78 77 76 false,false),(iG 79 (.call 104 [(Tm 78),(Ci 1),(Ci 64)]) 76 false,true),(iG 80 (.un .not (Tm 79)) 76 false,false),(iQ 81 76 80,false),(iM 82 81,false),(gF 83 4 5 82 false,false),(gO 84 3 83 82 false,false),(gK 85 105 84 82 false,true),(iG 86 (.un .not (Tm 85)) 82 false,false),(iQ 87 82 86,false)]
def uA:Rg:=[iT 2 false]
def Mc:Rg:=[iC 88 .add 47 1,iM 47 88]
def Mb:aC:=(sq Zj (.seq (.cond (Tm 48) .skip (.exit 0)) (.seq (.block 1 (sq Zk (dq Zl (.cond (Tm 87) (sq uA .ret) .skip)))) (.region Mc))))
def Md:Rg:=[iT 2 true]
def BG:aC:=(sq ut (.seq (sq uu (.cond (Tm 9) (sq Zg .ret) .skip)) (sq Zh (.seq (sq yC (.cond (Tm 42) (sq uB .ret) .skip)) (.seq (sq Zi (.block 0 (.loop Mb))) (sq Md .ret))))))
def aPJ:List Nat:=[1]
def Ma:aS:=⟨1,89,BG,[.tmp 2]⟩
def Mo:Rg:=[iT 2 false]
def Mp:Rg:=[iM 3 0,iA 4 (.call 104 [(Tm 3),(Ci 0),(Ci 8)]),iM 2 4]
def IE:aC:=(sq Mo (sq Mp .ret))
def aFO:List Nat:=[]
def Ha:aS:=⟨1,5,IE,[.tmp 2]⟩
def Zz:Rg:=[iA 7 (.box true (Tm 3)),iT 8 false]
def Z1:Rg:=[iM 9 0,iA 10 (.call 104 [(Tm 9),(Ci 1),(Ci 6)]),iA 11 (.un .not (Tm 10)),iM 12 11,gM 13 1 12 false,iG 14 (.call 104 [(Tm 13),(Ci 0),(Ci 4)]) 12 false,iG 15 (.un .not (Tm 14)) 12 false,iQ 16 12 15,iM 17 16,gM 18 0 17 false,gM 19 1 17 false,gB 20 .add 18 19 17 false,gC 21 .gtr 20 8 17 false,iQ 22 17 21,iM 23 22,gM 24 2 23 false,gM 25 0 23 false,gM 26 0 23 false,gM 27 1 23 false,gB 28 .add 26 27 23 false,iG 29 (.call 104 [(Tm 24),(Tm 25),(Tm 28)]) 23 false,iG 30 (.un .not (Tm 29)) 23 false,iQ 31 23 30,iM 32 31,iG 33 (.idxA 5 1 (Tm 7) (Ci 0)) 32 false,gL 34 33 32 false,gC 35 .neq 34 0 32 false,iQ 36 32 35]
def yE:Rg:=[iT 8 false]
def Z2:Rg:=[iA 37 (.sliceA 5 1 (Tm 7) none none none),iA 38 (.call 100 [(Tm 37),(.const (.fn 107 []))]),iM 8 38]
def QA:aC:=(sq Zz (.seq (sq Z1 (.cond (Tm 36) (sq yE .ret) .skip)) (sq Z2 .ret)))
def aPM:List Nat:=[7]
def akO:aS:=⟨4,39,QA,[.tmp 8]⟩
def Ab:Rg:=[iA 1 (.box true (Tm 0)),iT 2 false]
def Ac:Rg:=[iO 3 3 1,iK 4 105 3,iM 5 4,gO 6 3 1 5 true,gK 7 97 6 5 true,iP 8 5 7,iM 2 8]
def CV:aC:=(sq Ab (sq Ac .ret))
def asQ:List Nat:=[1]
def jx:aS:=⟨1,9,CV,[.tmp 2]⟩
def Mu:Rg:=[iA 6 (.box true (Tm 2)),iA 7 (.box true (Tm 3)),iT 8 false]
def Mv:Rg:=[iM 9 1,iN 10 9,iM 11 0,iA 12 (.a6Q true (Tm 11) (Ci 1)),iB 13 .eql 10 12,iM 14 13,gM 15 1 14 true,iG 16 (.call 99 [(Tm 15),(.const (.fn 109 []))]) 14 true,iP 17 14 16,iM 18 17,gO 19 3 6 18 true,gK 20 105 19 18 true,iP 21 18 20,iM 22 21,gO 23 3 6 22 true,gK 24 101 23 22 true,iP 25 22 24,iM 26 25,gO 27 3 7 26 true,gK 28 105 27 26 true,iP 29 26 28,iM 8 29]
def IF:aC:=(sq Mu (sq Mv .ret))
def aFP:List Nat:=[6,7]
def Hb:aS:=⟨4,30,IF,[.tmp 8]⟩
def Z8:Rg:=[iA 2 (.box true (Tm 0)),iT 4 false]
def Z9:Rg:=[iF 8 1 2,iL 9 8,iF 10 2 2,iL 11 10,iF 12 3 2,iL 13 12,iF 14 4 2,iO 15 5 14,iA 16 (.call 106 [(Tm 9),(Tm 11),(Tm 13),(Tm 15)]),iA 17 (.un .not (Tm 16)),iM 18 17,gF 19 9 2 18 false,gL 20 19 18 false,gN 21 20 18 false,gC 22 .eql 21 0 18 false,iQ 23 18 22,iM 24 23,gF 25 2 2 24 false,gL 26 25 24 false,gF 27 10 2 24 false,gL 28 27 24 false,gF 29 11 2 24 false,gO 30 3 29 24 false,gF 31 14 2 24 false,gO 32 3 31 24 false,iG 33 (.call 108 [(Tm 26),(Tm 28),(Tm 30),(Tm 32)]) 24 false,iG 34 (.un .not (Tm 33)) 24 false,iQ 35 24 34]
def UU:Rg:=[iT 4 false]
def aaA:Rg:=[iM 36 1,iA 37 (.a6D 1 1 [zB] (Tm 36) (Tm 36)),iM 5 37]
def aaB:Rg:=[iF 38 9 2,iL 39 38,iN 40 39,iI 41 0]
def aaC:Rg:=[iB 42 .lss 41 40]
def aaD:Rg:=[iX 43 1 39 41,iL 44 43,iM 7 44]
def aaE:Rg:=[iM 45 7,iM 46 1,iC 47 .sub 46 1,iA 48 (.call 104 [(Tm 45),(Ci 0),(Tm 47)]),iA 49 (.un .not (Tm 48)),iM 50 49,gM 51 5 50 false,gM 52 7 50 false,iG 53 (.a6M 1 (Tm 51) (Tm 52)) 50 false,gL 54 53 50 false,iQ 55 50 54]
def uw:Rg:=[iT 4 false]
def aaF:Rg:=[iM 56 5,iM 57 7,iX 58 1 56 57,⟨none,.store 1 (Tm 58) (.const (.bool true)),none⟩]
def Mr:Rg:=[iC 59 .add 41 1,iM 41 59]
def Mq:aC:=(sq aaC (.seq (.cond (Tm 42) .skip (.exit 0)) (.seq (.block 1 (sq aaD (.seq (sq aaE (.cond (Tm 55) (sq uw .ret) .skip)) (.region aaF)))) (.region Mr))))
def Ms:Rg:=[iT 4 true]
def QC:aC:=(sq Z8 (.seq (sq Z9 (.cond (Tm 35) (sq UU .ret) .skip)) (sq aaA (.seq (sq aaB (.block 0 (.loop Mq))) (sq Ms .ret)))))
def aPO:List Nat:=[2]
def akP:aS:=⟨2,60,QC,[.tmp 4]⟩
def aaH:Rg:=[iA 1 (.box true (Tm 0)),iI 2 0]
def aaI:Rg:=[iF 21 0 1,iL 22 21,iA 23 (.call 104 [(Tm 22),(Ci 1),(Ci 4)]),iA 24 (.un .not (Tm 23)),iM 25 24,gF 26 1 1 25 false,gL 27 26 25 false,gN 28 27 25 false,gC 29 .gtr 28 4 25 false,iQ 30 25 29,iM 31 30,gF 32 2 1 31 false,gL 33 32 31 false,gN 34 33 31 false,gC 35 .gtr 34 4 31 false,iQ 36 31 35,iM 37 36,gF 38 3 1 37 false,gL 39 38 37 false,gN 40 39 37 false,gC 41 .gtr 40 40 37 false,iQ 42 37 41,iM 43 42,gF 44 4 1 43 false,gL 45 44 43 false,gN 46 45 43 false,gC 47 .gtr 46 24 43 false,iQ 48 43 47,iM 49 48,gF 50 5 1 49 false,gL 51 50 49 false,gN 52 51 49 false,gC 53 .gtr 52 4 49 false,iQ 54 49 53,iM 55 54,gF 56 6 1 55 false,gL 57 56 55 false,gN 58 57 55 false,gC 59 .gtr 58 12 55 false,iQ 60 55 59,iM 61 60,gO 62 7 1 61 false,gK 63 111 62 61 false,iG 64 (.un .not (Tm 63)) 61 false,iQ 65 61 64]
def qC:Rg:=[iI 2 1]
def aaJ:Rg:=[iZ 3,iZ 4,iZ 5,iZ 6,iZ 7]
def aaK:Rg:=[iT 8 true]
def ux:Rg:=[iF 66 1 1,iL 67 66,iN 68 67,iI 69 0]
def aaL:Rg:=[iB 70 .lss 69 68]
def aaM:Rg:=[iX 71 4 67 69,iO 72 4 71,iA 10 (.alloc [(.str []),.aB,.aB,.aB]),iS 4 10 72]
def aaN:Rg:=[iM 73 3,iF 74 0 10,iL 75 74,iA 76 (.a6B true 1 1 [(.str [])] [(0,(Tm 75))]),iA 77 (.append 1 16 (Tm 73) (Tm 76)),iM 3 77]
def uy:Rg:=[iM 78 8,iM 79 78,gO 80 4 10 79 true,gK 81 95 80 79 true,iP 82 79 81,iM 8 82]
def ac:Rg:=[iC 83 .add 69 1,iM 69 83]
def IH:aC:=(sq aaL (.seq (.cond (Tm 70) .skip (.exit 0)) (.seq (.block 1 (sq aaM (sq aaN (.region uy)))) (.region ac))))
def ai:Rg:=[iF 84 2 1,iL 85 84,iN 86 85,iI 87 0]
def M9:Rg:=[iB 88 .lss 87 86]
def Nb:Rg:=[iX 89 4 85 87,iO 90 4 89,iA 12 (.alloc [(.str []),zI,zI,zI]),iS 4 12 90]
def Nc:Rg:=[iM 91 4,iF 92 0 12,iL 93 92,iA 94 (.a6B true 1 1 [(.str [])] [(0,(Tm 93))]),iA 95 (.append 1 16 (Tm 91) (Tm 94)),iM 4 95]
def aj:Rg:=[iM 96 8,iM 97 96,gF 98 1 12 97 true,gL 99 98 97 true,iG 100 (.call 104 [(Tm 99),(Ci 1),(Ci 16)]) 97 true,iP 101 97 100,iM 102 101,gF 103 2 12 102 true,gL 104 103 102 true,iG 105 (.call 104 [(Tm 104),(Ci 1),(Ci 64)]) 102 true,iP 106 102 105,iM 107 106,gF 108 3 12 107 true,gL 109 108 107 true,gF 110 1 1 107 true,gL 111 110 107 true,gN 112 111 107 true,gC 113 .sub 112 1 107 true,iG 114 (.call 104 [(Tm 109),(Ci 0),(Tm 113)]) 107 true,iP 115 107 114,iM 8 115]
def zM:Rg:=[iC 116 .add 87 1,iM 87 116]
def II:aC:=(sq M9 (.seq (.cond (Tm 88) .skip (.exit 2)) (.seq (.block 3 (sq Nb (sq Nc (.region aj)))) (.region zM))))
def al:Rg:=[iF 117 3 1,iL 118 117,iA 119 (.slice 7 (Tm 118) (some (Ci 1)) none none),iN 120 119,iI 121 0]
def Nd:Rg:=[iB 122 .lss 121 120]
def Nf:Rg:=[iX 123 7 119 121,iO 124 7 123,iA 14 (.alloc [(.str []),zI,zI,zI,zB,.aB,.aB]),iS 7 14 124]
def Ng:Rg:=[iM 125 5,iF 126 0 14,iL 127 126,iA 128 (.a6B true 1 1 [(.str [])] [(0,(Tm 127))]),iA 129 (.append 1 16 (Tm 125) (Tm 128)),iM 5 129]
def Nh:Rg:=[iC 130 .add 121 1,iM 121 130]
def IJ:aC:=(sq Nd (.seq (.cond (Tm 122) .skip (.exit 4)) (.seq (.block 5 (sq Nf (.region Ng))) (.region Nh))))
def an:Rg:=[iF 131 4 1,iL 132 131,iN 133 132,iI 134 0]
def Ni:Rg:=[iB 135 .lss 134 133]
def Nj:Rg:=[iX 136 3 132 134,iO 137 3 136,iA 16 (.alloc [(.str []),zI,zI]),iS 3 16 137]
def Nk:Rg:=[iM 138 5,iF 139 0 16,iL 140 139,iA 141 (.a6B true 1 1 [(.str [])] [(0,(Tm 140))]),iA 142 (.append 1 16 (Tm 138) (Tm 141)),iM 5 142]
def ao:Rg:=[iM 143 8,iM 144 143,gF 145 1 16 144 true,gL 146 145 144 true,gF 147 2 1 144 true,gL 148 147 144 true,gN 149 148 144 true,gC 150 .sub 149 1 144 true,iG 151 (.call 104 [(Tm 146),(Ci 0),(Tm 150)]) 144 true,iP 152 144 151,iM 153 152,gF 154 2 16 153 true,gL 155 154 153 true,gF 156 3 1 153 true,gL 157 156 153 true,gN 158 157 153 true,gC 159 .sub 158 1 153 true,iG 160 (.call 104 [(Tm 155),(Ci 0),(Tm 159)]) 153 true,iP 161 153 160,iM 162 161,gF 163 3 1 162 true,gL 164 163 162 true,gF 165 2 16 162 true,gL 166 165 162 true,iG 167 (.a6M 7 (Tm 164) (Tm 166)) 162 true,gF 168 1 167 162 true,gL 169 168 162 true,gC 170 .eql 169 4 162 true,iP 171 162 170,iM 8 171]
def uD:Rg:=[iC 172 .add 134 1,iM 134 172]
def IK:aC:=(sq Ni (.seq (.cond (Tm 135) .skip (.exit 6)) (.seq (.block 7 (sq Nj (sq Nk (.region ao)))) (.region uD))))
def ap:Rg:=[iF 173 5 1,iL 174 173,iN 175 174,iI 176 0]
def Nl:Rg:=[iB 177 .lss 176 175]
def Nm:Rg:=[iX 178 17 174 176,iO 179 17 178,iA 18 (.alloc [(.str []),zI,zI,zI,zI,zI,zI,zI,zI,.aB,.aB,zB,.aB,.aB,zB,.aB,.aB]),iS 17 18 179]
def Nn:Rg:=[iM 180 6,iF 181 0 18,iL 182 181,iA 183 (.a6B true 1 1 [(.str [])] [(0,(Tm 182))]),iA 184 (.append 1 16 (Tm 180) (Tm 183)),iM 6 184]
def au:Rg:=[iM 185 8,iM 186 185,gO 187 17 18 186 true,gF 188 2 1 186 true,gL 189 188 186 true,gN 190 189 186 true,gK2 191 112 187 190 186 true,iP 192 186 191,iM 8 192]
def av:Rg:=[iC 193 .add 176 1,iM 176 193]
def IL:aC:=(sq Nl (.seq (.cond (Tm 177) .skip (.exit 8)) (.seq (.block 9 (sq Nm (sq Nn (.region au)))) (.region av))))
def aw:Rg:=[iF 194 6 1,iL 195 194,iN 196 195,iI 197 0]
def No:Rg:=[iB 198 .lss 197 196]
def Np:Rg:=[iX 199 2 195 197,iO 200 2 199,iA 20 (.alloc [(.str []),zI]),iS 2 20 200]
def Nq:Rg:=[iM 201 7,iF 202 0 20,iL 203 202,iA 204 (.a6B true 1 1 [(.str [])] [(0,(Tm 203))]),iA 205 (.append 1 16 (Tm 201) (Tm 204)),iM 7 205]
def ay:Rg:=[iM 206 8,iM 207 206,gF 208 1 20 207 true,gL 209 208 207 true,gF 210 5 1 207 true,gL 211 210 207 true,gN 212 211 207 true,gC 213 .sub 212 1 207 true,iG 214 (.call 104 [(Tm 209),(Ci 0),(Tm 213)]) 207 true,iP 215 207 214,iM 8 215]
def ba:Rg:=[iC 216 .add 197 1,iM 197 216]
def IM:aC:=(sq No (.seq (.cond (Tm 198) .skip (.exit 10)) (.seq (.block 11 (sq Np (sq Nq (.region ay)))) (.region ba))))
def zN:Rg:=[iM 217 8,iA 218 (.un .not (Tm 217)),iM 219 218,gM 220 3 219 false,gK 221 110 220 219 false,iG 222 (.un .not (Tm 221)) 219 false,iQ 223 219 222,iM 224 223,gM 225 4 224 false,gK 226 110 225 224 false,iG 227 (.un .not (Tm 226)) 224 false,iQ 228 224 227,iM 229 228,gM 230 5 229 false,gK 231 110 230 229 false,iG 232 (.un .not (Tm 231)) 229 false,iQ 233 229 232,iM 234 233,gM 235 6 234 false,gK 236 110 235 234 false,iG 237 (.un .not (Tm 236)) 234 false,iQ 238 234 237,iM 239 238,gM 240 7 239 false,gK 241 110 240 239 false,iG 242 (.un .not (Tm 241)) 239 false,iQ 243 239 242]
def nN:Rg:=[iI 2 1]
def IN:Rg:=[iI 2 0]
def QD:aC:=(sq aaH (.seq (sq aaI (.cond (Tm 65) (sq qC .ret) .skip)) (sq aaJ (sq aaK (.seq (sq ux (.block 0 (.loop IH))) (.seq (sq ai (.block 2 (.loop II))) (.seq (sq al (.block 4 (.loop IJ))) (.seq (sq an (.block 6 (.loop IK))) (.seq (sq ap (.block 8 (.loop IL))) (.seq (sq aw (.block 10 (.loop IM))) (.seq (sq zN (.cond (Tm 243) (sq nN .ret) .skip)) (sq IN .ret))))))))))))
def aPQ:List Nat:=[1,76,94,128,141,183,204]
def akS:aS:=⟨1,244,QD,[.tmp 2]⟩
@[go_sem] theorem aZD (a b:List UInt8):OG .eql a b=some (.bool (a==b)):=(rfl)
@[go_sem] theorem aZE (a b:List UInt8):OG .neq a b=some (.bool !(a==b)):=(rfl)
@[go_sem] theorem ajA (a b:List UInt8):OG .add a b=if ((a.length+b.length:Nat):Int)>9223372036854775807 then none else some (.str (a++b)):=(rfl)
@[go_sem] theorem aUH:(([]:List UInt8)==[])=true:=(rfl)
@[go_sem] theorem aOI (c:UInt8) (t:List UInt8):((c::t)==[])=false:=(rfl)
theorem pV {a b:List UInt8} (h:a=b):(a==b)=true:=by simp[h]
theorem ge {a b:List UInt8} (h:a≠b):(a==b)=false:=by simp[h]
section
variable {C:Ctx} {F:PF} {H:PH}
theorem qZ {name o s:Nat} {rs:List (List PV)} {vs:List PV} {v:PV} {args:List aP} {d:Option Nat} {K:PF→PH→Prop} (h:aH C name vs .nil (aF v)) (i:H o=some (.rows s rs))
  (e:aP.evs (F.frz o s rs) args=some vs) (c:K ((F.frz o s rs).put d v) (H.frz o s rs)):iV C name args [] d K F H:=by
 refine .inr ⟨_,_,.step o i (.refl _ _),vs,.nil,aF v,?_,a_,h,?_⟩
 ·rw[e]; simp
 ·rintro r H' ⟨rfl,rfl⟩ -;rw[PH.zU];exact c
theorem jD.trans {c d e:PF} {i H2 l:PH} (h:jD c i d H2) (k:jD d H2 e l):jD c i e l:=by
 induction h with
 | refl=>exact k
 | step o p h q=>exact .step o p (q k)
theorem qP {c:aC} {K:bR} {s:Nat} {v:PV} {rows:List (List PV)} (J:bQ H s v rows)
  (h:∀ e,Seen s e rows→∀ d l,(∀ t,F t=some v→d t=some e)→(∀ i u,F i=some u→Pure u→d i=some u)→aC.wp C (.loop c) K d l):aC.wp C (.loop c) K F H:=by
 obtain⟨e,M,E⟩:=J.frz;obtain⟨d,l,N,A,B⟩:=E F;obtain⟨α,w,Hs,x,m,y,q,H2,p,rest⟩:=h e M d l A B;exact⟨α,w,Hs,x,m,y,q,H2,N.trans p,rest⟩
theorem aH.anN {name s:Nat} {v:PV} {rows:List (List PV)} {d:PH} {R:PV→PH→Prop} (h:aH C name [.sl s rows] d R) (i:Seen s v rows):aH C name [v] d R:=by
 rcases i with ⟨rfl,rfl⟩ | rfl
 ·refine h.args ⟨rfl,fun j p q c e=>?_⟩;cases j with
  | zero=>simp at c e; subst c; subst e; exact .nil s
  | succ j=>simp at c
 ·exact h
theorem bQ.fresh {s:Nat} {v:PV} {rows:List (List PV)} {o:Nat} (h:bQ H s v rows) (i:H o=none) (x:cG):bQ (H.set o x) s v rows∧∀ l,v≠.osl o s 0 l:=by
 refine⟨h.ext fun q y d=>?_,fun l e=>?_⟩
 ·have:q≠o:=by rintro rfl; rw[i] at d; cases d
  simp only[aT,if_neg this,d]
 ·rcases h with ⟨_,c⟩ | ⟨q,rs,h1,c,_⟩
  ·rw[c] at e; cases e
  ·rw[h1] at e;injection e with p
   subst p;rw[i] at c; cases c
theorem mY {s b:Nat} {v:PV} {rows:List (List PV)} {r:List PV} {o:Nat} {x:cG} {K:PV→PH→Prop} (h:bQ H s v rows) (l:H o=none) (q:roomFor rows.length 1 b)
  (i:∀ v' H',bQ H' s v' (rows++[r])→H' o=some x→K v' H'):mP (H.set o x) s b v (.sl s [r]) K:=by
 obtain⟨c,d⟩:=h.fresh l x;refine fI (src:=[r]) c (by simp[dX]) q fun v' H' e p=>i v' H' e (p o x (by simp only[aT,if_true]) d)
theorem tZ {o s k:Nat} {rs:List (List PV)} (c:k≤rs.length):PV.frz o s rs (.osl o s 0 k)=.sl s (rs.take k):=by
 have:0+k≤rs.length:=Om;simp only[PV.frz,PV.sO,PV.dE,if_true,true_and,if_pos this,a8R]
end
def eO (n:Nat):Bool:=decide (97≤n)&&decide (n≤122)||decide (65≤n)&&decide (n≤90)
def kK (n:Nat):Bool:=decide (48≤n)&&decide (n≤57)
def fL (n:Nat):Bool:=eO n||kK n||decide (n=45)||decide (n=46)
theorem j6 {C:Ctx} (n:Nat):lG.wp C (aV FU.res (aF (.bool (eO n)))) (PF.args [.int .u8 n]) .nil:=by
 have fin:∀ (F:PF) (b:Bool),F 2=some (.bool b)→b=eO n→aV FU.res (aF (.bool (eO n))) .ret F .nil:=by intro F b h e;subst e;refine aQ (.inr rfl) (vs:=[.bool (eO n)]) (by simp only[go_sem,FU,h]) rfl
 unfold eO at *
 by_cases a:97≤n
 ·have i:(n:Int)≥97:=Om;by_cases b:n≤122
  ·have p:(n:Int)≤122:=Om;simp only[go_sem,lG,qE,qF,i,p];exact fin _ _ rfl (by simp[a,b])
  ·have p:¬ (n:Int)≤122:=Om;by_cases c:65≤n
   ·have l:(n:Int)≥65:=Om;have d:¬ (n:Int)≤90:=Om;simp only[go_sem,lG,qE,qF,i,p,l,d];exact fin _ _ rfl (by simp[a,b,c]; omega)
   ·omega
 ·have i:¬ (n:Int)≥97:=Om;by_cases c:65≤n
  ·have l:(n:Int)≥65:=Om;by_cases d:n≤90
   ·have q:(n:Int)≤90:=Om;simp only[go_sem,lG,qE,qF,i,l,q];exact fin _ _ rfl (by simp[a,c,d])
   ·have q:¬ (n:Int)≤90:=Om;simp only[go_sem,lG,qE,qF,i,l,q];exact fin _ _ rfl (by simp[a,c,d])
  ·have l:¬ (n:Int)≥65:=Om;simp only[go_sem,lG,qE,qF,i,l];exact fin _ _ rfl (by simp[a,c])
theorem Aj {C:Ctx} (n:Nat):qY.wp C (aV QG.res (aF (.bool (kK n)))) (PF.args [.int .u8 n]) .nil:=by
 have fin:∀ (F:PF) (b:Bool),F 2=some (.bool b)→b=kK n→aV QG.res (aF (.bool (kK n))) .ret F .nil:=by intro F b h e;subst e;refine aQ (.inr rfl) (vs:=[.bool (kK n)]) (by simp only[go_sem,QG,h]) rfl
 unfold kK at *
 by_cases a:48≤n
 ·have c:(n:Int)≥48:=Om;by_cases b:n≤57
  ·have d:(n:Int)≤57:=Om;simp only[go_sem,qY,BK,BL,c,d];exact fin _ _ rfl (by simp[a,b])
  ·have d:¬ (n:Int)≤57:=Om;simp only[go_sem,qY,BK,BL,c,d];exact fin _ _ rfl (by simp[a,b])
 ·have c:¬ (n:Int)≥48:=Om;simp only[go_sem,qY,BK,BL,c];exact fin _ _ rfl (by simp[a])
theorem Al {C:Ctx} (p:∀ n:Nat,aH C 126 [.int .u8 n] .nil (aF (.bool (eO n)))) (q:∀ n:Nat,aH C 124 [.int .u8 n] .nil (aF (.bool (kK n)))) (n:Nat) :
  CW.wp C (aV QI.res (aF (.bool (fL n)))) (PF.args [.int .u8 n]) .nil:=by
 have fin:∀ (F:PF) (b:Bool),F 2=some (.bool b)→b=fL n→aV QI.res (aF (.bool (fL n))) .ret F .nil:=by intro F b h e;subst e;refine aQ (.inr rfl) (vs:=[.bool (fL n)]) (by simp only[go_sem,QI,h]) rfl
 simp only[go_sem,CW,Am,An];refine aA (p n) rfl ?_;cases l:eO n with
 | true =>simp only[go_sem];exact fin _ _ rfl (by simp[fL,l])
 | false =>
  simp only[go_sem];refine aA (q n) rfl ?_;cases i:kK n with
  | true =>simp only[go_sem];exact fin _ _ rfl (by simp[fL,i])
  | false =>
   by_cases c:n=45
   ·simp only[go_sem,bL (Om:(n:Int)=45)];exact fin _ _ rfl (by simp[fL,c])
   ·by_cases d:n=46
    ·simp only[go_sem,bF (Om:(n:Int)≠45),bL (Om:(n:Int)=46)];exact fin _ _ rfl (by simp[fL,d])
    ·simp only[go_sem,bF (Om:(n:Int)≠45),bF (Om:(n:Int)≠46)];exact fin _ _ rfl (by simp[fL,c,d,l,i])
def isName (s:List UInt8):Bool:=match s with
 | []=>false
 | c::_=>decide (s.length≤16)&&eO c.toNat&&s.all fun c=>fL c.toNat
theorem pB {α:Type} {p:α→Bool} {l:List α} {k:Nat} (c:k<l.length) (h:(l.take k).all p=true) (d:p l[k]=true):(l.take (k+1)).all p=true:=by
 rw[a9E c,List.all_append,h]; simp[d]
theorem pC {α:Type} {p:α→Bool} {l:List α} {k:Nat} (c:k<l.length) (d:p l[k]=false):l.all p=false:=by
 rw[List.all_eq_false];exact⟨l[k],a7J c,by simp[d]⟩
def N0 (s:List UInt8) (k:Nat):PF:=((PF.nil.set 0 (.str s)).set 3 (.int .i64 k))
theorem N2 {C:Ctx} (x:∀ n:Nat,aH C 126 [.int .u8 n] .nil (aF (.bool (eO n)))) (y:∀ n:Nat,aH C 125 [.int .u8 n] .nil (aF (.bool (fL n)))) (s:List UInt8) :
  sS.wp C (aV j7.res (aF (.bool (isName s)))) (PF.args [.str s]) .nil:=by
 have fin:∀ (F:PF) (b:Bool),F 2=some (.bool b)→b=isName s→aV j7.res (aF (.bool (isName s))) .ret F .nil:=by intro F b h e;subst e;refine aQ (.inr rfl) (vs:=[.bool (isName s)]) (by simp only[go_sem,j7,h]) rfl
 cases s with
 | nil =>simp only[go_sem,sS,IS,IT,IU];exact fin _ _ rfl rfl
 | cons c t =>
  have B:(c::t)[0]?=some c:=rfl;have p:(c::t==[])=false:=rfl;have l:isName (c::t)=(decide ((c::t).length≤16)&&eO c.toNat&&(c::t).all fun c=>fL c.toNat):=rfl;generalize c::t=s at *
  by_cases w:s.length≤16
  ·have i:¬ (s.length:Int)>16:=Om;rw[decide_eq_true w,a7R] at l;simp only[go_sem,sS,IS,IT,p,i,B,a8W];refine aA (x c.toNat) rfl ?_;cases u:eO c.toNat with
   | false =>simp only[go_sem,a7Y,IU];exact fin _ _ rfl (by rw[l,u]; rfl)
   | true =>
    rw[u,a7R] at l;simp only[go_sem,a7L,N3];refine wp_loop (α:=Nat) (fun k=>N0 s k) (fun _=>.nil) (fun k=>k≤s.length∧(s.take k).all (fun c=>fL c.toNat)=true) (fun k=>s.length-k) 0 ⟨a7N _,rfl⟩ ?_ a_ ?_
    ·unfold N0;exact Lq
    rintro k ⟨E,q⟩;simp only[go_sem,N1,N4,N0];by_cases hlt:k<s.length
    ·have d:(k:Int)<(s.length:Nat):=Om;have A:s[k]?=some s[k]:=a7U hlt;simp only[go_sem,d,N5,A,a8W];refine aA (y (s[k]).toNat) rfl ?_;cases hi:fL (s[k]).toNat with
     | false =>simp only[go_sem,a7Y,N6];refine fin _ false rfl ?_;rw[l,pC hlt hi]
     | true =>simp only[go_sem,a7L,N7,wZz k];refine aD (k+1) ⟨hlt,a7W.1 (pB hlt q hi)⟩ Om ?_ a_;exact Lq
    ·have d:¬ (k:Int)<(s.length:Nat):=Om;simp only[go_sem,d,N8];have:k=s.length:=Om;subst this;rw[a8C (a7M _)] at q;exact fin _ true rfl (by rw[l,q])
  ·have i:(s.length:Int)>16:=Om;simp only[go_sem,sS,IS,IT,IU,p,i];exact fin _ _ rfl (by rw[l,decide_eq_false w]; rfl)
end Go.PM
