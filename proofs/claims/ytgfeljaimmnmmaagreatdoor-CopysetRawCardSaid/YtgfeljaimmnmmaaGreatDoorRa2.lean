/-
  Texts of ours, joined: Pm21 Pm22 Pm23 Pm24 Pm25 Pm26 L11Code NaCode Pm27 Pm29 Pm30 Pm31 NaPlain NaW1 NaW2 NaW3 NaW4 NaW5 NaW6 NaW7 NaW8 NaW9 NaKn NaW10 NaW11 Pm32 NaW12 NaW13 NaW14 NaW15 FrCode FrW1 FrW2 FrW3 FrW4 FlCode Pm. No condition.
-/
import Derived.Test.YtgfeljaimmnmmaaGreatDoorRa1
import Derived.ProofKit
import Derived.OpenShut
set_option linter.unusedSimpArgs false
set_option linter.unusedVariables false
open Nat renaming reduceEqDiff → γ, reduceAdd → δ, reduceSub → ε, reduceMul → ζ, reduceLT → η, reduceLeDiff → θ, reduceBEq → τ
open Int renaming reduceLT → ι, reduceLE → κ, reduceEq → μ, reduceToNat → ν, reduceAdd → ξ, reduceNeg → ο, reduceBEq → ρ, reduceBNe → σ
open List renaming reduceReplicate → υ
open List renaming length_map → a6K, range → a6L, getElem_mem → a6M, replicate → a6N, length_append → a6T, mem_cons → a6V, length_singleton → a6X, getElem?_eq_getElem → a6Y, all_eq_true → a7B, getD_eq_getElem?_getD → a7C, length_take → a7D, take_of_length_le → a7F, not_mem_nil → a7G, getElem?_map → a7J, map_append → a7L, take_length → a7M, mem_map → a7N, mem_range → a7P, getElem?_eq_some_iff → a7T, append_assoc → a7V, drop_zero → a7W, getElem?_eq_none → a7Z, map_cons → a8B, length_cons → a8D, take_succ_eq_append_getElem → a8E, append_nil → a8H, drop_eq_getElem_cons → a8I, mem_append → a8J, range' → a8K, Sublist → a8L, length_set → a8M, getElem_map → a8P, length_drop → a8Q, map_nil → a8W, getElem?_append_left → a8Z, mem_singleton → a9A, getElem?_append_right → a9B, getElem_of_mem → a9C, mem_of_getElem? → a9D, length_nil → a9F, nodup_append → a9G, set_append_right → a9H, take_append_drop → a9I, ext_getElem → a9R, range_succ → a9U, all_append → a9X, getElem?_take → a9Y, drop_of_length_le → baE, length_filter_le → baF
open Nat renaming gcd → a6O, zero_le → a6Q, le_refl → a6S, mul_add → a6Z, lt_or_ge → a7H, zero_add → a7I, mul_assoc → a7K, mul_comm → a7O, add_mul → a7Q, mul_le_mul_right → a7R, le_trans → a7U, mod_eq_of_lt → a7X, mod_lt → a8A, pow_succ → a8C, add_zero → a8N, eq_zero_or_pos → a8R, min_eq_left → a8S, mul_le_mul_left → a8T, pos_of_ne_zero → a8U, add_assoc → a8X, pow_pos → a9E, pow_le_pow_right → a9J, div_lt_iff_lt_mul → a9M, sub_self → a9N, succ_mul → a9O, div_add_mod → a9Z, div_eq_of_lt → baA, div_le_self → baB
open Bool renaming not_true → a6P, false_and → a6R, true_and → a6W, not_false → a7A, and_eq_true → a7E, and_false → a7S, and_true → a8V, and_assoc → a9L, and_self → a9Q, false_eq_true → a9T
open Option renaming map_eq_some_iff → a6U, map_some → a7Y, some → a8Y, getD_some → a9K, bind_some → a9V, bind_eq_some_iff → baC
open Array renaming replicate → a8F, length_toList → a9P, getElem?_eq_some_iff → a9S, getElem?_eq_getElem → a9W, getD_eq_getD_getElem? → baD
open Int renaming toNat_natCast → a8G, tdiv → a8O
namespace Go.PM
open Go
attribute [go_sem] List.getElem?_cons_succ List.getElem?_cons_zero and_self and_true true_and or_true true_or or_false false_or a6P a7A a7Y a9V if_true if_false a8D a9F List.drop_succ_cons a7W List.take_succ_cons List.take_zero a8B a8W a8Y.injEq PV.bool.injEq PV.int.injEq aO PV.bin
@[go_sem] theorem aXV (k:IntKind) (a b:Int):kO .add k a b=some (.int k (k.wrap (a+b))):=(rfl)
@[go_sem] theorem aYF (k:IntKind) (a b:Int):kO .sub k a b=some (.int k (k.wrap (a-b))):=(rfl)
@[go_sem] theorem aYB (k:IntKind) (a b:Int):kO .mul k a b=some (.int k (k.wrap (a*b))):=(rfl)
@[go_sem] theorem aYD (k:IntKind) (a b:Int):kO .quo k a b=if b=0 then none else some (.int k (k.wrap (a.tdiv b))):=(rfl)
@[go_sem] theorem aYE (k:IntKind) (a b:Int):kO .rem k a b=if b=0 then none else some (.int k (a.tmod b)):=(rfl)
@[go_sem] theorem aXW (k:IntKind) (a b:Int):kO .eql k a b=some (.bool (a==b)):=(rfl)
@[go_sem] theorem aYC (k:IntKind) (a b:Int):kO .neq k a b=some (.bool (a != b)):=(rfl)
@[go_sem] theorem aYA (k:IntKind) (a b:Int):kO .lss k a b=some (.bool (decide (a<b))):=(rfl)
@[go_sem] theorem aXZ (k:IntKind) (a b:Int):kO .leq k a b=some (.bool (decide (a≤b))):=(rfl)
@[go_sem] theorem aXY (k:IntKind) (a b:Int):kO .gtr k a b=some (.bool (decide (a>b))):=(rfl)
@[go_sem] theorem aXX (k:IntKind) (a b:Int):kO .geq k a b=some (.bool (decide (a≥b))):=(rfl)
section
variable {C:Ctx} {K:bQ} {F:PF} {H:PH}
@[go_sem] theorem a3B:aC.wp C .skip K F H=K .normal F H:=(rfl)
@[go_sem] theorem a0A (ops:List aU):aC.wp C (.region ops) K F H=wpOps C ops (K .normal) F H:=(rfl)
@[go_sem] theorem ww (a b:aC):aC.wp C (.seq a b) K F H=a.wp C (fV C (b.wp C) K) F H:=(rfl)
@[go_sem] theorem a1L (id:Nat) (c:aC):aC.wp C (.block id c) K F H=c.wp C (eP id K) F H:=(rfl)
@[go_sem] theorem a3A (id:Nat):aC.wp C (.exit id) K F H=K (.exit id) F H:=(rfl)
@[go_sem] theorem a3N:aC.wp C .ret K F H=K .ret F H:=(rfl)
def UF (C:Ctx) (v:Option PV) (a b:aC) (K:bQ) (F:PF) (H:PH):Prop :=
 match v with
 | some (.bool t)=>if t then a.wp C K F H else b.wp C K F H
 | _=>False
@[go_sem] theorem aMG (c:aP) (a b:aC):aC.wp C (.cond c a b) K F H=UF C (c.ev F) a b K F H:=(rfl)
@[go_sem] theorem aYK (a b:aC):UF C (some (.bool true)) a b K F H=a.wp C K F H:=(rfl)
@[go_sem] theorem aWW (a b:aC):UF C (some (.bool false)) a b K F H=b.wp C K F H:=(rfl)
theorem aDM {t:Bool} {a b:aC} (c:t=true→a.wp C K F H) (d:t=false→b.wp C K F H):UF C (some (.bool t)) a b K F H:=by
 cases t
 ·exact d rfl
 ·exact c rfl
@[go_sem] theorem aXE (w:bQ→PF→PH→Prop):fV C w K .normal F H=w K F H:=(rfl)
@[go_sem] theorem aVT (w:bQ→PF→PH→Prop):fV C w K .normal=w K:=(rfl)
@[go_sem] theorem a0Y (w:bQ→PF→PH→Prop) (id:Nat):fV C w K (.exit id)=K (.exit id):=(rfl)
@[go_sem] theorem a2Q (w:bQ→PF→PH→Prop):fV C w K .ret=K .ret:=(rfl)
@[go_sem] theorem aTN (id:Nat):eP id K .normal=K .normal:=(rfl)
@[go_sem] theorem aYI (id:Nat):eP id K .ret=K .ret:=(rfl)
@[go_sem] theorem CC (id c:Nat):eP id K (.exit c) F H=if c=id then K .normal F H else K (.exit c) F H:=(rfl)
@[go_sem] theorem aZY (K:PF→PH→Prop):wpOps C [] K F H=K F H:=(rfl)
@[go_sem] theorem aZZ (d:Option Nat) (op:POp) (rest:List aU) (K:PF→PH→Prop):wpOps C (⟨d,op,none⟩::rest) K F H=wpOp C op d (wpOps C rest K) F H:=(rfl)
def vN (C:Ctx) (v:Option PV) (c:Bool) (op:POp) (d:Option Nat) (rest:List aU) (K:PF→PH→Prop) (F:PF) (H:PH):Prop :=
 match v with
 | some (.bool b)=>if b=c then wpOp C op d (wpOps C rest K) F H else wpOps C rest K (F.put d (.tup [])) H
 | some (.tup [])=>wpOps C rest K (F.put d (.tup [])) H
 | _=>False
@[go_sem] theorem W1 (d:Option Nat) (op:POp) (t:Nat) (c:Bool) (rest:List aU) (K:PF→PH→Prop) :
  wpOps C (⟨d,op,some (t,c)⟩::rest) K F H=vN C (F t) c op d rest K F H:=(rfl)
@[go_sem] theorem a0U (op:POp) (d:Option Nat) (rest:List aU) (K:PF→PH→Prop):vN C (some (.bool true)) true op d rest K F H=wpOp C op d (wpOps C rest K) F H:=(rfl)
@[go_sem] theorem a0R (op:POp) (d:Option Nat) (rest:List aU) (K:PF→PH→Prop):vN C (some (.bool false)) false op d rest K F H=wpOp C op d (wpOps C rest K) F H:=(rfl)
@[go_sem] theorem a0T (op:POp) (d:Option Nat) (rest:List aU) (K:PF→PH→Prop):vN C (some (.bool true)) false op d rest K F H=wpOps C rest K (F.put d (.tup [])) H:=(rfl)
@[go_sem] theorem a0S (op:POp) (d:Option Nat) (rest:List aU) (K:PF→PH→Prop):vN C (some (.bool false)) true op d rest K F H=wpOps C rest K (F.put d (.tup [])) H:=(rfl)
@[go_sem] theorem aXB (c:Bool) (op:POp) (d:Option Nat) (rest:List aU) (K:PF→PH→Prop):vN C (some (.tup [])) c op d rest K F H=wpOps C rest K (F.put d (.tup [])) H:=(rfl)
@[go_sem] theorem a2M (d:Nat) (v:PV):F.put (some d) v=F.set d v:=(rfl)
@[go_sem] theorem a2L (v:PV):F.put none v=F:=(rfl)
@[go_sem] theorem jS (i j:Nat) (v:PV):(F.set i v) j=if j=i then some v else F j:=(rfl)
@[go_sem] theorem args_at (vs:List PV) (i:Nat):PF.args vs i=vs[i]?:=(rfl)
@[go_sem] theorem a3S (i:Nat):PF.nil i=none:=(rfl)
@[go_sem] theorem io (t:Nat):(aP.tmp t).ev F=F t:=(rfl)
@[go_sem] theorem a2C (v:PV):(aP.const v).ev F=some v:=(rfl)
@[go_sem] theorem aT (i j:Nat) (x:cC):(H.set i x) j=if j=i then some x else H j:=(rfl)
@[go_sem] theorem UP (i:Nat):PH.nil i=none:=(rfl)
@[go_sem] theorem UI:aP.evs F []=some []:=(rfl)
@[go_sem] theorem zD (x:aP) (xs:List aP):aP.evs F (x::xs)=(match x.ev F,aP.evs F xs with | some v,some vs=>some (v::vs) | _,_=>none):=(rfl)
theorem hC {i j:Nat} {x:cC}:(H.set i x) j=none↔j≠i∧H j=none:=by
 rw[aT];split<;>simp_all
@[go_sem] theorem aXF (v:PV) (d:Option Nat) (K:PF→PH→Prop):bW (some v) d K F H=K (F.put d v) H:=by
 simp[bW]
theorem aR {c:Nat→PV} {x:cC} {d:Option Nat} {K:PF→PH→Prop} (h:∀ o,H o=none→K (F.put d (c o)) (H.set o x)):mQ (some (c,x)) d K F H:=⟨c,x,rfl,h⟩
@[go_sem] theorem a3L (x:aP) (d:Option Nat) (K:PF→PH→Prop):wpOp C (.mv x) d K F H=bW (aO (.mv x) F H) d K F H:=(rfl)
@[go_sem] theorem a1K (x:aP) (d:Option Nat) (K:PF→PH→Prop):wpOp C (.same x) d K F H=bW (aO (.same x) F H) d K F H:=(rfl)
@[go_sem] theorem a1J (c a b:aP) (d:Option Nat) (K:PF→PH→Prop):wpOp C (.pick c a b) d K F H=bW (aO (.pick c a b) F H) d K F H:=(rfl)
@[go_sem] theorem a2V (o:BinOp) (x y:aP) (d:Option Nat) (K:PF→PH→Prop):wpOp C (.bin o x y) d K F H=bW (aO (.bin o x y) F H) d K F H:=(rfl)
@[go_sem] theorem a2X (n:Bool) (x y:aP) (d:Option Nat) (K:PF→PH→Prop):wpOp C (.eqb n x y) d K F H=bW (aO (.eqb n x y) F H) d K F H:=(rfl)
@[go_sem] theorem a2Y (n:Bool) (c:List Sc) (x y:aP) (d:Option Nat) (K:PF→PH→Prop):wpOp C (.eqs n c x y) d K F H=bW (aO (.eqs n c x y) F H) d K F H:=(rfl)
@[go_sem] theorem a3M (o:UnOp) (x:aP) (d:Option Nat) (K:PF→PH→Prop):wpOp C (.un o x) d K F H=bW (aO (.un o x) F H) d K F H:=(rfl)
@[go_sem] theorem a1C (k:IntKind) (x:aP) (d:Option Nat) (K:PF→PH→Prop):wpOp C (.conv k x) d K F H=bW (aO (.conv k x) F H) d K F H:=(rfl)
@[go_sem] theorem aZR (z:List PV) (ps:List (Nat × Nat × aP)) (d:Option Nat) (K:PF→PH→Prop):wpOp C (.build z ps) d K F H=bW (aO (.build z ps) F H) d K F H:=(rfl)
@[go_sem] theorem a1H (n:Option Nat) (p:aP) (d:Option Nat) (K:PF→PH→Prop):wpOp C (.load n p) d K F H=bW (aO (.load n p) F H) d K F H:=(rfl)
@[go_sem] theorem aXQ (x:aP) (d:Option Nat) (K:PF→PH→Prop):wpOp C (.a5M x) d K F H=bW (aO (.a5M x) F H) d K F H:=(rfl)
@[go_sem] theorem aXJ (c:Nat) (x:aP) (d:Option Nat) (K:PF→PH→Prop):wpOp C (.a6C c x) d K F H=bW (aO (.a6C c x) F H) d K F H:=(rfl)
@[go_sem] theorem aZT (c:Nat) (n:Option Nat) (x:aP) (d:Option Nat) (K:PF→PH→Prop):wpOp C (.field c n x) d K F H=bW (aO (.field c n x) F H) d K F H:=(rfl)
@[go_sem] theorem a1E (s:Nat) (x i:aP) (d:Option Nat) (K:PF→PH→Prop):wpOp C (.a5Q s x i) d K F H=bW (aO (.a5Q s x i) F H) d K F H:=(rfl)
@[go_sem] theorem a1D (n s:Nat) (x i:aP) (d:Option Nat) (K:PF→PH→Prop):wpOp C (.idxA n s x i) d K F H=bW (aO (.idxA n s x i) F H) d K F H:=(rfl)
@[go_sem] theorem a1F (n s:Nat) (g:Bool) (x i:aP) (d:Option Nat) (K:PF→PH→Prop):wpOp C (.idxV n s g x i) d K F H=bW (aO (.idxV n s g x i) F H) d K F H:=(rfl)
@[go_sem] theorem aXK (x i:aP) (d:Option Nat) (K:PF→PH→Prop):wpOp C (.a6A x i) d K F H=bW (aO (.a6A x i) F H) d K F H:=(rfl)
@[go_sem] theorem aZW (s:Nat) (x:aP) (lo hi mx:Option aP) (d:Option Nat) (K:PF→PH→Prop):wpOp C (.slice s x lo hi mx) d K F H=bW (aO (.slice s x lo hi mx) F H) d K F H:=(rfl)
@[go_sem] theorem aXR (n s:Nat) (x:aP) (lo hi mx:Option aP) (d:Option Nat) (K:PF→PH→Prop):wpOp C (.sliceA n s x lo hi mx) d K F H=bW (aO (.sliceA n s x lo hi mx) F H) d K F H:=(rfl)
@[go_sem] theorem aTQ (x:aP) (lo hi:Option aP) (d:Option Nat) (K:PF→PH→Prop):wpOp C (.a5W x lo hi) d K F H=bW (aO (.a5W x lo hi) F H) d K F H:=(rfl)
@[go_sem] theorem a0V:PV.sL .aB=some (.int .i64 0):=(rfl)
@[go_sem] theorem a3K (s:Nat) (rows:List (List PV)):PV.sL (.sl s rows)=some (.int .i64 rows.length):=(rfl)
@[go_sem] theorem a2J (o s c n:Nat):PV.sL (.osl o s c n)=some (.int .i64 n):=(rfl)
@[go_sem] theorem a2Z (x:aP) (d:Option Nat) (K:PF→PH→Prop):wpOp C (.len x) d K F H=bW (aO (.len x) F H) d K F H:=(rfl)
@[go_sem] theorem aXM (x:aP) (d:Option Nat) (K:PF→PH→Prop):wpOp C (.a5Z x) d K F H=bW (aO (.a5Z x) F H) d K F H:=(rfl)
@[go_sem] theorem a1G (x:aP) (d:Option Nat) (K:PF→PH→Prop):wpOp C (.lenM x) d K F H=bW (aO (.lenM x) F H) d K F H:=(rfl)
@[go_sem] theorem aZU (n:Bool) (x:aP) (d:Option Nat) (K:PF→PH→Prop):wpOp C (.isNil n x) d K F H=bW (aO (.isNil n x) F H) d K F H:=(rfl)
@[go_sem] theorem aXD:PV.FJ .aB=some true:=(rfl)
@[go_sem] theorem aYZ (o s c len:Nat):PV.FJ (.osl o s c len)=some false:=(rfl)
@[go_sem] theorem aXC (s:Nat) (r:List PV) (rs:List (List PV)):PV.FJ (.sl s (r::rs))=some false:=(rfl)
@[go_sem] theorem aXI (x:aP) (d:Option Nat) (K:PF→PH→Prop):wpOp C (.a6J x) d K F H=bW (aO (.a6J x) F H) d K F H:=(rfl)
@[go_sem] theorem aWP (x:aP) (i:Nat) (d:Option Nat) (K:PF→PH→Prop):wpOp C (.extract x i) d K F H=bW (aO (.extract x i) F H) d K F H:=(rfl)
@[go_sem] theorem aXP (m:Bool) (x y:aP) (d:Option Nat) (K:PF→PH→Prop):wpOp C (.a5U m x y) d K F H=bW (aO (.a5U m x y) F H) d K F H:=(rfl)
@[go_sem] theorem a1I (n:Nat) (cs:List aP) (d:Option Nat) (K:PF→PH→Prop):wpOp C (.mkfn n cs) d K F H=bW (aO (.mkfn n cs) F H) d K F H:=(rfl)
@[go_sem] theorem aXN (sh:MSh) (z:PV) (x k:aP) (ok:Bool) (d:Option Nat) (K:PF→PH→Prop):wpOp C (.lookup sh z x k ok) d K F H=bW (aO (.lookup sh z x k ok) F H) d K F H:=(rfl)
@[go_sem] theorem aTE (x:aP) (d:Option Nat) (K:PF→PH→Prop):wpOp C (.a5N x) d K F H=bW (aO (.a5N x) F H) d K F H:=(rfl)
@[go_sem] theorem a1A (x:aP) (d:Option Nat) (K:PF→PH→Prop):wpOp C (.box true x) d K F H=bW (aO (.box true x) F H) d K F H:=(rfl)
@[go_sem] theorem aWO (s l:Nat) (z:List PV) (ps:List (Nat × aP)) (d:Option Nat) (K:PF→PH→Prop):wpOp C (.a5F true s l z ps) d K F H=bW (aO (.a5F true s l z ps) F H) d K F H:=(rfl)
@[go_sem] theorem aZQ (cs:List PV) (d:Option Nat) (K:PF→PH→Prop):wpOp C (.alloc cs) d K F H=mQ (cX (.alloc cs) F) d K F H:=(rfl)
@[go_sem] theorem aWQ (s b:Nat) (z:List PV) (l c:aP) (d:Option Nat) (K:PF→PH→Prop):wpOp C (.a5H s b z l c) d K F H=mQ (cX (.a5H s b z l c) F) d K F H:=(rfl)
@[go_sem] theorem aZV (sh:MSh) (d:Option Nat) (K:PF→PH→Prop):wpOp C (.a6F sh) d K F H=mQ (cX (.a6F sh) F) d K F H:=(rfl)
@[go_sem] theorem a2W (x:aP) (d:Option Nat) (K:PF→PH→Prop):wpOp C (.box false x) d K F H=mQ (cX (.box false x) F) d K F H:=(rfl)
@[go_sem] theorem aXH (s l:Nat) (z:List PV) (ps:List (Nat × aP)) (d:Option Nat) (K:PF→PH→Prop):wpOp C (.a5F false s l z ps) d K F H=mQ (cX (.a5F false s l z ps) F) d K F H:=(rfl)
@[go_sem] theorem aZX (n:Nat) (p x:aP) (d:Option Nat) (K:PF→PH→Prop):wpOp C (.store n p x) d K F H=bZ (.store n p x) F H (fun r H'=>K (F.put d r) H'):=(rfl)
@[go_sem] theorem aXG (s b:Nat) (x y:aP) (d:Option Nat) (K:PF→PH→Prop):wpOp C (.append s b x y) d K F H=bZ (.append s b x y) F H (fun r H'=>K (F.put d r) H'):=(rfl)
@[go_sem] theorem aXO (sh:MSh) (x k v:aP) (d:Option Nat) (K:PF→PH→Prop):wpOp C (.a5R sh x k v) d K F H=bZ (.a5R sh x k v) F H (fun r H'=>K (F.put d r) H'):=(rfl)
@[go_sem] theorem aXL (sh:MSh) (x k v:aP) (d:Option Nat) (K:PF→PH→Prop):wpOp C (.insert sh x k v) d K F H=bZ (.insert sh x k v) F H (fun r H'=>K (F.put d r) H'):=(rfl)
@[go_sem] theorem a1B (n:Nat) (c:List aP) (d:Option Nat) (K:PF→PH→Prop):wpOp C (.call n c) d K F H=hZ C n c [] d K F H:=(rfl)
@[go_sem] theorem aZS (x:aP) (c:List aP) (d:Option Nat) (K:PF→PH→Prop):wpOp C (.a6B x c) d K F H=uN C (x.ev F) c d K F H:=(rfl)
@[go_sem] theorem aZP (n:Nat) (cs:List PV) (c:List aP) (d:Option Nat) (K:PF→PH→Prop):uN C (some (.fn n cs)) c d K F H=hZ C n c cs d K F H:=(rfl)
theorem PF.nil_le:PF.nil.le F:=fun _ _ h=>(by cases h)
abbrev c_:=@PF.nil_le
theorem PF.aJ {i:Nat} {v:PV} {G:PF} (d:F.le G) (l:G i=some v):(F.set i v).le G:=by
 intro j u c;rw[jS] at c;split at c
 ·rename_i e; subst e; cases c; exact l
 ·exact d _ _ c
abbrev d_:=@PF.aJ
theorem PF.le_refl:F.le F:=fun _ _ h=>h
theorem PH.nil_le:PH.nil.le H:=fun _ _ h=>(by cases h)
abbrev a_:=@PH.nil_le
theorem PH.aJ {i:Nat} {x:cC} {G:PH} (d:H.le G) (l:G i=some x):(H.set i x).le G:=by
 intro j u c;rw[aT] at c;split at c
 ·rename_i e; subst e; cases c; exact l
 ·exact d _ _ c
theorem PH.le_refl:H.le H:=fun _ _ h=>h
abbrev b_:=@PH.le_refl
theorem wp_loop {c:aC} {α:Type} (d:α→PF) (Hs:α→PH) (e:α→Prop) (m:α→Nat) (i:α) (l:e i) (p:(d i).le F) (q:(Hs i).le H)
  (u:∀ a,e a→c.wp C (fB d Hs e m (m a) K) (d a) (Hs a)):aC.wp C (.loop c) K F H :=
 ⟨α,d,Hs,e,m,i,F,H,.refl F H,l,p,q,u⟩
theorem aD {α:Type} {c:α→PF} {Hs:α→PH} {d:α→Prop} {m:α→Nat} {n:Nat} (a:α) (e:d a) (p:m a<n) (i:(c a).le F) (l:(Hs a).le H):fB c Hs d m n K .normal F H :=
 ⟨a,F,H,.refl F H,e,p,i,l⟩
@[go_sem] theorem aZC {α:Type} {c:α→PF} {Hs:α→PH} {d:α→Prop} {m:α→Nat} {n:Nat} (id:Nat):fB c Hs d m n K (.exit id)=K (.exit id):=(rfl)
@[go_sem] theorem a0W {α:Type} {c:α→PF} {Hs:α→PH} {d:α→Prop} {m:α→Nat} {n:Nat}:fB c Hs d m n K .ret=K .ret:=(rfl)
def aF (v:PV) (r:PV) (H:PH):Prop:=r=v∧H=PH.nil
theorem PH.zT:H.over .nil .nil=H:=PH.ext fun o=>rfl
theorem W0 {name:Nat} {vs cs:List PV} {v:PV} {args:List aP} {d:Option Nat} {K:PF→PH→Prop} (h:aG C name (vs++cs) .nil (aF v)) (c:aP.evs F args=some vs)
  (e:K (F.put d v) H):hZ C name args cs d K F H:=by
 refine .inl ⟨vs++cs,.nil,_,by rw[c]; rfl,a_,h,?_⟩;rintro r H' ⟨rfl,rfl⟩ _;rw[PH.zT];exact e
theorem aA {name:Nat} {vs:List PV} {v:PV} {args:List aP} {d:Option Nat} {K:PF→PH→Prop} (h:aG C name vs .nil (aF v)) (c:aP.evs F args=some vs)
  (e:K (F.put d v) H):hZ C name args [] d K F H:=W0 (cs:=[]) (by rw[a8H]; exact h) c e
theorem aQ {res:List dQ} {vs:List PV} {v:PV} {e:jZ} (l:e=.normal∨e=.ret) (h:dQ.evs F H res=some vs) (p:bO vs=v):aV res (aF v) e F H:=by
 have c:∃ vs,dQ.evs F H res=some vs∧∃ d i H2,iU (PF.nil.set 0 (bO vs)) H d i∧H2.le i∧∃ u,d 0=some u∧aF v u H2 :=
  ⟨vs,h,_,H,.nil,.refl _ _,a_,v,by rw[jS,if_pos rfl,p],rfl,rfl⟩
 rcases l with rfl | rfl<;>exact c
@[go_sem] theorem oG:dQ.evs F H []=some []:=(rfl)
@[go_sem] theorem jU (x:dQ) (xs:List dQ):dQ.evs F H (x::xs)=(match x.ev F H,dQ.evs F H xs with | some v,some vs=>some (v::vs) | _,_=>none):=(rfl)
@[go_sem] theorem mX (t:Nat):dQ.ev F H (.tmp t)=F t:=(rfl)
@[go_sem] theorem a2O (t:Nat):dQ.ev F H (.cell t none)=(match F t with | some p=>(match loadCells H p 1 with | some [v]=>some v | _=>none) | none=>none):=(rfl)
@[go_sem] theorem a0X (t k:Nat):dQ.ev F H (.cell t (some k))=(match F t with | some p=>(loadCells H p k).map .agg | none=>none):=(rfl)
end
section
variable {C:Ctx} {K:bQ} {F:PF} {H Hs:PH} {S:Spec}
theorem bV {ops:List (aU × Bool)} (Hs:PH) (S:Spec) (c:Hs.le H) (h:wpD C Hs S ops (K .normal) F H):aC.wp C (.draw ops) K F H:=⟨Hs,S,c,h⟩
def eM:Spec:=fun _ _=>none
def dOp (C:Ctx) (Hs:PH) (S:Spec) (st:Bool) (op:POp) (d:Option Nat) (K:PF→PH→Prop) (F:PF) (H:PH):Prop:=(op.kind F).run C Hs S st (fun v H'=>K (F.put d v) H') H
@[go_sem] theorem a2T (K:PF→PH→Prop):wpD C Hs S [] K F H=K F H:=(rfl)
@[go_sem] theorem a2U (d:Option Nat) (op:POp) (st:Bool) (rest:List (aU × Bool)) (K:PF→PH→Prop):wpD C Hs S ((⟨d,op,none⟩,st)::rest) K F H=dOp C Hs S st op d (wpD C Hs S rest K) F H:=(rfl)
def zJ (C:Ctx) (Hs:PH) (S:Spec) (v:Option PV) (c st:Bool) (op:POp) (d:Option Nat) (rest:List (aU × Bool)) (K:PF→PH→Prop) (F:PF) (H:PH):Prop :=
 match v with
 | some (.bool b)=>if b=c then dOp C Hs S st op d (wpD C Hs S rest K) F H else wpD C Hs S rest K (F.put d (.tup [])) H
 | some (.tup [])=>wpD C Hs S rest K (F.put d (.tup [])) H
 | _=>False
@[go_sem] theorem a0Z (d:Option Nat) (op:POp) (t:Nat) (c st:Bool) (rest:List (aU × Bool)) (K:PF→PH→Prop) :
  wpD C Hs S ((⟨d,op,some (t,c)⟩,st)::rest) K F H=zJ C Hs S (F t) c st op d rest K F H:=by
 have i:wpD C Hs S ((⟨d,op,some (t,c)⟩,st)::rest) K F H=((⟨d,op,some (t,c)⟩:aU).kind F).run C Hs S st (fun v H'=>wpD C Hs S rest K (F.put d v) H') H:=(rfl);rw[i];unfold aU.kind zJ;simp only;cases F t with
 | none=>rfl
 | some v =>
  cases v
  case bool b =>
   simp only;by_cases e:b=c
   ·rw[if_pos e,if_pos e]; rfl
   ·rw[if_neg e,if_neg e]; simp[Kind.run]
  case tup vs=>cases vs<;>simp[Kind.run]
  all_goals rfl
@[go_sem] theorem a0Q (op:POp) (st:Bool) (d:Option Nat) (rest:List (aU × Bool)) (K:PF→PH→Prop):zJ C Hs S (some (.bool true)) true st op d rest K F H=dOp C Hs S st op d (wpD C Hs S rest K) F H:=(rfl)
@[go_sem] theorem a0N (op:POp) (st:Bool) (d:Option Nat) (rest:List (aU × Bool)) (K:PF→PH→Prop):zJ C Hs S (some (.bool false)) false st op d rest K F H=dOp C Hs S st op d (wpD C Hs S rest K) F H:=(rfl)
@[go_sem] theorem a0P (op:POp) (st:Bool) (d:Option Nat) (rest:List (aU × Bool)) (K:PF→PH→Prop):zJ C Hs S (some (.bool true)) false st op d rest K F H=wpD C Hs S rest K (F.put d (.tup [])) H:=(rfl)
@[go_sem] theorem a0O (op:POp) (st:Bool) (d:Option Nat) (rest:List (aU × Bool)) (K:PF→PH→Prop):zJ C Hs S (some (.bool false)) true st op d rest K F H=wpD C Hs S rest K (F.put d (.tup [])) H:=(rfl)
@[go_sem] theorem aXA (c:Bool) (op:POp) (st:Bool) (d:Option Nat) (rest:List (aU × Bool)) (K:PF→PH→Prop):zJ C Hs S (some (.tup [])) c st op d rest K F H=wpD C Hs S rest K (F.put d (.tup [])) H:=(rfl)
@[go_sem] theorem a3O (x:aP) (st:Bool) (d:Option Nat) (K:PF→PH→Prop):dOp C Hs S st (.mv x) d K F H=bW (aO (.mv x) F (if st then Hs else H)) d K F H:=(rfl)
@[go_sem] theorem a2B (x:aP) (st:Bool) (d:Option Nat) (K:PF→PH→Prop):dOp C Hs S st (.same x) d K F H=bW (aO (.same x) F (if st then Hs else H)) d K F H:=(rfl)
@[go_sem] theorem a2A (c a b:aP) (st:Bool) (d:Option Nat) (K:PF→PH→Prop):dOp C Hs S st (.pick c a b) d K F H=bW (aO (.pick c a b) F (if st then Hs else H)) d K F H:=(rfl)
@[go_sem] theorem a3D (o:BinOp) (x y:aP) (st:Bool) (d:Option Nat) (K:PF→PH→Prop):dOp C Hs S st (.bin o x y) d K F H=bW (aO (.bin o x y) F (if st then Hs else H)) d K F H:=(rfl)
@[go_sem] theorem a3F (n:Bool) (x y:aP) (st:Bool) (d:Option Nat) (K:PF→PH→Prop):dOp C Hs S st (.eqb n x y) d K F H=bW (aO (.eqb n x y) F (if st then Hs else H)) d K F H:=(rfl)
@[go_sem] theorem a3G (n:Bool) (c:List Sc) (x y:aP) (st:Bool) (d:Option Nat) (K:PF→PH→Prop):dOp C Hs S st (.eqs n c x y) d K F H=bW (aO (.eqs n c x y) F (if st then Hs else H)) d K F H:=(rfl)
@[go_sem] theorem a3P (o:UnOp) (x:aP) (st:Bool) (d:Option Nat) (K:PF→PH→Prop):dOp C Hs S st (.un o x) d K F H=bW (aO (.un o x) F (if st then Hs else H)) d K F H:=(rfl)
@[go_sem] theorem a1T (k:IntKind) (x:aP) (st:Bool) (d:Option Nat) (K:PF→PH→Prop):dOp C Hs S st (.conv k x) d K F H=bW (aO (.conv k x) F (if st then Hs else H)) d K F H:=(rfl)
@[go_sem] theorem a0E (z:List PV) (ps:List (Nat × Nat × aP)) (st:Bool) (d:Option Nat) (K:PF→PH→Prop):dOp C Hs S st (.build z ps) d K F H=bW (aO (.build z ps) F (if st then Hs else H)) d K F H:=(rfl)
@[go_sem] theorem a1Y (n:Option Nat) (p:aP) (st:Bool) (d:Option Nat) (K:PF→PH→Prop):dOp C Hs S st (.load n p) d K F H=bW (aO (.load n p) F (if st then Hs else H)) d K F H:=(rfl)
@[go_sem] theorem aYU (x:aP) (st:Bool) (d:Option Nat) (K:PF→PH→Prop):dOp C Hs S st (.a5M x) d K F H=bW (aO (.a5M x) F (if st then Hs else H)) d K F H:=(rfl)
@[go_sem] theorem aYO (c:Nat) (x:aP) (st:Bool) (d:Option Nat) (K:PF→PH→Prop):dOp C Hs S st (.a6C c x) d K F H=bW (aO (.a6C c x) F (if st then Hs else H)) d K F H:=(rfl)
@[go_sem] theorem a0F (c:Nat) (n:Option Nat) (x:aP) (st:Bool) (d:Option Nat) (K:PF→PH→Prop):dOp C Hs S st (.field c n x) d K F H=bW (aO (.field c n x) F (if st then Hs else H)) d K F H:=(rfl)
@[go_sem] theorem a1V (s:Nat) (x i:aP) (st:Bool) (d:Option Nat) (K:PF→PH→Prop):dOp C Hs S st (.a5Q s x i) d K F H=bW (aO (.a5Q s x i) F (if st then Hs else H)) d K F H:=(rfl)
@[go_sem] theorem a1U (n s:Nat) (x i:aP) (st:Bool) (d:Option Nat) (K:PF→PH→Prop):dOp C Hs S st (.idxA n s x i) d K F H=bW (aO (.idxA n s x i) F (if st then Hs else H)) d K F H:=(rfl)
@[go_sem] theorem a1W (n s:Nat) (g:Bool) (x i:aP) (st:Bool) (d:Option Nat) (K:PF→PH→Prop):dOp C Hs S st (.idxV n s g x i) d K F H=bW (aO (.idxV n s g x i) F (if st then Hs else H)) d K F H:=(rfl)
@[go_sem] theorem aYP (x i:aP) (st:Bool) (d:Option Nat) (K:PF→PH→Prop):dOp C Hs S st (.a6A x i) d K F H=bW (aO (.a6A x i) F (if st then Hs else H)) d K F H:=(rfl)
@[go_sem] theorem a0I (s:Nat) (x:aP) (lo hi mx:Option aP) (st:Bool) (d:Option Nat) (K:PF→PH→Prop):dOp C Hs S st (.slice s x lo hi mx) d K F H=bW (aO (.slice s x lo hi mx) F (if st then Hs else H)) d K F H:=(rfl)
@[go_sem] theorem aUC (x:aP) (lo hi:Option aP) (st:Bool) (d:Option Nat) (K:PF→PH→Prop):dOp C Hs S st (.a5W x lo hi) d K F H=bW (aO (.a5W x lo hi) F (if st then Hs else H)) d K F H:=(rfl)
@[go_sem] theorem a3H (x:aP) (st:Bool) (d:Option Nat) (K:PF→PH→Prop):dOp C Hs S st (.len x) d K F H=bW (aO (.len x) F (if st then Hs else H)) d K F H:=(rfl)
@[go_sem] theorem aYQ (x:aP) (st:Bool) (d:Option Nat) (K:PF→PH→Prop):dOp C Hs S st (.a5Z x) d K F H=bW (aO (.a5Z x) F (if st then Hs else H)) d K F H:=(rfl)
@[go_sem] theorem a1X (x:aP) (st:Bool) (d:Option Nat) (K:PF→PH→Prop):dOp C Hs S st (.lenM x) d K F H=bW (aO (.lenM x) F (if st then Hs else H)) d K F H:=(rfl)
@[go_sem] theorem a0G (n:Bool) (x:aP) (st:Bool) (d:Option Nat) (K:PF→PH→Prop):dOp C Hs S st (.isNil n x) d K F H=bW (aO (.isNil n x) F (if st then Hs else H)) d K F H:=(rfl)
@[go_sem] theorem aYN (x:aP) (st:Bool) (d:Option Nat) (K:PF→PH→Prop):dOp C Hs S st (.a6J x) d K F H=bW (aO (.a6J x) F (if st then Hs else H)) d K F H:=(rfl)
@[go_sem] theorem aWY (x:aP) (i:Nat) (st:Bool) (d:Option Nat) (K:PF→PH→Prop):dOp C Hs S st (.extract x i) d K F H=bW (aO (.extract x i) F (if st then Hs else H)) d K F H:=(rfl)
@[go_sem] theorem aYT (m:Bool) (x y:aP) (st:Bool) (d:Option Nat) (K:PF→PH→Prop):dOp C Hs S st (.a5U m x y) d K F H=bW (aO (.a5U m x y) F (if st then Hs else H)) d K F H:=(rfl)
@[go_sem] theorem a1Z (n:Nat) (cs:List aP) (st:Bool) (d:Option Nat) (K:PF→PH→Prop):dOp C Hs S st (.mkfn n cs) d K F H=bW (aO (.mkfn n cs) F (if st then Hs else H)) d K F H:=(rfl)
@[go_sem] theorem aYR (sh:MSh) (z:PV) (x k:aP) (ok:Bool) (st:Bool) (d:Option Nat) (K:PF→PH→Prop):dOp C Hs S st (.lookup sh z x k ok) d K F H=bW (aO (.lookup sh z x k ok) F (if st then Hs else H)) d K F H:=(rfl)
@[go_sem] theorem aTP (x:aP) (st:Bool) (d:Option Nat) (K:PF→PH→Prop):dOp C Hs S st (.a5N x) d K F H=bW (aO (.a5N x) F (if st then Hs else H)) d K F H:=(rfl)
@[go_sem] theorem a1S (x:aP) (st:Bool) (d:Option Nat) (K:PF→PH→Prop):dOp C Hs S st (.box true x) d K F H=bW (aO (.box true x) F (if st then Hs else H)) d K F H:=(rfl)
@[go_sem] theorem aWX (s l:Nat) (z:List PV) (ps:List (Nat × aP)) (st:Bool) (d:Option Nat) (K:PF→PH→Prop):dOp C Hs S st (.a5F true s l z ps) d K F H=bW (aO (.a5F true s l z ps) F (if st then Hs else H)) d K F H:=(rfl)
@[go_sem] theorem a0D (cs:List PV) (st:Bool) (d:Option Nat) (K:PF→PH→Prop):dOp C Hs S st (.alloc cs) d K F H=mQ (cX (.alloc cs) F) d K F H:=(rfl)
@[go_sem] theorem aWZ (s b:Nat) (z:List PV) (l c:aP) (st:Bool) (d:Option Nat) (K:PF→PH→Prop):dOp C Hs S st (.a5H s b z l c) d K F H=mQ (cX (.a5H s b z l c) F) d K F H:=(rfl)
@[go_sem] theorem a0H (sh:MSh) (st:Bool) (d:Option Nat) (K:PF→PH→Prop):dOp C Hs S st (.a6F sh) d K F H=mQ (cX (.a6F sh) F) d K F H:=(rfl)
@[go_sem] theorem a3E (x:aP) (st:Bool) (d:Option Nat) (K:PF→PH→Prop):dOp C Hs S st (.box false x) d K F H=mQ (cX (.box false x) F) d K F H:=(rfl)
@[go_sem] theorem aYM (s l:Nat) (z:List PV) (ps:List (Nat × aP)) (st:Bool) (d:Option Nat) (K:PF→PH→Prop):dOp C Hs S st (.a5F false s l z ps) d K F H=mQ (cX (.a5F false s l z ps) F) d K F H:=(rfl)
@[go_sem] theorem a0J (n:Nat) (p x:aP) (st:Bool) (d:Option Nat) (K:PF→PH→Prop):dOp C Hs S st (.store n p x) d K F H=bZ (.store n p x) F H (fun r H'=>Hs.le H'∧K (F.put d r) H'):=(rfl)
@[go_sem] theorem aYL (s b:Nat) (x y:aP) (st:Bool) (d:Option Nat) (K:PF→PH→Prop):dOp C Hs S st (.append s b x y) d K F H=bZ (.append s b x y) F H (fun r H'=>Hs.le H'∧K (F.put d r) H'):=(rfl)
@[go_sem] theorem aYS (sh:MSh) (x k v:aP) (st:Bool) (d:Option Nat) (K:PF→PH→Prop):dOp C Hs S st (.a5R sh x k v) d K F H=bZ (.a5R sh x k v) F H (fun r H'=>Hs.le H'∧K (F.put d r) H'):=(rfl)
theorem JU:H.only []=PH.nil:=PH.ext fun o=>by simp[PH.only,PH.nil]
theorem bM {name:Nat} {vs:List PV} {v:PV} {args:List aP} {st:Bool} {d:Option Nat} {K:PF→PH→Prop} (e:S name vs=some ([],fun _=>aF v)) (h:aG C name vs .nil (aF v)) (i:aP.evs F args=some vs)
  (c:Hs.le H) (l:K (F.put d v) H):dOp C Hs S st (.call name args) d K F H:=by
 refine⟨vs,[],fun _=>aF v,i,e,fun o p=>by simp at p,by rw[JU]; exact h,fun G=>⟨v,.nil,⟨rfl,rfl⟩,fun o x q=>by simp[PH.nil] at q⟩,?_⟩;rintro r H' ⟨rfl,rfl⟩ -;rw[JU,PH.zT];exact⟨c,l⟩
end
theorem wrap_i64 {n:Int} (c:-9223372036854775808≤n) (d:n≤9223372036854775807):IntKind.i64.wrap n=n:=by
 have e:IntKind.i64.wrap n=if decide (n%18446744073709551616≥9223372036854775808)=true then n%18446744073709551616-18446744073709551616 else n%18446744073709551616:=by simp[IntKind.wrap,IntKind.bits,IntKind.signed]
 rw[e];split
 ·rename_i h; simp only[decide_eq_true_eq] at h; omega
 ·rename_i h; simp only[decide_eq_true_eq] at h; omega
theorem dg {k:Nat} (h:k≤9223372036854775807):IntKind.i64.wrap (k:Int)=k:=wrap_i64 Om Om
theorem cW {k:Nat} (h:k<9223372036854775807):IntKind.i64.wrap ((k:Int)+1)=((k+1:Nat):Int):=by
 rw[wrap_i64 Om Om]; omega
theorem wZz (k:Nat) (h:k<9223372036854775807:=by omega):IntKind.i64.wrap ((k:Int)+1)=((k+1:Nat):Int):=cW h
theorem wrap_u64 {n:Int} (c:0≤n) (d:n<18446744073709551616):IntKind.u64.wrap n=n:=by
 have e:IntKind.u64.wrap n=n%18446744073709551616:=by simp[IntKind.wrap,IntKind.bits,IntKind.signed]
 rw[e]; omega
abbrev ints (xs:List Int):PV:=.sl 1 (xs.map fun n=>[.int .i64 n])
open Go Go.RowKit
inductive CT where
 | int (k:IntKind)
 | bool
 | str
 | sl (es:List CT)
 deriving Inhabited
def qP (P:Program) (rec:TypeId→Option (List CT)):Nat→List Field→Option (List CT)
 | _,[]=>some []
 | k,f::c=>match rec f.type with
  | some cts=>if f.offset=k∧P.cellsOf f.type=cts.length then (qP P rec (k+cts.length) c).map (cts++·) else none
  | none=>none
def gE (P:Program):Nat→TypeId→Option (List CT)
 | 0,_=>none
 | n+1,t=>match P.underlying t with
  | some .bool=>some [.bool]
  | some (.int k)=>some [.int k]
  | some .string=>some [.str]
  | some (.slice e)=>match gE P n e with
   | some cts=>if P.cellsOf e=cts.length∧0<cts.length then some [.sl cts] else none
   | none=>none
  | some (.struct c)=>match qP P (gE P n) 0 c.toList with
   | some cts=>if P.cellsOf t=cts.length then some cts else none
   | none=>none
  | some (.array k e)=>match gE P n e with
   | some cts=>if P.cellsOf e=cts.length∧P.cellsOf t=k*cts.length then some (a6N k cts).flatten else none
   | none=>none
  | _=>none
inductive PV.Ty:CT→PV→Prop
 | int {k:IntKind} {n:Int} (h:(Lit.int k n).wf=true):PV.Ty (.int k) (.int k n)
 | bool (b:Bool):PV.Ty .bool (.bool b)
 | str {s:List UInt8} (h:s.length≤maxLen):PV.Ty .str (.str s)
 | sl {es:List CT} {rows:List (List PV)} (hr:∀ r∈rows,r.length=es.length) (hl:rows.length≤maxLen) (h:∀ (i j:Nat) pv ct,at2 rows i j=some pv→es[j]?=some ct→PV.Ty ct pv):PV.Ty (.sl es) (.sl es.length rows)
def Env.of (W:World) (num:Nat→FuncId):Env:=⟨fun b=>match W.heap[b]? with | some (.cells cs _ _)=>some cs | _=>none,fun _=>none,num⟩
theorem bL.start (W:World) (num:Nat→FuncId):bL (Env.of W num) PH.nil W:=by
 refine⟨fun b cs d=>⟨fun x e=>(by cases e),?_⟩,fun o x e=>(by cases e),fun o n h=>(by cases h)⟩;simp only[Env.of] at d;split at d
 ·rename_i c ty i h;cases d;exact⟨ty,i,h⟩
 ·cases d
structure Reads (E:Env) (cts:List CT) (pvs:List PV) (cs:List Value):Prop where
 lp:pvs.length=cts.length
 lc:cs.length=cts.length
 rep:∀ (j:Nat) pv c,pvs[j]?=some pv→cs[j]?=some c→aZ E pv c∧c.oneCell'=true
 ty:∀ (j:Nat) pv ct,pvs[j]?=some pv→cts[j]?=some ct→PV.Ty ct pv
theorem Reads.one {E:Env} {ct:CT} {pv:PV} {c:Value} (h:aZ E pv c) (d:c.oneCell'=true) (e:PV.Ty ct pv):Reads E [ct] [pv] [c]:=by
 refine⟨rfl,rfl,fun j p u a b=>?_,fun j p u a b=>?_⟩
 ·cases j with
  | zero=>simp at a b; subst a; subst b; exact⟨h,d⟩
  | succ j=>simp at a
 ·cases j with
  | zero=>simp at a b; subst a; subst b; exact e
  | succ j=>simp at a
theorem Reads.append {E:Env} {c e:List CT} {d q:List PV} {i l:List Value} (h:Reads E c d i) (k:Reads E e q l):Reads E (c++e) (d++q) (i++l):=by
 refine⟨by simp[h.lp,k.lp],by simp[h.lc,k.lc],fun j p u a b=>?_,fun j p u a b=>?_⟩
 ·rcases a7H j d.length with hj | hj
  ·rw[a8Z hj] at a;rw[a8Z (by rw[h.lc,← h.lp]; exact hj)] at b;exact h.rep j p u a b
  ·rw[a9B hj] at a;rw[a9B (by rw[h.lc,← h.lp]; exact hj)] at b;rw[show j-i.length=j-d.length by rw[h.lc,h.lp]] at b;exact k.rep _ p u a b
 ·rcases a7H j d.length with hj | hj
  ·rw[a8Z hj] at a;rw[a8Z (by rw[← h.lp]; exact hj)] at b;exact h.ty j p u a b
  ·rw[a9B hj] at a;rw[a9B (by rw[← h.lp]; exact hj)] at b;rw[show j-c.length=j-d.length by rw[h.lp]] at b;exact k.ty _ p u a b
theorem fx {W:World} {num:Nat→FuncId} {a:Addr} {v:Value} (h:W.cell? a=some v):a.spot=none∧(Env.of W num).cell a.block a.off=some v:=by
 unfold World.cell? at h;split at h
 ·rename_i c ty i d;split at h
  ·cases h
  ·rename_i e;refine⟨by simpa using e,?_⟩;simp only[Env.cell,Env.of,d];exact h
 ·cases h
inductive PV.Len (N:Nat):PV→Prop
 | flat {pv:PV} (h1:∀ n rows,pv≠.sl n rows) (h2:∀ vs,pv≠.agg vs):PV.Len N pv
 | sl {n:Nat} {rows:List (List PV)} (h:rows.length≤N) (hr:∀ r∈rows,∀ v∈r,PV.Len N v):PV.Len N (.sl n rows)
 | agg {vs:List PV} (h:∀ v∈vs,PV.Len N v):PV.Len N (.agg vs)
theorem PV.Len.int {N:Nat} (k:IntKind) (n:Int):PV.Len N (.int k n):=.flat (fun _ _ h=>by cases h) fun _ h=>by cases h
theorem PV.Len.bool {N:Nat} (b:Bool):PV.Len N (.bool b):=.flat (fun _ _ h=>by cases h) fun _ h=>by cases h
theorem PV.Len.str {N:Nat} (s:List UInt8):PV.Len N (.str s):=.flat (fun _ _ h=>by cases h) fun _ h=>by cases h
theorem PV.Len.rows {N n:Nat} {rows:List (List PV)} (h:PV.Len N (.sl n rows)):rows.length≤N∧∀ r∈rows,∀ v∈r,PV.Len N v:=by
 cases h with
 | flat c _=>exact absurd rfl (c n rows)
 | sl c d=>exact⟨c,d⟩
theorem PV.Len.parts {N:Nat} {vs:List PV} (h:PV.Len N (.agg vs)):∀ v∈vs,PV.Len N v:=by
 cases h with
 | flat _ c=>exact absurd rfl (c vs)
 | agg h=>exact h
structure tM {H:Type} (P:Program) (N:Nat) (S:TypeId→DataW H→Prop):Prop where
 sl:∀ t e elems spare,P.underlying t=some (.slice e)→S t (.slice elems spare)→elems.length≤N∧∀ d∈elems,S e d
 st:∀ t fs parts,P.underlying t=some (.struct fs)→S t (.agg parts)→∀ (i:Nat) g d,fs[i]?=some g→parts[i]?=some d→S g.type d
 ar:∀ t n e parts,P.underlying t=some (.array n e)→S t (.agg parts)→∀ d∈parts,S e d
theorem TX {H:Type} {P:Program} {A:(TypeId→DataW H→Prop)→Prop} {pv:PV} (h:∀ {N},PV.Len N pv):∀ N S,tM P N S→A S→∀ v∈[pv],PV.Len N v:=fun N S _ _ v c=>by
 obtain rfl:=a9A.1 c;exact h
theorem ip {P:Program} {E:Env} {rec:TypeId→Option (List CT)} {H:Type} {f:TypeId→List Value→Option (DataW H × List MemPlace)}
  (B:∀ t cs x cts,f t cs=some x→rec t=some cts→∃ d,Reads E cts d cs∧∀ N S,tM P N S→S t x.1→∀ v∈d,PV.Len N v) (cs:List Value) :
  ∀ (i:List Field) (k:Nat) (cts:List CT),(∀ g∈i,∃ x,f g.type ((cs.drop g.offset).take (P.cellsOf g.type))=some x)→qP P rec k i=some cts →
   ∃ d,Reads E cts d ((cs.drop k).take cts.length)∧∀ N S,tM P N S→(∀ g∈i,∀ x,f g.type ((cs.drop g.offset).take (P.cellsOf g.type))=some x→S g.type x.1)→∀ v∈d,PV.Len N v
 | [],k,cts,_,h=>by simp[qP] at h; subst h;exact⟨[],⟨rfl,by simp,fun j p c a=>by simp at a,fun j p c a=>by simp at a⟩,fun _ _ _ _ v hv=>by cases hv⟩
 | g::i,k,cts,y,h=>by
  simp only[qP] at h;split at h
  ·rename_i F K;split at h
   ·rename_i w;simp only[a6U] at h;obtain⟨J,M,rfl⟩:=h;obtain⟨x,A⟩:=y g (by simp);obtain⟨R,r1,O⟩:=B _ _ _ _ A K;rw[w.1,w.2] at r1;obtain⟨U,r2,Q⟩:=ip B cs i (k+F.length) J (fun l e=>y l (by simp[e])) M;refine⟨R++U,?_,fun N S q u v hv=>?_⟩
    ·have:=r1.append r2;rw[a6T,List.take_add,List.drop_drop];exact this
    ·rcases a8J.1 hv with hv | hv
     ·exact O N S q (u g (by simp) x A) v hv
     ·exact Q N S q (fun l e=>u l (by simp[e])) v hv
   ·cases h
  ·cases h
theorem yr {E:Env} {cts:List CT} {R:List PV→Prop} (e:R []) (l:∀ a b,R a→R b→R (a++b)) (cs:List Value) :
  ∀ n:Nat,(∀ i,i<n→∃ d,Reads E cts d ((cs.drop (i*cts.length)).take cts.length)∧R d)→∃ d,Reads E (a6N n cts).flatten d (cs.take (n*cts.length))∧R d
 | 0,_=>⟨[],⟨rfl,by simp,fun j p c a=>by simp at a,fun j p c a=>by simp at a⟩,e⟩
 | n+1,h=>by obtain⟨q,r1,w⟩:=yr e l cs n fun i hi=>h i Om;obtain⟨u,r2,x⟩:=h n Om;refine⟨q++u,?_,l _ _ w x⟩;rw[List.replicate_succ',List.flatten_append,List.flatten_singleton,a9O,List.take_add];exact r1.append r2
theorem R7 {H:Type} {enc:TypeId × Value→H} {P:Program} {W:World} {base:Nat} {sp:Nat→Bool} {Z:Bool} (num:Nat→FuncId) :
  ∀ (fuel m:Nat) (t:TypeId) (cs:List Value) (x:DataW H × List MemPlace) (cts:List CT),DataW.trod enc P W base sp Z fuel t cs=some x→gE P m t=some cts→∃ c,Reads (Env.of W num) cts c cs∧∀ N S,tM P N S→S t x.1→∀ v∈c,PV.Len N v:=by
 intro fuel
 induction fuel with
 | zero=>intro m t cs x cts h; simp[DataW.trod] at h
 | succ fuel ih =>
  intro m t cs x cts h p;cases m with
  | zero=>simp[gE] at p
  | succ m =>
   simp only[gE] at p;split at p
   ·rename_i K;cases p;obtain⟨b,rfl,-⟩:=DataW.trod_bool K h;exact⟨[.bool b],.one (.bool b) rfl (.bool b),TX (.bool b)⟩
   ·rename_i k K;cases p;obtain⟨n,rfl,-,hw⟩:=DataW.trod_int K h;exact⟨[.int k n],.one (.int k n) rfl (.int hw),TX (.int k n)⟩
   ·rename_i K;cases p;obtain⟨s,rfl,-,hs⟩:=DataW.trod_string K h;exact⟨[.str s.data.toList],.one (.str s) rfl (.str (by rw[a9P]; exact hs)),TX (.str _)⟩
   ·rename_i e K;split at p
    ·rename_i l he;split at p
     ·rename_i q;cases p;rcases DataW.trod_slice K h with ⟨rfl,-⟩ | ⟨a,len,cap,elems,rest,n,hn,rfl,U,-,α,hcap,hel,helem,-⟩
      ·refine⟨[.sl l.length []],.one ?_ rfl (.sl (by simp) (by simp) (by simp[at2])),TX (.sl (a6Q _) (fun r O=>by cases O))⟩;exact .sl (fun _ _=>.bool false) (by simp) (by decide) (by simp) (by simp) (fun _ _=>rfl) (by simp[at2])
      ·cases hn;have each:∀ i,i<len→∃ c V,(Reads (Env.of W num) l c V∧∀ N S,tM P N S→(∀ d∈elems.map (·.1),S e d)→∀ v∈c,PV.Len N v)∧W.cells? base (a.add (i*l.length)) l.length=some V:=by intro i hi;have Y:=helem i hi;rw[a6Y Om,baC] at Y;obtain⟨V,h2,h3⟩:=Y;obtain⟨c,r,rl⟩:=ih m e V _ l h3 he;rw[q.1] at h2;exact⟨c,V,⟨r,fun N S B F=>rl N S B (F _ (a7N.2 ⟨_,a6M _,rfl⟩))⟩,h2⟩
       have β:∀ i,∃ c,∃ V,i<len→(Reads (Env.of W num) l c V∧∀ N S,tM P N S→(∀ d∈elems.map (·.1),S e d)→∀ v∈c,PV.Len N v)∧W.cells? base (a.add (i*l.length)) l.length=some V:=by
        intro i;by_cases hi:i<len
        ·obtain⟨c,V,Y⟩:=each i hi;exact⟨c,V,fun _=>Y⟩
        ·exact⟨[],[],fun h=>(hi h).elim⟩
       obtain⟨pf,μ⟩:=Classical.axiomOfChoice β;obtain⟨uf,J⟩:=Classical.axiomOfChoice μ;have γ:∀ i j pv,at2 ((a6L len).map pf) i j=some pv→i<len∧(pf i)[j]?=some pv:=by
        intro i j pv u;unfold at2 at u;rw[a7J,baC] at u;obtain⟨r,O,u⟩:=u;rw[a6U] at O;obtain⟨i',M,rfl⟩:=O;have hi:i<len:=by simpa using (a7T.1 M).1
        have:i'=i:=by simp[hi] at M; exact M.symm
        subst this;exact⟨hi,u⟩
       have hu2:∀ i j pv,at2 ((a6L len).map pf) i j=some pv→∃ v,(uf i)[j]?=some v∧j<l.length∧aZ (Env.of W num) pv v∧v.oneCell'=true:=by
        intro i j pv u;obtain⟨hi,Q⟩:=γ i j pv u;obtain⟨⟨r,-⟩,-⟩:=J i hi;have hj:j<l.length:=by rw[← r.lp]; exact (a7T.1 Q).1
        have A:(uf i)[j]?=some ((uf i)[j]'(by rw[r.lc]; exact hj)):=a6Y _;exact⟨_,A,hj,(r.rep j pv _ Q A).1,(r.rep j pv _ Q A).2⟩
       have X:((a6L len).map pf).length=len:=by simp
       refine⟨[.sl l.length ((a6L len).map pf)],.one ?_ rfl (.sl (fun r O=>?_) (by rw[X]; omega) fun i j pv ct u θ=>?_),fun N S B F v A=>?_⟩
       ·have ε:=aZ.sl (E:=Env.of W num) (size:=l.length) (rows:=(a6L len).map pf) (a:=some a) (cap:=cap)
         (fun i j=>match at2 ((a6L len).map pf) i j with | some _=>((uf i)[j]?).getD (.bool false) | none=>.bool false) (by rw[X]; exact α) hcap
         (fun r O=>by simp only[a7N,a7P] at O;obtain⟨i,hi,rfl⟩:=O;exact (J i hi).1.1.lp)
         (fun κ=>by
          have ι:0<len:=by
           rcases a8R len with h | h
           ·subst h; exact (κ rfl).elim
           ·exact h
          have δ:a.spot=none:=by obtain⟨⟨r,-⟩,p⟩:=J 0 ι;have h3:=(World.cells?_some p).2.2 0 q.2;rw[Nat.zero_mul,Addr.add_zero',Addr.add_zero',a6Y (by rw[r.lc]; exact q.2)] at h3;exact (fx (num:=num) h3).1
          refine⟨a,rfl,δ,fun i j pv u=>?_⟩;obtain⟨hi,-⟩:=γ i j pv u;obtain⟨v,A,hj,-⟩:=hu2 i j pv u;have h3:=(World.cells?_some (J i hi).2).2.2 j hj;rw[nE δ,add_plain,add_plain,A] at h3;have h4:=(fx (num:=num) h3).2;simp only[u,A,a9K];exact h4)
         (fun i j=>by
          split
          ·rename_i pv u;obtain⟨v,A,-,-,Y⟩:=hu2 i j pv u;simp[A,Y]
          ·rfl)
         (fun i j pv u=>by obtain⟨v,A,-,Y,-⟩:=hu2 i j pv u;simp only[u,A,a9K];exact Y)
        rw[X] at ε;exact ε
       ·simp only[a7N,a7P] at O;obtain⟨i,hi,rfl⟩:=O;exact (J i hi).1.1.lp
       ·obtain⟨hi,Q⟩:=γ i j pv u;exact (J i hi).1.1.ty j pv ct Q θ
       ·rw[U] at F;obtain⟨m1,m2⟩:=B.sl t e _ _ K F;obtain rfl:=a9A.1 A;refine .sl (by rw[X]; simpa [hel] using m1) fun r O w hw=>?_;simp only[a7N,a7P] at O;obtain⟨i,hi,rfl⟩:=O;exact (J i hi).1.2 N S B m2 w hw
     ·cases p
    ·cases p
   ·rename_i fs K;split at p
    ·rename_i ξ ζ;split at p
     ·rename_i α;cases p;obtain⟨xs,n,hn,U,η,ν,hx⟩:=DataW.trod_struct K h;cases hn;have:=ip (f:=DataW.trod enc P W base sp Z fuel) (fun t cs x cts a b=>ih m t cs x cts a b) cs fs.toList 0 cts (fun g hg=>by obtain⟨i,hi,rfl⟩:=a9C hg;have:=hx i fs.toList[i] (by simp at hi; simp[hi]);rw[this];exact⟨_,a6Y (by simp at hi; omega)⟩) ζ
      rw[a7W,a7F Om] at this;obtain⟨c,r,rl⟩:=this;refine⟨c,r,fun N S B F=>rl N S B fun g hg y hy=>?_⟩;rw[U] at F;obtain⟨i,hi,rfl⟩:=a9C hg;have M:i<fs.size:=by simpa using hi
      have:=hx i fs.toList[i] (by simp[M]);rw[hy,a6Y Om] at this;refine B.st t fs _ K F i fs.toList[i] y.1 (by simp[M]) ?_;rw[a7J,a6Y Om,← this]; rfl
     ·cases p
    ·cases p
   ·rename_i k e K;split at p
    ·rename_i l he;split at p
     ·rename_i q;cases p;obtain⟨xs,n,hn,U,η,ν,hx⟩:=DataW.trod_array K h;cases hn;obtain⟨c,r,hq⟩:=yr (E:=Env.of W num) (cts:=l) (R:=fun c=>∀ N S,tM P N S→(∀ d:DataW H,d∈xs.map (fun y:DataW H × List MemPlace=>y.1)→S e d)→∀ v∈c,PV.Len N v) (fun _ _ _ _ v A=>by cases A)
       (fun a b ha hb N S B F v A=>(a8J.1 A).elim (ha N S B F v) (hb N S B F v)) cs k fun i hi=>by have h2:=hx i hi;rw[a6Y Om,q.1] at h2;obtain⟨c,r,rl⟩:=ih m e _ _ l h2 he;exact⟨c,r,fun N S B F=>rl N S B (F _ (a7N.2 ⟨_,a6M _,rfl⟩))⟩
      rw[a7F Om] at r;exact⟨c,r,fun N S B F=>hq N S B (B.ar t k e _ K (by rw[U] at F; exact F))⟩
     ·cases p
    ·cases p
   ·cases p
open Go Go.RowKit Go.ChangeShapes Go.WideShapes
theorem Ext.below {E d:Env} {H':PH} {w c:World} (h:Ext E PH.nil w d H' c):Below w.heap.size w c :=
 ⟨h.os,h.tape,h.output,h.size,fun k e=>h.block k e rfl⟩
theorem Below.trodAll {H:Type} {enc:TypeId × Value→H} {P:Program} (w:laidOutB P=true) {W e:World} (l:Below W.heap.size W e) :
  ∀ {ts:List TypeId} {vs:List Value} {ds:List (DataW H)} {ps:List MemPlace},(∀ t∈ts,P.readableRec t=true∧t<P.types.size)→DataW.TrodAll enc P W 0 (fun _=>true) true ts vs ds ps →
   DataW.TrodAll enc P e 0 (fun b=>decide (b<W.heap.size)) true ts vs ds ps
 | [],[],[],ps,_,h=>h
 | [],_::_,_,_,_,h=>h.elim
 | [],[],_::_,_,_,h=>h.elim
 | _::_,[],_,_,_,h=>h.elim
 | _::_,_::_,[],_,_,h=>h.elim
 | t::ts,v::vs,d::ds,ps,c,h=>by obtain⟨p,q,i,y,rfl⟩:=h;have hlt:∀ x∈p,x.block<W.heap.size:=fun x B=>DataW.TrodAll.lt (ts:=[t]) (vs:=[v]) (ds:=[d]) ⟨p,[],i,rfl,(a8H p).symm⟩ x B;exact⟨p,q,Below.trod w (c t (by simp)).1 (c t (by simp)).2 i l hlt,Below.trodAll w l (fun u A=>c u (by simp[A])) y,rfl⟩
theorem auO {H:Type} {enc:TypeId × Value→H} {P:Program} {f:Func} {s:ChangeSpec} {c apart fresh:Bool} {W y:World} {args:Array Value} {ds e:List (DataW H)} {d:List MemPlace} {bt:TypeId}
  (F:laidOutB P=true) (hW:DataW.Whole enc P f.params.toList s.vars apart W args.toList ds e d) (B:Below W.heap.size W y) (u:∀ t∈f.params.toList,P.readableRec t=true∧t<P.types.size)
  (l:f.resultTypes=#[bt]) (i:P.underlying bt=some .bool) (w:s.vars=[]) (K:(s.fn H (ds++e)).results=[.lit (.bool true)]) (E:(s.fn H (ds++e)).args=ds) (x:(s.fn H (ds++e)).vars=[]) :
  s.post enc P f apart fresh c false W args (.bool true) y:=by
 obtain⟨p,q,A,hV,rfl,M,J⟩:=hW;rw[w] at hV;obtain⟨rfl,rfl⟩:=trodVars_none hV;refine⟨ds,[],p++[],[],p,[],⟨p,[],A,by rw[w]; exact hV,rfl,M,J⟩,?_,?_,?_,B.frame _,fun h=>by cases h⟩
 ·rw[K,l];refine⟨[],[],⟨1,?_⟩,rfl,rfl⟩;simp[DataW.trod,i,Value.cells,Value.resultList]
 ·rw[E];exact Below.trodAll F B u A
 ·rw[w,x];exact rfl
theorem asC {C:Ctx} {name:Nat} {W:World} {args:Array Value} {d:List PV} (h:aG C name d PH.nil (aF (.bool true))) (q:eE (Env.of W C.num) d args.toList) :
  Calls C.P (C.num name) args W fun e i=>e=.returned (.bool true)∧Below W.heap.size W i :=
 (h.2 (Env.of W C.num) W args rfl (bL.start W C.num) q).mono fun e i p=>by obtain⟨v,pv,u,H',rfl,-,c,l,rfl,-⟩:=p;cases c;exact⟨rfl,l.below⟩
def InK (k:IntKind) (n:Int):Prop:=k.min≤n∧n≤k.max
def aMQ (k:IntKind) (xs:List Int):PV:=.sl 1 (xs.map fun n=>[.int k n])
theorem Ty.tX {k:IntKind} {pv:PV} (h:PV.Ty (.int k) pv):∃ n,pv=.int k n∧InK k n:=by
 cases h with
 | int h=>simp only[Lit.wf,a7E,decide_eq_true_eq] at h; exact⟨_,rfl,h⟩
theorem Ty.aCX {pv:PV} (h:PV.Ty .bool pv):∃ b,pv=.bool b:=by
 cases h; exact⟨_,rfl⟩
theorem Ty.yO {pv:PV} (h:PV.Ty .str pv):∃ s,pv=.str s∧s.length≤maxLen:=by
 cases h with
 | str h=>exact⟨_,rfl,h⟩
theorem Ty.aRS {ct:CT} {pv:PV} (h:PV.Ty (.sl [ct]) pv):∃ vs:List PV,pv=.sl 1 (vs.map fun v=>[v])∧vs.length≤maxLen∧∀ v∈vs,PV.Ty ct v:=by
 cases h with
 | @sl w rows u q h =>
 have c:∀ r∈rows,r=[r.headD .junk]:=fun r d=>by
  have:=u r d
  match r,this with
  | [x],_=>rfl
 have e:rows=(rows.map fun r=>r.headD .junk).map fun v=>[v]:=by rw[List.map_map];apply a9R (by simp);intro n p y;simp only[a8P,Function.comp];exact c _ (a6M p)
 refine⟨rows.map fun r=>r.headD .junk,by rw[← e]; rfl,by simpa using q,fun v l=>?_⟩;rw[a7N] at l;obtain⟨r,d,rfl⟩:=l;obtain⟨i,hi,rfl⟩:=a9C d;refine h i 0 _ ct ?_ rfl;have:=c rows[i] d;unfold at2;rw[a6Y hi,a9V,this];rfl
theorem Ty.aFB {k:IntKind} {pv:PV} (h:PV.Ty (.sl [.int k]) pv):∃ xs:List Int,pv=aMQ k xs∧xs.length≤maxLen∧∀ x∈xs,InK k x:=by
 obtain⟨vs,rfl,q,d⟩:=Ty.aRS h;have e:vs=(vs.map fun v=>match v with | .int _ n=>n | _=>0).map fun n=>PV.int k n:=by rw[List.map_map];apply a9R (by simp);intro n l u;simp only[a8P,Function.comp];obtain⟨m,c,-⟩:=Ty.tX (d _ (a6M l));rw[c]
 refine⟨vs.map fun v=>match v with | .int _ n=>n | _=>0,?_,by simpa using q,fun x i=>?_⟩
 ·unfold aMQ
  conv=>lhs; rw[e]
  rw[List.map_map];rfl
 ·rw[a7N] at i;obtain⟨v,c,rfl⟩:=i;obtain⟨m,rfl,p⟩:=Ty.tX (d v c);exact p
abbrev Rg:=List aU
abbrev Rd:=List (aU×Bool)
def iM (d s:Nat):aU:=⟨some d,.mv (.tmp s),none⟩
def iI (d:Nat) (n:Int):aU:=⟨some d,.mv (.const (.int .i64 n)),none⟩
def iB (d:Nat) (o:BinOp) (x y:Nat):aU:=⟨some d,.bin o (.tmp x) (.tmp y),none⟩
def iC (d:Nat) (o:BinOp) (x:Nat) (n:Int):aU:=⟨some d,.bin o (.tmp x) (.const (.int .i64 n)),none⟩
def iL (d s:Nat):aU:=⟨some d,.load none (.tmp s),none⟩
def iX (d n x y:Nat):aU:=⟨some d,.a5Q n (.tmp x) (.tmp y),none⟩
def iN (d x:Nat):aU:=⟨some d,.len (.tmp x),none⟩
def iF (d n x:Nat):aU:=⟨some d,.a6C n (.tmp x),none⟩
def iS (n p x:Nat):aU:=⟨none,.store n (.tmp p) (.tmp x),none⟩
def iA (d:Nat) (o:POp):aU:=⟨some d,o,none⟩
def iG (d:Nat) (o:POp) (g:Nat) (b:Bool):aU:=⟨some d,o,some (g,b)⟩
def iP (d a b:Nat):aU:=⟨some d,.pick (.tmp a) (.tmp b) (.const (.bool false)),none⟩
def iQ (d a b:Nat):aU:=⟨some d,.pick (.tmp a) (.const (.bool true)) (.tmp b),none⟩
def iO (d s a:Nat):aU:=⟨some d,.load (some s) (.tmp a),none⟩
def iE (d a n:Nat):aU:=⟨some d,.extract (.tmp a) n,none⟩
def iK (d f a:Nat):aU:=⟨some d,.call f [.tmp a],none⟩
def iK2 (d f a b:Nat):aU:=⟨some d,.call f [.tmp a,.tmp b],none⟩
def iT (d:Nat) (b:Bool):aU:=⟨some d,.mv (.const (.bool b)),none⟩
def iZ (d:Nat):aU:=⟨some d,.mv (.const .aB),none⟩
def gM (d s g:Nat) (b:Bool):aU:=⟨some d,.mv (.tmp s),some (g,b)⟩
def gL (d s g:Nat) (b:Bool):aU:=⟨some d,.load none (.tmp s),some (g,b)⟩
def gF (d n s g:Nat) (b:Bool):aU:=⟨some d,.a6C n (.tmp s),some (g,b)⟩
def gN (d s g:Nat) (b:Bool):aU:=⟨some d,.len (.tmp s),some (g,b)⟩
def gO (d n s g:Nat) (b:Bool):aU:=⟨some d,.load (some n) (.tmp s),some (g,b)⟩
def gK (d f a g:Nat) (b:Bool):aU:=⟨some d,.call f [.tmp a],some (g,b)⟩
def gK2 (d f a c g:Nat) (b:Bool):aU:=⟨some d,.call f [.tmp a,.tmp c],some (g,b)⟩
def gC (d:Nat) (o:BinOp) (x:Nat) (n:Int) (g:Nat) (b:Bool):aU:=⟨some d,.bin o (.tmp x) (.const (.int .i64 n)),some (g,b)⟩
def gB (d:Nat) (o:BinOp) (x y g:Nat) (b:Bool):aU:=⟨some d,.bin o (.tmp x) (.tmp y),some (g,b)⟩
def zI:PV:=.int .i64 0
def zB:PV:=.bool false
def sq (r:Rg) (c:aC):aC:=.seq (.region r) c
def dq (r:Rd) (c:aC):aC:=.seq (.draw r) c
def Tm (n:Nat):aP:=.tmp n
def Ci (n:Int):aP:=.const (.int .i64 n)
@[go_sem] theorem a4N (d s:Nat):iM d s=⟨some d,.mv (.tmp s),none⟩:=(rfl)
@[go_sem] theorem a4K (d:Nat) (n:Int):iI d n=⟨some d,.mv (.const (.int .i64 n)),none⟩:=(rfl)
@[go_sem] theorem a4F (d:Nat) (o:BinOp) (x y:Nat):iB d o x y=⟨some d,.bin o (.tmp x) (.tmp y),none⟩:=(rfl)
@[go_sem] theorem a4G (d:Nat) (o:BinOp) (x:Nat) (n:Int):iC d o x n=⟨some d,.bin o (.tmp x) (.const (.int .i64 n)),none⟩:=(rfl)
@[go_sem] theorem a4M (d s:Nat):iL d s=⟨some d,.load none (.tmp s),none⟩:=(rfl)
@[go_sem] theorem a4U (d n x y:Nat):iX d n x y=⟨some d,.a5Q n (.tmp x) (.tmp y),none⟩:=(rfl)
@[go_sem] theorem a4O (d x:Nat):iN d x=⟨some d,.len (.tmp x),none⟩:=(rfl)
@[go_sem] theorem a4I (d n x:Nat):iF d n x=⟨some d,.a6C n (.tmp x),none⟩:=(rfl)
@[go_sem] theorem a4S (n p x:Nat):iS n p x=⟨none,.store n (.tmp p) (.tmp x),none⟩:=(rfl)
@[go_sem] theorem a4E (d:Nat) (o:POp):iA d o=⟨some d,o,none⟩:=(rfl)
@[go_sem] theorem a4J (d:Nat) (o:POp) (g:Nat) (b:Bool):iG d o g b=⟨some d,o,some (g,b)⟩:=(rfl)
@[go_sem] theorem a4Q (d a b:Nat):iP d a b=⟨some d,.pick (.tmp a) (.tmp b) (.const (.bool false)),none⟩:=(rfl)
@[go_sem] theorem a4R (d a b:Nat):iQ d a b=⟨some d,.pick (.tmp a) (.const (.bool true)) (.tmp b),none⟩:=(rfl)
@[go_sem] theorem a4P (d s a:Nat):iO d s a=⟨some d,.load (some s) (.tmp a),none⟩:=(rfl)
@[go_sem] theorem a4H (d a n:Nat):iE d a n=⟨some d,.extract (.tmp a) n,none⟩:=(rfl)
@[go_sem] theorem a4L (d f a:Nat):iK d f a=⟨some d,.call f [.tmp a],none⟩:=(rfl)
@[go_sem] theorem a3R (d f a b:Nat):iK2 d f a b=⟨some d,.call f [.tmp a,.tmp b],none⟩:=(rfl)
@[go_sem] theorem a4T (d:Nat) (b:Bool):iT d b=⟨some d,.mv (.const (.bool b)),none⟩:=(rfl)
@[go_sem] theorem a4V (d:Nat):iZ d=⟨some d,.mv (.const .aB),none⟩:=(rfl)
@[go_sem] theorem a4B (d s g:Nat) (b:Bool):gM d s g b=⟨some d,.mv (.tmp s),some (g,b)⟩:=(rfl)
@[go_sem] theorem a4A (d s g:Nat) (b:Bool):gL d s g b=⟨some d,.load none (.tmp s),some (g,b)⟩:=(rfl)
@[go_sem] theorem a3Y (d n s g:Nat) (b:Bool):gF d n s g b=⟨some d,.a6C n (.tmp s),some (g,b)⟩:=(rfl)
@[go_sem] theorem a4C (d s g:Nat) (b:Bool):gN d s g b=⟨some d,.len (.tmp s),some (g,b)⟩:=(rfl)
@[go_sem] theorem a4D (d n s g:Nat) (b:Bool):gO d n s g b=⟨some d,.load (some n) (.tmp s),some (g,b)⟩:=(rfl)
@[go_sem] theorem a3Z (d f a g:Nat) (b:Bool):gK d f a g b=⟨some d,.call f [.tmp a],some (g,b)⟩:=(rfl)
@[go_sem] theorem a3Q (d f a c g:Nat) (b:Bool):gK2 d f a c g b=⟨some d,.call f [.tmp a,.tmp c],some (g,b)⟩:=(rfl)
@[go_sem] theorem a3X (d:Nat) (o:BinOp) (x:Nat) (n:Int) (g:Nat) (b:Bool):gC d o x n g b=⟨some d,.bin o (.tmp x) (.const (.int .i64 n)),some (g,b)⟩:=(rfl)
@[go_sem] theorem a3W (d:Nat) (o:BinOp) (x y g:Nat) (b:Bool):gB d o x y g b=⟨some d,.bin o (.tmp x) (.tmp y),some (g,b)⟩:=(rfl)
@[go_sem] theorem a4Y:zI=.int .i64 0:=(rfl)
@[go_sem] theorem a4X:zB=.bool false:=(rfl)
@[go_sem] theorem a4W (r:Rg) (c:aC):sq r c=.seq (.region r) c:=(rfl)
@[go_sem] theorem a3V (r:Rd) (c:aC):dq r c=.seq (.draw r) c:=(rfl)
@[go_sem] theorem a3U (n:Nat):Tm n=.tmp n:=(rfl)
@[go_sem] theorem a3T (n:Int):Ci n=.const (.int .i64 n):=(rfl)
end Go.PM
namespace Go.PM
open Go
def Jr:Rg:=[iT 4 false]
def Js:Rg:=[iM 6 0,iN 7 6,iM 8 1,iN 9 8,iB 10 .neq 7 9]
def aEC:Rg:=[iT 4 false]
def Jt:Rg:=[iI 5 0]
def Ju:Rg:=[iM 11 5,iM 12 0,iN 13 12,iB 14 .lss 11 13]
def Jv:Rd:=[(iM 17 0,false),(iM 18 5,false),(iX 19 1 17 18,false),(iL 20 19,false),(iM 21 1,false),(iM 22 5,false),(iX 23 1 21 22,false),(iL 24 23,false),(iB 25 .neq 20 24,false)]
def aED:Rg:=[iT 4 false]
def Jw:Rg:=[iM 15 5,iC 16 .add 15 1,iM 5 16]
def Jq:aC:=(.seq (sq Ju (.cond (Tm 14) .skip (.exit 0))) (.seq (.block 1 (dq Jv (.cond (Tm 25) (sq aED .ret) .skip))) (.region Jw)))
def Jx:Rg:=[iT 4 true]
def HF:aC:=(sq Jr (.seq (sq Js (.cond (Tm 10) (sq aEC .ret) .skip)) (.seq (sq Jt (.block 0 (.loop Jq))) (sq Jx .ret))))
def aEE:List Nat:=[]
def Gm:aS:=⟨2,26,HF,[.tmp 4]⟩
def asV:Rg:=[iA 0 (.alloc [zI,.aB,.aB,.aB,.aB,.aB,.aB])]
def asW:Rg:=[iA 2 (.call 27 [(.const .aB),(Ci 1),(Ci 0)]),iA 1 (.alloc [zI,.aB,.aB,.aB,.aB,.aB,.aB]),iS 7 1 2]
def asX:Rg:=[iA 3 (.build [(.str []),zI] [(0,1,(.const (.str [118,48])))]),iA 4 (.a5F true 2 1 [(.str []),zI] [(0,(Tm 3))]),iF 5 6 1,iS 1 5 4]
def asY:Rg:=[iO 6 7 1,iS 7 0 6]
def Vi:aC:=(sq asV (sq asW (sq asX (sq asY .ret))))
def aUZ:aS:=⟨0,7,Vi,[.cell 0 (some 7)]⟩
def asD:Rg:=[iT 0 false]
def asE:Rg:=[iA 3 (.call 23 []),iA 1 (.alloc [zI,.aB,.aB,.aB,.aB,.aB,.aB]),iS 7 1 3]
def asF:Rg:=[iO 4 7 1,iA 5 (.a5F true 1 1 [zI] [(0,(Ci (-1)))]),iA 6 (.a5F true 1 1 [.aB] [(0,(Tm 5))]),iA 7 (.call 154 [(Tm 4),(Tm 6),(.const .aB)]),iM 2 7]
def asG:Rg:=[iO 8 7 1,iA 9 (.call 147 [(Tm 8),(Ci 0),(Ci 4)]),iC 10 .eql 9 4,iM 11 10,gO 12 7 1 11 true,iG 13 (.call 149 [(Tm 12),(Ci 0)]) 11 true,gN 14 13 11 true,gC 15 .eql 14 1 11 true,iP 16 11 15,iM 17 16,gM 18 2 17 true,gN 19 18 17 true,gC 20 .eql 19 1 17 true,iP 21 17 20,iM 22 21,gM 23 2 22 true,iG 24 (.a5Q 3 (Tm 23) (Ci 0)) 22 true,gO 25 3 24 22 true,iG 26 (.build [zI,zI,zI] [(0,1,(Ci 2))]) 22 true,iG 27 (.eqs false [.int,.int,.int] (Tm 25) (Tm 26)) 22 true,iP 28 22 27,iM 29 28,gO 30 7 1 29 true,iG 31 (.a5F true 1 1 [zI] [(0,(Ci 0))]) 29 true,iG 32 (.a5F true 1 1 [.aB] [(0,(Tm 31))]) 29 true,iG 33 (.call 150 [(Tm 30),(Tm 32),(.const .aB)]) 29 true,iP 34 29 33,iM 35 34,iG 36 (.build [zI,.aB,.aB,.aB,.aB,.aB,.aB] []) 35 true,iG 37 (.call 150 [(Tm 36),(.const .aB),(.const .aB)]) 35 true,iG 38 (.un .not (Tm 37)) 35 true,iP 39 35 38,iM 0 39]
def Vf:aC:=(sq asD (sq asE (sq asF (sq asG .ret))))
def aUT:aS:=⟨0,40,Vf,[.tmp 0]⟩
def aFJ:Rg:=[iT 4 false]
def aFK:Rg:=[iM 6 0,iN 7 6,iM 8 1,iN 9 8,iB 10 .neq 7 9]
def aFL:Rg:=[iT 4 false]
def aFM:Rg:=[iI 5 0]
def aFN:Rg:=[iM 11 5,iM 12 0,iN 13 12,iB 14 .lss 11 13]
def aFO:Rd:=[(iM 17 0,false),(iM 18 5,false),(iX 19 3 17 18,false),(iO 20 3 19,false),(iM 21 1,false),(iM 22 5,false),(iX 23 3 21 22,false),(iO 24 3 23,false),(iA 25 (.eqs true [.int,.int,.int] (Tm 20) (Tm 24)),false)]
def aFP:Rg:=[iT 4 false]
def aFQ:Rg:=[iM 15 5,iC 16 .add 15 1,iM 5 16]
def aFI:aC:=(.seq (sq aFN (.cond (Tm 14) .skip (.exit 0))) (.seq (.block 1 (dq aFO (.cond (Tm 25) (sq aFP .ret) .skip))) (.region aFQ)))
def aFR:Rg:=[iT 4 true]
def akN:aC:=(sq aFJ (.seq (sq aFK (.cond (Tm 10) (sq aFL .ret) .skip)) (.seq (sq aFM (.block 0 (.loop aFI))) (sq aFR .ret))))
def aZB:aS:=⟨2,26,akN,[.tmp 4]⟩
def asL:Rg:=[iT 2 false]
def asM:Rg:=[iM 5 0,iN 6 5,iM 3 6]
def asN:Rg:=[iI 4 0]
def asO:Rg:=[iM 7 4,iM 8 0,iN 9 8,iB 10 .lss 7 9,iM 11 10,gM 12 3 11 true,gC 13 .lss 12 300 11 true,iP 14 11 13]
def asP:Rg:=[iM 17 3,iM 18 0,iM 19 4,iX 20 1 18 19,iL 21 20,iN 22 21,iB 23 .add 17 22,iM 3 23]
def asQ:Rg:=[iM 15 4,iC 16 .add 15 1,iM 4 16]
def asK:aC:=(.seq (sq asO (.cond (Tm 14) .skip (.exit 0))) (.seq (.block 1 (.region asP)) (.region asQ)))
def asR:Rg:=[iM 24 3,iC 25 .geq 24 300,iM 2 25]
def Vh:aC:=(sq asL (sq asM (.seq (sq asN (.block 0 (.loop asK))) (sq asR .ret))))
def aUX:aS:=⟨1,26,Vh,[.tmp 2]⟩
def akJ:Rg:=[iA 6 (.box true (Tm 0)),iT 12 false]
def akK:Rd:=[(iO 13 7 6,false),(iM 14 3,false),(iM 15 4,false),(iA 16 (.call 147 [(Tm 13),(Tm 14),(Tm 15)]),true),(iO 17 7 6,true),(iM 18 3,true),(iM 19 4,true),(iA 20 (.call 78 [(Tm 17),(Tm 18),(Tm 19)]),true),(iB 21 .eql 16 20,false),(iM 22 21,false),(gO 23 7 6 22 true,false),(gM 24 5 22 true,false),(gK2 25 149 23 24 22 true,true),(gO 26 7 6 22 true,true),(gM 27 5 22 true,true),(gK2 28 81 26 27 22 true,true),(gK2 29 94 25 28 22 true,true),(iP 30 22 29,false),(iM 31 30,false),(gO 32 7 6 31 true,false),(gM 33 5 31 true,false),(gK2 34 148 32 33 31 true,true),(gO 35 7 6 31 true,true),(gM 36 5 31 true,true),(gK2 37 79 35 36 31 true,true),(gK2 38 94 34 37 31 true,true),(iP 39 31 38,false),(iM 40 39,false),(gO 41 7 6 40 true,false),(gM 42 1 40 true,false),(gK2 43 151 41 42 40 true,true),(gO 44 7 6 40 true,true),(gM 45 1 40 true,true),(gK2 46 84 44 45 40 true,true),(gK2 47 94 43 46 40 true,true),(iP 48 40 47,false),(iM 49 48,false),(gO 50 7 6 49 true,false),(gM 51 2 49 true,false),(gK2 52 152 50 51 49 true,true),(gO 53 7 6 49 true,true),(gM 54 2 49 true,true),(gK2 55 85 53 54 49 true,true),(gK2 56 94 52 55 49 true,true),(iP 57 49 56,false),(iM 58 57,false),(gO 59 7 6 58 true,false),(gM 60 1 58 true,false),(gK2 61 153 59 60 58 true,true),(gO 62 7 6 58 true,true),(gM 63 1 58 true,true),(gK2 64 86 62 63 58 true,true),(iG 65 (.eqb false (Tm 61) (Tm 64)) 58 true,false),(iP 66 58 65,false),(iM 67 66,false),(gO 68 7 6 67 true,false),(gM 69 1 67 true,false),(gM 70 2 67 true,false),(iG 71 (.call 154 [(Tm 68),(Tm 69),(Tm 70)]) 67 true,true),(gO 72 7 6 67 true,true),(gM 73 1 67 true,true),(gM 74 2 67 true,true),(iG 75 (.call 87 [(Tm 72),(Tm 73),(Tm 74)]) 67 true,true),(gK2 76 22 71 75 67 true,true),(iP 77 67 76,false),(iM 78 77,false),(gO 79 7 6 78 true,false),(gM 80 1 78 true,false),(gM 81 2 78 true,false),(iG 82 (.call 150 [(Tm 79),(Tm 80),(Tm 81)]) 78 true,true),(gO 83 7 6 78 true,true),(gM 84 1 78 true,true),(gM 85 2 78 true,true),(iG 86 (.call 83 [(Tm 83),(Tm 84),(Tm 85)]) 78 true,true),(iG 87 (.eqb false (Tm 82) (Tm 86)) 78 true,false),(iP 88 78 87,false),(iM 12 88,false)]
def M9:aC:=(sq akJ (dq akK .ret))
def aPA:aS:=⟨6,89,M9,[.tmp 12]⟩
def arX:Rg:=[iZ 2]
def arY:Rg:=[iM 4 0,iA 5 (.call 0 [(Tm 4),(Ci 8),(Ci 4)]),iA 3 (.alloc [zI,.aB,.aB,.aB,.aB,.aB,.aB]),iS 7 3 5]
def arZ:Rg:=[iM 6 0,iO 7 7 3,iK2 8 3 6 7]
def asA:Rg:=[iM 9 0,iO 10 7 3,iK2 11 6 9 10,iM 2 11]
def Ve:aC:=(sq arX (sq arY (sq arZ (sq asA .ret))))
def aUI:aS:=⟨1,12,Ve,[.tmp 2]⟩
def JM:Rg:=[iI 2 0]
def JN:Rg:=[iM 4 0,iN 5 4,iM 3 5]
def JO:Rg:=[iM 6 3,iC 7 .gtr 6 0,iM 8 7,gM 9 0 8 true,gM 10 3 8 true,gC 11 .sub 10 1 8 true,iG 12 (.a5Q 1 (Tm 9) (Tm 11)) 8 true,gL 13 12 8 true,iG 14 (.bin .eql (Tm 13) (.const (.int .u32 0))) 8 true,iP 15 8 14]
def JP:Rg:=[iM 16 3,iC 17 .sub 16 1,iM 3 17]
def JL:aC:=(.seq (sq JO (.cond (Tm 15) .skip (.exit 0))) (.block 1 (.region JP)))
def sU:Rg:=[iM 18 3,iM 2 18]
def pE:aC:=(sq JM (sq JN (.seq (.block 0 (.loop JL)) (sq sU .ret))))
def alV:List Nat:=[]
def yI:aS:=⟨1,19,pE,[.tmp 2]⟩
def A6:Rg:=[iT 2 false]
def A7:Rg:=[iM 3 0,iK 4 138 3,iC 5 .gtr 4 512,iM 2 5]
def DI:aC:=(sq A6 (sq A7 .ret))
def atN:List Nat:=[]
def lj:aS:=⟨1,6,DI,[.tmp 2]⟩
def Bl:Rg:=[iZ 2,iI 3 0]
def Bm:Rg:=[iM 5 0,iK 6 138 5,iM 4 6]
def Bn:Rg:=[iM 7 4,iC 8 .gtr 7 512]
def Bo:Rg:=[iZ 2,iI 3 2]
def Bp:Rg:=[iM 9 0,iM 10 4,iM 11 4,iA 12 (.slice 1 (Tm 9) none (some (Tm 10)) (some (Tm 11))),iM 2 12,iI 3 0]
def DK:aC:=(sq Bl (sq Bm (.seq (sq Bn (.cond (Tm 8) (sq Bo .ret) .skip)) (sq Bp .ret))))
def atQ:List Nat:=[]
def ln:aS:=⟨1,13,DK,[.tmp 2,.tmp 3]⟩
def Pp:Rg:=[iZ 2]
def Pq:Rg:=[iM 4 0,iA 5 (.conv .u32 (Tm 4)),iM 6 0,iA 7 (.bin .shr (Tm 6) (.const (.int .u64 32))),iA 8 (.conv .u32 (Tm 7)),iA 9 (.a5F true 1 2 [(.int .u32 0)] [(0,(Tm 5)),(1,(Tm 8))]),iM 3 9]
def Ps:Rg:=[iM 10 3,iM 11 3,iK 12 138 11,iA 13 (.slice 1 (Tm 10) none (some (Tm 12)) none),iM 2 13]
def JQ:aC:=(sq Pp (sq Pq (sq Ps .ret)))
def aGQ:List Nat:=[9]
def G1:aS:=⟨1,14,JQ,[.tmp 2]⟩
def P8:Rg:=[iZ 2]
def P9:Rg:=[iM 3 0,iM 4 0,iK 5 138 4,iA 6 (.slice 1 (Tm 3) none (some (Tm 5)) none),iA 7 (.append 1 4 (.const .aB) (Tm 6)),iM 2 7]
def JS:aC:=(sq P8 (sq P9 .ret))
def aGS:List Nat:=[]
def G2:aS:=⟨1,8,JS,[.tmp 2]⟩
def aaX:Rg:=[iI 4 0]
def aaY:Rg:=[iM 8 0,iK 9 138 8,iM 10 1,iK 11 138 10,iM 5 9,iM 6 11]
def aaZ:Rg:=[iM 13 5,iM 14 6,iB 15 .lss 13 14,iM 12 15]
def abA:Rg:=[iI 4 (-1)]
def abB:Rg:=[iM 17 5,iM 18 6,iB 19 .gtr 17 18,iM 16 19]
def abC:Rg:=[iI 4 1]
def abD:Rg:=[iM 20 5,iC 21 .sub 20 1,iM 7 21]
def abE:Rg:=[iM 22 7,iC 23 .geq 22 0]
def abF:Rd:=[(iM 27 0,false),(iM 28 7,false),(iX 29 1 27 28,false),(iL 30 29,false),(iM 31 1,false),(iM 32 7,false),(iX 33 1 31 32,false),(iL 34 33,false),(iB 35 .lss 30 34,false),(iM 26 35,false)]
def abG:Rg:=[iI 4 (-1)]
def Pe:Rd:=[(iM 37 0,false),(iM 38 7,false),(iX 39 1 37 38,false),(iL 40 39,false),(iM 41 1,false),(iM 42 7,false),(iX 43 1 41 42,false),(iL 44 43,false),(iB 45 .gtr 40 44,false),(iM 36 45,false)]
def Pf:Rg:=[iI 4 1]
def Pg:Rg:=[iM 24 7,iC 25 .sub 24 1,iM 7 25]
def Pd:aC:=(.seq (sq abE (.cond (Tm 23) .skip (.exit 1))) (.seq (.block 2 (.block 3 (dq abF (.cond (Tm 26) (sq abG .ret) (dq Pe (.cond (Tm 36) (sq Pf .ret) .skip)))))) (.region Pg)))
def Ph:Rg:=[iI 4 0]
def QP:aC:=(sq aaX (sq aaY (.seq (.block 0 (sq aaZ (.cond (Tm 12) (sq abA .ret) (sq abB (.cond (Tm 16) (sq abC .ret) .skip))))) (.seq (sq abD (.block 1 (.loop Pd))) (sq Ph .ret)))))
def aPU:List Nat:=[]
def alL:aS:=⟨2,46,QP,[.tmp 4]⟩
def aaP:Rg:=[iZ 4,iI 5 0]
def aaQ:Rg:=[iM 9 0,iK 10 137 9,iM 11 10,gM 12 1 11 false,gK 13 137 12 11 false,iQ 14 11 13]
def uu:Rg:=[iZ 4,iI 5 2]
def aaR:Rd:=[(iM 15 0,true),(iM 16 0,false),(iK 17 138 16,true),(iA 18 (.slice 1 (Tm 15) none (some (Tm 17)) none),true),(iM 19 1,true),(iM 20 1,true),(iK 21 138 20,true),(iA 22 (.slice 1 (Tm 19) none (some (Tm 21)) none),false),(iM 0 18,false),(iM 1 22,false)]
def aaS:Rg:=[iM 23 0,iN 24 23,iM 25 1,iN 26 25,iB 27 .lss 24 26]
def aaT:Rg:=[iM 28 1,iM 29 0,iM 0 28,iM 1 29]
def uv:Rg:=[iM 30 0,iN 31 30,iC 32 .add 31 1,iA 33 (.a5H 1 4 [(.int .u32 0)] (Tm 32) (Tm 32)),iM 6 33]
def uw:Rg:=[iA 7 (.mv (.const (.int .u64 0)))]
def ux:Rg:=[iM 34 0,iN 35 34,iI 36 0]
def aaU:Rg:=[iB 37 .lss 36 35]
def Ou:Rg:=[iM 38 36,iM 8 38]
def Ov:Rg:=[iM 39 7,iM 40 0,iM 41 8,iX 42 1 40 41,iL 43 42,iA 44 (.conv .u64 (Tm 43)),iB 45 .add 39 44,iM 7 45]
def Ow:Rg:=[iM 46 8,iM 47 1,iN 48 47,iB 49 .lss 46 48]
def Ox:Rg:=[iM 50 7,iM 51 1,iM 52 8,iX 53 1 51 52,iL 54 53,iA 55 (.conv .u64 (Tm 54)),iB 56 .add 50 55,iM 7 56]
def bo:Rg:=[iM 57 6,iM 58 8,iM 59 7,iA 60 (.conv .u32 (Tm 59)),iX 61 1 57 58,iS 1 61 60]
def br:Rg:=[iM 62 7,iA 63 (.bin .shr (Tm 62) (.const (.int .u64 32))),iM 7 63]
def bs:Rg:=[iC 64 .add 36 1,iM 36 64]
def bn:aC:=(sq aaU (.seq (.cond (Tm 37) .skip (.exit 0)) (.seq (.block 1 (sq Ou (sq Ov (.seq (sq Ow (.cond (Tm 49) (.region Ox) .skip)) (sq bo (.region br)))))) (.region bs))))
def bu:Rg:=[iM 65 6,iM 66 0,iN 67 66,iM 68 7,iA 69 (.conv .u32 (Tm 68)),iX 70 1 65 67,iS 1 70 69]
def bv:Rg:=[iM 71 6,iK 72 141 71,iE 73 72 0,iE 74 72 1,iM 4 73,iM 5 74]
def QO:aC:=(sq aaP (.seq (sq aaQ (.cond (Tm 14) (sq uu .ret) .skip)) (dq aaR (.seq (sq aaS (.cond (Tm 27) (.region aaT) .skip)) (sq uv (sq uw (.seq (sq ux (.block 0 (.loop bn))) (sq bu (sq bv .ret)))))))))
def aPS:List Nat:=[]
def alJ:aS:=⟨2,75,QO,[.tmp 4,.tmp 5]⟩
def acL:Rg:=[iZ 4,iI 5 0]
def acM:Rg:=[iM 11 0,iK 12 137 11,iM 13 12,gM 14 1 13 false,gK 15 137 14 13 false,iQ 16 13 15,iM 10 16]
def vd:Rg:=[iZ 4,iI 5 2]
def acN:Rg:=[iM 18 0,iM 19 1,iK2 20 129 18 19,iC 21 .lss 20 0,iM 17 21]
def acO:Rg:=[iZ 4,iI 5 4]
def acP:Rd:=[(iM 22 0,true),(iM 23 0,false),(iK 24 138 23,true),(iA 25 (.slice 1 (Tm 22) none (some (Tm 24)) none),true),(iM 26 1,true),(iM 27 1,true),(iK 28 138 27,true),(iA 29 (.slice 1 (Tm 26) none (some (Tm 28)) none),false),(iM 0 25,false),(iM 1 29,false)]
def ve:Rg:=[iM 30 0,iN 31 30,iA 32 (.a5H 1 4 [(.int .u32 0)] (Tm 31) (Tm 31)),iM 6 32]
def vf:Rg:=[iA 7 (.mv (.const (.int .u64 0)))]
def vh:Rg:=[iM 33 0,iN 34 33,iI 35 0]
def acQ:Rg:=[iB 36 .lss 35 34]
def P1:Rg:=[iM 37 35,iM 8 37]
def P2:Rg:=[iM 38 0,iM 39 8,iX 40 1 38 39,iL 41 40,iA 42 (.conv .u64 (Tm 41)),iM 43 7,iB 44 .sub 42 43,iM 9 44]
def P3:Rg:=[iM 45 8,iM 46 1,iN 47 46,iB 48 .lss 45 47]
def P4:Rg:=[iM 49 9,iM 50 1,iM 51 8,iX 52 1 50 51,iL 53 52,iA 54 (.conv .u64 (Tm 53)),iB 55 .sub 49 54,iM 9 55]
def cd:Rg:=[iM 56 6,iM 57 8,iM 58 9,iA 59 (.conv .u32 (Tm 58)),iX 60 1 56 57,iS 1 60 59]
def ce:Rg:=[iM 61 9,iA 62 (.bin .shr (Tm 61) (.const (.int .u64 63))),iM 7 62]
def cf:Rg:=[iC 63 .add 35 1,iM 35 63]
def cb:aC:=(sq acQ (.seq (.cond (Tm 36) .skip (.exit 1)) (.seq (.block 2 (sq P1 (sq P2 (.seq (sq P3 (.cond (Tm 48) (.region P4) .skip)) (sq cd (.region ce)))))) (.region cf))))
def cg:Rg:=[iM 64 6,iK 65 141 64,iE 66 65 0,iE 67 65 1,iM 4 66,iM 5 67]
def QX:aC:=(sq acL (.seq (.block 0 (sq acM (.cond (Tm 10) (sq vd .ret) (sq acN (.cond (Tm 17) (sq acO .ret) .skip))))) (dq acP (sq ve (sq vf (.seq (sq vh (.block 1 (.loop cb))) (sq cg .ret)))))))
def aQB:List Nat:=[]
def alZ:aS:=⟨2,68,QX,[.tmp 4,.tmp 5]⟩
def abY:Rg:=[iZ 4,iI 5 0]
def abZ:Rg:=[iM 12 0,iK 13 137 12,iM 14 13,gM 15 1 14 false,gK 16 137 15 14 false,iQ 17 14 16]
def u0:Rg:=[iZ 4,iI 5 2]
def acA:Rd:=[(iM 18 0,true),(iM 19 0,false),(iK 20 138 19,true),(iA 21 (.slice 1 (Tm 18) none (some (Tm 20)) none),true),(iM 22 1,true),(iM 23 1,true),(iK 24 138 23,true),(iA 25 (.slice 1 (Tm 22) none (some (Tm 24)) none),false),(iM 0 21,false),(iM 1 25,false)]
def u1:Rg:=[iM 26 0,iN 27 26,iM 28 1,iN 29 28,iB 30 .add 27 29,iA 31 (.a5H 1 4 [(.int .u32 0)] (Tm 30) (Tm 30)),iM 6 31]
def u5:Rg:=[iM 32 0,iN 33 32,iI 34 0]
def acB:Rg:=[iB 35 .lss 34 33]
def u6:Rg:=[iM 36 34,iX 37 1 32 34,iL 38 37,iM 7 36,iM 8 38]
def u7:Rg:=[iA 9 (.mv (.const (.int .u64 0)))]
def u9:Rg:=[iM 39 1,iN 40 39,iI 41 0]
def Pt:Rg:=[iB 42 .lss 41 40]
def Pu:Rg:=[iM 43 41,iX 44 1 39 41,iL 45 44,iM 10 43,iM 11 45]
def Pv:Rg:=[iM 46 9,iM 47 8,iA 48 (.conv .u64 (Tm 47)),iM 49 11,iA 50 (.conv .u64 (Tm 49)),iB 51 .mul 48 50,iM 52 6,iM 53 7,iM 54 10,iB 55 .add 53 54,iX 56 1 52 55,iL 57 56,iA 58 (.conv .u64 (Tm 57)),iB 59 .add 51 58,iB 60 .add 46 59,iM 9 60]
def Pw:Rg:=[iM 61 6,iM 62 7,iM 63 10,iB 64 .add 62 63,iM 65 9,iA 66 (.conv .u32 (Tm 65)),iX 67 1 61 64,iS 1 67 66]
def Px:Rg:=[iM 68 9,iA 69 (.bin .shr (Tm 68) (.const (.int .u64 32))),iM 9 69]
def Py:Rg:=[iC 70 .add 41 1,iM 41 70]
def bx:aC:=(sq Pt (.seq (.cond (Tm 42) .skip (.exit 2)) (.seq (.block 3 (sq Pu (sq Pv (sq Pw (.region Px))))) (.region Py))))
def b8:Rg:=[iM 71 6,iM 72 7,iM 73 1,iN 74 73,iB 75 .add 72 74,iM 76 9,iA 77 (.conv .u32 (Tm 76)),iX 78 1 71 75,iS 1 78 77]
def Pz:Rg:=[iC 79 .add 34 1,iM 34 79]
def bz:aC:=(sq acB (.seq (.cond (Tm 35) .skip (.exit 0)) (.seq (.block 1 (sq u6 (sq u7 (.seq (sq u9 (.block 2 (.loop bx))) (.region b8))))) (.region Pz))))
def b9:Rg:=[iM 80 6,iK 81 141 80,iE 82 81 0,iE 83 81 1,iM 4 82,iM 5 83]
def QU:aC:=(sq abY (.seq (sq abZ (.cond (Tm 17) (sq u0 .ret) .skip)) (dq acA (sq u1 (.seq (sq u5 (.block 0 (.loop bz))) (sq b9 .ret))))))
def aPY:List Nat:=[]
def alW:aS:=⟨2,84,QU,[.tmp 4,.tmp 5]⟩
def O4:Rg:=[iI 2 0]
def O5:Rg:=[iM 6 0,iK 7 138 6,iM 3 7]
def O6:Rg:=[iM 8 3,iC 9 .eql 8 0]
def O7:Rg:=[iI 2 0]
def O8:Rg:=[iM 10 3,iC 11 .sub 10 1,iC 12 .mul 11 32,iM 4 12]
def O9:Rg:=[iM 13 0,iM 14 3,iC 15 .sub 14 1,iX 16 1 13 15,iL 17 16,iM 5 17]
def Pa:Rg:=[iM 18 5,iA 19 (.bin .gtr (Tm 18) (.const (.int .u32 0)))]
def Pb:Rg:=[iM 22 4,iC 23 .add 22 1,iM 4 23]
def Pc:Rg:=[iM 20 5,iA 21 (.bin .shr (Tm 20) (.const (.int .u64 1))),iM 5 21]
def O2:aC:=(.seq (sq Pa (.cond (Tm 19) .skip (.exit 0))) (.seq (.block 1 (.region Pb)) (.region Pc)))
def A1:Rg:=[iM 24 4,iM 2 24]
def JJ:aC:=(sq O4 (sq O5 (.seq (sq O6 (.cond (Tm 9) (sq O7 .ret) .skip)) (sq O8 (.seq (sq O9 (.block 0 (.loop O2))) (sq A1 .ret))))))
def aGP:List Nat:=[]
def Gz:aS:=⟨1,25,JJ,[.tmp 2]⟩
def abQ:Rg:=[iZ 4,iI 5 0]
def abR:Rg:=[iM 8 0,iK 9 137 8,iM 10 9,gM 11 1 10 false,gK 12 137 11 10 false,iQ 13 10 12]
def uz:Rg:=[iZ 4,iI 5 2]
def abS:Rg:=[iM 14 0,iK 15 135 14,iM 16 1,iK 17 135 16,iM 0 15,iM 1 17]
def abT:Rg:=[iM 18 1,iN 19 18,iC 20 .gtr 19 0]
def abU:Rg:=[iM 22 0,iM 23 1,iK2 24 136 22 23,iM 21 24,iE 25 21 0,iE 26 21 1,iM 6 25,iM 7 26]
def abV:Rg:=[iM 27 1,iM 28 7,iM 0 27,iM 1 28]
def abO:aC:=(.seq (sq abT (.cond (Tm 20) .skip (.exit 0))) (.block 1 (sq abU (.region abV))))
def abW:Rg:=[iM 29 0,iM 4 29,iI 5 0]
def QT:aC:=(sq abQ (.seq (sq abR (.cond (Tm 13) (sq uz .ret) .skip)) (sq abS (.seq (.block 0 (.loop abO)) (sq abW .ret)))))
def aPX:List Nat:=[]
def alS:aS:=⟨2,30,QT,[.tmp 4,.tmp 5]⟩
def abI:Rg:=[iZ 4,iZ 5,iI 6 0]
def abJ:Rg:=[iM 10 0,iK 11 137 10,iM 12 11,gM 13 1 12 false,gK 14 137 13 12 false,iQ 15 12 14,iM 9 15]
def uy:Rg:=[iZ 4,iZ 5,iI 6 2]
def abK:Rg:=[iM 17 1,iK 18 138 17,iC 19 .eql 18 0,iM 16 19]
def abL:Rg:=[iZ 4,iZ 5,iI 6 3]
def abM:Rd:=[(iM 21 0,true),(iM 22 0,false),(iK 23 138 22,true),(iA 24 (.slice 1 (Tm 21) none (some (Tm 23)) none),true),(iM 25 1,true),(iM 26 1,true),(iK 27 138 26,true),(iA 28 (.slice 1 (Tm 25) none (some (Tm 27)) none),false),(iK2 29 136 24 28,true),(iM 20 29,false),(iE 30 20 0,false),(iE 31 20 1,false),(iM 7 30,false),(iM 8 31,false)]
def abN:Rg:=[iM 32 7,iM 33 8,iM 4 32,iM 5 33,iI 6 0]
def QR:aC:=(sq abI (.seq (.block 0 (sq abJ (.cond (Tm 9) (sq uy .ret) (sq abK (.cond (Tm 16) (sq abL .ret) .skip))))) (dq abM (sq abN .ret))))
def aPV:List Nat:=[]
def alN:aS:=⟨2,34,QR,[.tmp 4,.tmp 5,.tmp 6]⟩
def Bb:Rg:=[iZ 4,iA 5 (.mv (.const (.int .u32 0)))]
def Bc:Rg:=[iM 9 0,iN 10 9,iA 11 (.a5H 1 4 [(.int .u32 0)] (Tm 10) (Tm 10)),iM 6 11]
def Bd:Rg:=[iA 7 (.mv (.const (.int .u64 0)))]
def Be:Rg:=[iM 12 0,iN 13 12,iC 14 .sub 13 1,iM 8 14]
def Bf:Rg:=[iM 15 8,iC 16 .geq 15 0]
def Bg:Rg:=[iM 19 7,iA 20 (.bin .shl (Tm 19) (.const (.int .u64 32))),iM 21 0,iM 22 8,iX 23 1 21 22,iL 24 23,iA 25 (.conv .u64 (Tm 24)),iB 26 .or 20 25,iM 7 26]
def Bh:Rg:=[iM 27 6,iM 28 8,iM 29 7,iM 30 1,iA 31 (.conv .u64 (Tm 30)),iB 32 .quo 29 31,iA 33 (.conv .u32 (Tm 32)),iX 34 1 27 28,iS 1 34 33]
def Bi:Rg:=[iM 35 7,iM 36 1,iA 37 (.conv .u64 (Tm 36)),iB 38 .rem 35 37,iM 7 38]
def Bj:Rg:=[iM 17 8,iC 18 .sub 17 1,iM 8 18]
def A9:aC:=(.seq (sq Bf (.cond (Tm 16) .skip (.exit 0))) (.seq (.block 1 (sq Bg (sq Bh (.region Bi)))) (.region Bj)))
def lm:Rg:=[iM 39 6,iM 40 6,iK 41 138 40,iA 42 (.slice 1 (Tm 39) none (some (Tm 41)) none),iM 43 7,iA 44 (.conv .u32 (Tm 43)),iM 4 42,iM 5 44]
def DJ:aC:=(sq Bb (sq Bc (sq Bd (.seq (sq Be (.block 0 (.loop A9))) (sq lm .ret)))))
def atP:List Nat:=[]
def ll:aS:=⟨2,45,DJ,[.tmp 4,.tmp 5]⟩
def atU:Rg:=[iZ 4]
def atV:Rg:=[iM 9 0,iN 10 9,iC 11 .add 10 1,iA 12 (.a5H 1 4 [(.int .u32 0)] (Tm 11) (Tm 11)),iM 5 12]
def atW:Rg:=[iA 6 (.mv (.const (.int .u64 0)))]
def atX:Rg:=[iM 13 0,iN 14 13,iI 15 0]
def atY:Rg:=[iB 16 .lss 15 14]
def atZ:Rg:=[iM 17 15,iX 18 1 13 15,iL 19 18,iM 7 17,iM 8 19]
def auA:Rg:=[iM 20 6,iM 21 8,iA 22 (.conv .u64 (Tm 21)),iM 23 1,iB 24 .shl 22 23,iB 25 .or 20 24,iM 6 25]
def auB:Rg:=[iM 26 5,iM 27 7,iM 28 6,iA 29 (.conv .u32 (Tm 28)),iX 30 1 26 27,iS 1 30 29]
def auC:Rg:=[iM 31 6,iA 32 (.bin .shr (Tm 31) (.const (.int .u64 32))),iM 6 32]
def auD:Rg:=[iC 33 .add 15 1,iM 15 33]
def acR:aC:=(sq atY (.seq (.cond (Tm 16) .skip (.exit 0)) (.seq (.block 1 (sq atZ (sq auA (sq auB (.region auC))))) (.region auD))))
def acS:Rg:=[iM 34 5,iM 35 0,iN 36 35,iM 37 6,iA 38 (.conv .u32 (Tm 37)),iX 39 1 34 36,iS 1 39 38]
def acT:Rg:=[iM 40 5,iM 4 40]
def ch:aC:=(sq atU (sq atV (sq atW (.seq (sq atX (.block 0 (.loop acR))) (sq acS (sq acT .ret))))))
def aVE:List Nat:=[]
def nup:aS:=⟨2,41,ch,[.tmp 4]⟩
def kx:Rg:=[iZ 4,iZ 5]
def ky:Rg:=[iM 21 0,iM 22 1,iK2 23 129 21 22,iC 24 .lss 23 0]
def kz:Rg:=[iM 25 0,iK 26 135 25,iZ 4,iM 5 26]
def k6:Rg:=[iM 27 1,iN 28 27,iC 29 .eql 28 1]
def k7:Rg:=[iM 31 0,iM 32 1,iA 33 (.a5Q 1 (Tm 32) (Ci 0)),iL 34 33,iK2 35 140 31 34,iM 30 35,iE 36 30 0,iE 37 30 1,iM 6 36,iM 7 37]
def la:Rg:=[iM 38 6,iM 39 7,iA 40 (.conv .u64 (Tm 39)),iK 41 132 40,iM 4 38,iM 5 41]
def lb:Rg:=[iA 8 (.mv (.const (.int .u64 0)))]
def lf:Rg:=[iM 42 1,iM 43 1,iN 44 43,iC 45 .sub 44 1,iX 46 1 42 45,iL 47 46,iM 48 8,iB 49 .shl 47 48,iA 50 (.bin .lss (Tm 49) (.const (.int .u32 2147483648)))]
def lg:Rg:=[iM 51 8,iA 52 (.bin .add (Tm 51) (.const (.int .u64 1))),iM 8 52]
def ku:aC:=(.seq (sq lf (.cond (Tm 50) .skip (.exit 0))) (.block 1 (.region lg)))
def VY:Rd:=[(iM 53 0,false),(iM 54 8,false),(iK2 55 143 53 54,true),(iM 56 1,true),(iM 57 8,true),(iK2 58 143 56 57,true),(iM 59 1,true),(iN 60 59,true),(iA 61 (.slice 1 (Tm 58) none (some (Tm 60)) none),false),(iM 9 55,false),(iM 10 61,false)]
def VZ:Rg:=[iM 62 10,iN 63 62,iM 11 63]
def WA:Rg:=[iM 64 9,iN 65 64,iM 66 11,iB 67 .sub 65 66,iA 68 (.a5H 1 4 [(.int .u32 0)] (Tm 67) (Tm 67)),iM 12 68]
def WB:Rd:=[(iM 69 10,false),(iM 70 11,false),(iC 71 .sub 70 1,false),(iX 72 1 69 71,false),(iL 73 72,false),(iA 74 (.conv .u64 (Tm 73)),false),(iM 75 10,false),(iM 76 11,false),(iC 77 .sub 76 2,false),(iX 78 1 75 77,false),(iL 79 78,false),(iA 80 (.conv .u64 (Tm 79)),false),(iM 13 74,false),(iM 14 80,false)]
def WC:Rg:=[iM 81 12,iN 82 81,iC 83 .sub 82 1,iM 15 83]
def WD:Rg:=[iM 84 15,iC 85 .geq 84 0]
def CX:Rd:=[(iM 88 9,false),(iM 89 15,false),(iM 90 11,false),(iB 91 .add 89 90,false),(iX 92 1 88 91,false),(iL 93 92,false),(iA 94 (.conv .u64 (Tm 93)),false),(iA 95 (.bin .shl (Tm 94) (.const (.int .u64 32))),false),(iM 96 9,false),(iM 97 15,false),(iM 98 11,false),(iB 99 .add 97 98,false),(iC 100 .sub 99 1,false),(iX 101 1 96 100,false),(iL 102 101,false),(iA 103 (.conv .u64 (Tm 102)),false),(iB 104 .or 95 103,false),(iM 16 104,false)]
def CY:Rd:=[(iM 105 16,false),(iM 106 13,false),(iB 107 .quo 105 106,false),(iM 108 16,false),(iM 109 13,false),(iB 110 .rem 108 109,false),(iM 17 107,false),(iM 18 110,false)]
def WE:Rg:=[iM 111 17,iA 112 (.bin .geq (Tm 111) (.const (.int .u64 4294967296))),iM 113 112,gM 114 17 113 false,gM 115 14 113 false,gB 116 .mul 114 115 113 false,gM 117 18 113 false,iG 118 (.bin .shl (Tm 117) (.const (.int .u64 32))) 113 false,gM 119 9 113 false,gM 120 15 113 false,gM 121 11 113 false,gB 122 .add 120 121 113 false,gC 123 .sub 122 2 113 false,iG 124 (.a5Q 1 (Tm 119) (Tm 123)) 113 false,gL 125 124 113 false,iG 126 (.conv .u64 (Tm 125)) 113 false,gB 127 .or 118 126 113 false,gB 128 .gtr 116 127 113 false,iQ 129 113 128]
def CZ:Rg:=[iM 130 17,iA 131 (.bin .sub (Tm 130) (.const (.int .u64 1))),iM 17 131]
def DA:Rg:=[iM 132 18,iM 133 13,iB 134 .add 132 133,iM 18 134]
def DB:Rg:=[iM 135 18,iA 136 (.bin .geq (Tm 135) (.const (.int .u64 4294967296)))]
def uU:aC:=(.seq (sq WE (.cond (Tm 129) .skip (.exit 4))) (.block 5 (sq CZ (sq DA (sq DB (.cond (Tm 136) (.exit 4) .skip))))))
def DC:Rg:=[iM 137 9,iM 138 15,iM 139 15,iM 140 11,iB 141 .add 139 140,iC 142 .add 141 1,iA 143 (.slice 1 (Tm 137) (some (Tm 138)) (some (Tm 142)) none),iM 144 10,iM 145 17,iA 146 (.call 142 [(Tm 143),(Tm 144),(Tm 145)])]
def DD:Rg:=[iM 147 17,iA 148 (.bin .sub (Tm 147) (.const (.int .u64 1))),iM 17 148]
def DE:Rg:=[iM 149 9,iM 150 15,iM 151 15,iM 152 11,iB 153 .add 151 152,iC 154 .add 153 1,iA 155 (.slice 1 (Tm 149) (some (Tm 150)) (some (Tm 154)) none),iM 156 10,iK2 157 139 155 156]
def uV:Rg:=[iM 158 12,iM 159 15,iM 160 17,iA 161 (.conv .u32 (Tm 160)),iX 162 1 158 159,iS 1 162 161]
def WF:Rg:=[iM 86 15,iC 87 .sub 86 1,iM 15 87]
def CV:aC:=(.seq (sq WD (.cond (Tm 85) .skip (.exit 2))) (.seq (.block 3 (dq CX (dq CY (.seq (.block 4 (.loop uU)) (.seq (sq DC (.cond (Tm 146) (sq DD (.region DE)) .skip)) (.region uV)))))) (.region WF)))
def DF:Rg:=[iM 163 11,iA 164 (.a5H 1 4 [(.int .u32 0)] (Tm 163) (Tm 163)),iM 19 164]
def DG:Rg:=[iM 165 19,iN 166 165,iI 167 0]
def WG:Rg:=[iB 168 .lss 167 166]
def WH:Rg:=[iM 169 167,iM 20 169]
def WI:Rd:=[(iM 170 19,false),(iM 171 20,false),(iM 172 9,false),(iM 173 20,false),(iC 174 .add 173 1,false),(iX 175 1 172 174,false),(iL 176 175,false),(iA 177 (.conv .u64 (Tm 176)),false),(iA 178 (.bin .shl (Tm 177) (.const (.int .u64 32))),false),(iM 179 9,false),(iM 180 20,false),(iX 181 1 179 180,false),(iL 182 181,false),(iA 183 (.conv .u64 (Tm 182)),false),(iB 184 .or 178 183,false),(iM 185 8,false),(iB 186 .shr 184 185,false),(iA 187 (.conv .u32 (Tm 186)),false),(iX 188 1 170 171,false),(iS 1 188 187,true)]
def WJ:Rg:=[iC 189 .add 167 1,iM 167 189]
def CW:aC:=(sq WG (.seq (.cond (Tm 168) .skip (.exit 6)) (.seq (.block 7 (sq WH (.draw WI))) (.region WJ))))
def WK:Rd:=[(iM 190 12,true),(iM 191 12,false),(iK 192 138 191,true),(iA 193 (.slice 1 (Tm 190) none (some (Tm 192)) none),true),(iM 194 19,true),(iM 195 19,true),(iK 196 138 195,true),(iA 197 (.slice 1 (Tm 194) none (some (Tm 196)) none),false),(iM 4 193,false),(iM 5 197,false)]
def zR:aC:=(sq kx (.seq (sq ky (.cond (Tm 24) (sq kz .ret) .skip)) (.seq (sq k6 (.cond (Tm 29) (sq k7 (sq la .ret)) .skip)) (sq lb (.seq (.block 0 (.loop ku)) (dq VY (sq VZ (sq WA (dq WB (.seq (sq WC (.block 2 (.loop CV))) (sq DF (.seq (sq DG (.block 6 (.loop CW))) (dq WK .ret)))))))))))))
def alQ:List Nat:=[]
def UU:aS:=⟨2,198,zR,[.tmp 4,.tmp 5]⟩
def QZ:Rg:=[iT 6 false]
def RA:Rg:=[iA 7 (.mv (.const (.int .u64 0))),iA 8 (.mv (.const (.int .u64 0)))]
def RB:Rg:=[iM 13 1,iN 14 13,iI 15 0]
def RC:Rg:=[iB 16 .lss 15 14]
def RD:Rg:=[iM 17 15,iX 18 1 13 15,iL 19 18,iM 9 17,iM 10 19]
def RE:Rg:=[iM 20 7,iM 21 2,iM 22 10,iA 23 (.conv .u64 (Tm 22)),iB 24 .mul 21 23,iB 25 .add 20 24,iM 7 25]
def RG:Rg:=[iM 26 0,iM 27 9,iX 28 1 26 27,iL 29 28,iA 30 (.conv .u64 (Tm 29)),iM 31 7,iA 32 (.bin .and (Tm 31) (.const (.int .u64 4294967295))),iB 33 .sub 30 32,iM 34 8,iB 35 .sub 33 34,iM 11 35]
def RH:Rg:=[iM 36 0,iM 37 9,iM 38 11,iA 39 (.conv .u32 (Tm 38)),iX 40 1 36 37,iS 1 40 39]
def RI:Rg:=[iM 41 11,iA 42 (.bin .shr (Tm 41) (.const (.int .u64 63))),iM 8 42]
def RJ:Rg:=[iM 43 7,iA 44 (.bin .shr (Tm 43) (.const (.int .u64 32))),iM 7 44]
def NL:Rg:=[iC 45 .add 15 1,iM 15 45]
def NK:aC:=(sq RC (.seq (.cond (Tm 16) .skip (.exit 0)) (.seq (.block 1 (sq RD (sq RE (sq RG (sq RH (sq RI (.region RJ))))))) (.region NL))))
def NM:Rg:=[iM 46 0,iM 47 1,iN 48 47,iX 49 1 46 48,iL 50 49,iA 51 (.conv .u64 (Tm 50)),iM 52 7,iB 53 .sub 51 52,iM 54 8,iB 55 .sub 53 54,iM 12 55]
def NN:Rg:=[iM 56 0,iM 57 1,iN 58 57,iM 59 12,iA 60 (.conv .u32 (Tm 59)),iX 61 1 56 58,iS 1 61 60]
def NO:Rg:=[iM 62 12,iA 63 (.bin .shr (Tm 62) (.const (.int .u64 63))),iA 64 (.bin .eql (Tm 63) (.const (.int .u64 1))),iM 6 64]
def uA:aC:=(sq QZ (sq RA (.seq (sq RB (.block 0 (.loop NK))) (sq NM (sq NN (sq NO .ret))))))
def P6:List Nat:=[]
def BM:aS:=⟨3,65,uA,[.tmp 6]⟩
def WO:Rg:=[iA 4 (.mv (.const (.int .u64 0)))]
def WP:Rg:=[iM 7 1,iN 8 7,iI 9 0]
def WQ:Rg:=[iB 10 .lss 9 8]
def WR:Rg:=[iM 11 9,iX 12 1 7 9,iL 13 12,iM 5 11,iM 6 13]
def WS:Rg:=[iM 14 4,iM 15 0,iM 16 5,iX 17 1 15 16,iL 18 17,iA 19 (.conv .u64 (Tm 18)),iM 20 6,iA 21 (.conv .u64 (Tm 20)),iB 22 .add 19 21,iB 23 .add 14 22,iM 4 23]
def WT:Rg:=[iM 24 0,iM 25 5,iM 26 4,iA 27 (.conv .u32 (Tm 26)),iX 28 1 24 25,iS 1 28 27]
def WU:Rg:=[iM 29 4,iA 30 (.bin .shr (Tm 29) (.const (.int .u64 32))),iM 4 30]
def WV:Rg:=[iC 31 .add 9 1,iM 9 31]
def WM:aC:=(sq WQ (.seq (.cond (Tm 10) .skip (.exit 0)) (.seq (.block 1 (sq WR (sq WS (sq WT (.region WU))))) (.region WV))))
def WW:Rg:=[iM 32 0,iM 33 1,iN 34 33,iX 35 1 32 34,iL 36 35,iM 37 4,iA 38 (.conv .u32 (Tm 37)),iB 39 .add 36 38,iX 40 1 32 34,iS 1 40 39]
def wD:aC:=(sq WO (.seq (sq WP (.block 0 (.loop WM))) (.region WW)))
def V0:List Nat:=[]
def JR:aS:=⟨2,41,wD,[]⟩
open Go Go.RowKit Go.ChangeShapes Go.WideShapes
inductive AT where
 | one (ct:CT)
 | struct (cts:List CT)
 deriving Inhabited
def aiA (P:Program) (n:Nat) (t:TypeId):Option AT :=
 match P.underlying t with
 | some .bool=>some (.one .bool)
 | some (.int k)=>some (.one (.int k))
 | some .string=>some (.one .str)
 | some (.slice _)=>match gE P n t with
  | some [ct]=>some (.one ct)
  | _=>none
 | some (.struct _)=>(gE P n t).map .struct
 | _=>none
def FA (P:Program) (n:Nat):List TypeId→Option (List AT)
 | []=>some []
 | t::ts=>match aiA P n t,FA P n ts with
  | some a,some c=>some (a::c)
  | _,_=>none
inductive AT.Ty:AT→PV→Prop
 | one {ct:CT} {pv:PV} (h:PV.Ty ct pv):AT.Ty (.one ct) pv
 | struct {cts:List CT} {pvs:List PV} (hl:pvs.length=cts.length) (h:∀ (j:Nat) pv ct,pvs[j]?=some pv→cts[j]?=some ct→PV.Ty ct pv):AT.Ty (.struct cts) (.agg pvs)
def AT.TyL:List AT→List PV→Prop
 | [],[]=>True
 | a::c,p::ps=>AT.Ty a p∧AT.TyL c ps
 | _,_=>False
section
variable {H:Type} {enc:TypeId × Value→H} {P:Program} {W:World} {sp:Nat→Bool} {held:Bool}
theorem TrodAll.length:∀ {ts:List TypeId} {vs:List Value} {ds:List (DataW H)} {ps:List MemPlace},DataW.TrodAll enc P W 0 sp held ts vs ds ps→ds.length=ts.length
 | [],[],[],_,_=>rfl
 | [],[],_::_,_,h=>h.elim
 | [],_::_,_,_,h=>h.elim
 | _::_,[],[],_,h=>h.elim
 | _::_,[],_::_,_,h=>h.elim
 | _::_,_::_,[],_,h=>h.elim
 | t::ts,v::vs,d::ds,ps,h=>by obtain⟨p,q,e,c,rfl⟩:=h;simp[TrodAll.length c]
end
attribute [go_sem] pT fZ setCells PV.cells PV.one bZ storeAt cX loadCells dT bnd PV.slice PV.intOf PV.eqs PV.eq1 PV.un keyOf KS.of KS.ofs KS.sh List.all_cons List.all_nil List.set_cons_zero List.set_cons_succ a6W a8V a6R a7S a7B a9Q
attribute [go_sem] Bool.bne_false Bool.bne_true Int.le_refl Int.lt_irrefl decide_true decide_false exists_eq_left exists_eq_left' a6K List.length_replicate a8G Int.natCast_nonneg Option.isSome_some Option.isSome_none a9K Option.getD_none decide_eq_true_eq decide_eq_false_iff_not a7I a8N a6S Nat.sub_zero
def aY (xs:List Int):List (List PV):=xs.map fun n=>[.int .i64 n]
theorem bF {a b:Int} (h:a≠b):(a==b)=false:=by simp[h]
theorem bH {a b:Int} (h:a=b):(a==b)=true:=by simp[h]
theorem dK {a b:Int} (h:a≠b):(a != b)=true:=by simp[h]
theorem cA {a b:Int} (h:a=b):(a != b)=false:=by simp[h]
section
variable {H:PH}
@[go_sem] theorem PH.set_set (o:Nat) (x y:cC):(H.set o x).set o y=H.set o y:=PH.ext fun q=>by
 simp only[aT]; split<;>rfl
@[go_sem] theorem cN (o:Nat) (x:cC):(H.set o x) o=some x:=by simp only[aT,if_true]
end
section
variable {C:Ctx} {K:bQ} {F:PF} {H:PH}
theorem PH.pG (o:Nat) (x:cC):H.over .nil (PH.nil.set o x)=H.set o x:=PH.ext fun q=>by
 rw[gG]; simp only[aT,UP]; split<;>simp_all
theorem PH.sW (o:Nat) (x y:cC):H.over (PH.nil.set o x) (PH.nil.set o y)=H.set o y:=PH.ext fun q=>by
 rw[gG]; simp only[aT,UP]; split<;>simp_all
theorem kJ {name:Nat} {vs:List PV} {c:PH} {R:PV→PH→Prop} {args:List aP} {d:Option Nat} {K:PF→PH→Prop} (h:aG C name vs c R) (i:aP.evs F args=some vs) (e:c.le H)
  (l:∀ r H',R r H'→lN H c H'→K (F.put d r) (H.over c H')):hZ C name args [] d K F H :=
 .inl ⟨vs,c,R,by rw[i]; simp,e,h,l⟩
theorem bA {res:List dQ} {R:PV→PH→Prop} {vs:List PV} {e:jZ} (w:e=.normal∨e=.ret) (c:PH) (h:dQ.evs F H res=some vs) (d:c.le H) (q:R (bO vs) c):aV res R e F H:=by
 have i:∃ vs,dQ.evs F H res=some vs∧∃ l p H2,iU (PF.nil.set 0 (bO vs)) H l p∧H2.le p∧∃ u,l 0=some u∧R u H2 :=
  ⟨vs,h,_,H,c,.refl _ _,d,bO vs,by rw[jS,if_pos rfl],q⟩
 rcases w with rfl | rfl<;>exact i
theorem aHG {t o s k:Nat} {rs:List (List PV)} {R:PV→PH→Prop} {e:jZ} (p:e=.normal∨e=.ret) (h:F t=some (.osl o s 0 k)) (q:H o=some (.rows s rs)) (w:k≤rs.length) (l:R (.sl s (rs.take k)) .nil) :
  aV [.tmp t] R e F H:=by
 have c:∃ vs,dQ.evs F H [.tmp t]=some vs∧∃ d i H2,iU (PF.nil.set 0 (bO vs)) H d i∧H2.le i∧∃ u,d 0=some u∧R u H2:=by refine⟨[.osl o s 0 k],by rw[jU,mX,h,oG],_,_,.nil,.step o q (.refl _ _),a_,.sl s (rs.take k),?_,l⟩;have:0+k≤rs.length:=Om;simp only[PF.frz,jS,if_true,bO,a7Y,PV.frz,PV.sH,PV.dA,true_and,if_pos this,a7W]
 rcases p with rfl | rfl<;>exact c
def bX (v:PV) (r:PV) (H:PH):Prop:=Co r v∧H=PH.nil
theorem aG.aVS {name:Nat} {args:List PV} {H:PH} {v:PV} (h:aG C name args H (bX v)):aG C name args H (aF v) :=
 h.post fun r H' ⟨c,d⟩=>⟨v,c,rfl,d⟩
theorem aF.aVS {v r:PV} {H:PH} (h:aF v r H):bX v r H:=by
 obtain⟨rfl,rfl⟩:=h;exact⟨.refl _,rfl⟩
theorem tG {s b:Nat} {y:PV} {src:List (List PV)} {K:PV→PH→Prop} (i:dT H s y=some src) (e:roomFor 0 src.length b) (c:src=[]→K .aB H)
  (d:src≠[]→∀ o,H o=none→K (.osl o s 0 src.length) (H.set o (.rows s src))):mJ H s b .aB y K:=⟨src,i,e,c,d⟩
theorem Uh {o s b len:Nat} {rs:List (List PV)} {y:PV} {src:List (List PV)} {K:PV→PH→Prop} (p:dT H s y=some src) (l:roomFor len src.length b) (i:H o=some (.rows s rs)) (e:len≤rs.length)
  (c:K (.osl o s 0 (len+src.length)) (H.set o (.rows s (rs.take len++src))))
  (d:∀ o',H o'=none→K (.osl o' s 0 (len+src.length)) (H.set o' (.rows s (rs.take len++src)))):mJ H s b (.osl o s 0 len) y K :=
 ⟨src,p,rfl,rfl,l,rs,i,e,c,d⟩
end
def bP (H:PH) (s:Nat) (v:PV) (rows:List (List PV)):Prop :=
 (rows=[]∧v=.aB)∨∃ q rs,v=.osl q s 0 rows.length∧H q=some (.rows s rs)∧rows.length≤rs.length∧rs.take rows.length=rows
def Seen (s:Nat) (v:PV) (rows:List (List PV)):Prop:=(rows=[]∧v=.aB)∨v=.sl s rows
section
variable {C:Ctx} {K:bQ} {F:PF} {H:PH} {s b:Nat} {v y:PV} {rows src:List (List PV)}
theorem bP.nil:bP H s .aB []:=.inl ⟨rfl,rfl⟩
theorem bP.view (h:bP H s v rows):dT H s v=some rows:=by
 rcases h with ⟨rfl,rfl⟩ | ⟨q,rs,rfl,h1,h2,h3⟩
 ·rfl
 ·have:0+rows.length≤rs.length:=Om;simp only[dT,if_true,h1,true_and,if_pos this,a7W,h3]
theorem Seen.view (h:Seen s v rows):dT H s v=some rows:=by
 rcases h with ⟨rfl,rfl⟩ | rfl
 ·rfl
 ·simp[dT]
theorem bP.ext {H':PH} (h:bP H s v rows) (c:∀ o x,H o=some x→H' o=some x):bP H' s v rows:=by
 rcases h with h | ⟨q,rs,h0,h1,h2,h3⟩
 ·exact .inl h
 ·exact .inr ⟨q,rs,h0,c q _ h1,h2,h3⟩
theorem eZ {K:PV→PH→Prop} (h:bP H s v rows) (A:dT H s y=some src) (w:roomFor rows.length src.length b)
  (u:∀ v' H',bP H' s v' (rows++src)→(∀ o x,H o=some x→(∀ l,v≠.osl o s 0 l)→H' o=some x)→K v' H'):mJ H s b v y K:=by
 rcases h with ⟨rfl,rfl⟩ | ⟨q,rs,rfl,h1,h2,h3⟩
 ·refine⟨src,A,w,fun e=>?_,fun e o p=>?_⟩
  ·subst e;exact u _ _ (.inl ⟨rfl,rfl⟩) fun o x p _=>p
  ·refine u _ _ (.inr ⟨o,src,rfl,by simp only[aT,if_true],a6S _,by simp⟩) fun o' x c _=>?_;have:o'≠o:=by rintro rfl; rw[p] at c; cases c
   simp only[aT,if_neg this,c]
 ·have d:(rows++src).length=rows.length+src.length:=a6T;refine⟨src,A,rfl,rfl,w,rs,h1,h2,?_,fun o p=>?_⟩
  ·rw[h3];refine u _ _ (.inr ⟨q,rows++src,by rw[d],by simp only[aT,if_true],a6S _,a7M⟩) fun o' x c i=>?_;have:o'≠q:=by rintro rfl; exact i _ rfl
   simp only[aT,if_neg this,c]
  ·rw[h3];refine u _ _ (.inr ⟨o,rows++src,by rw[d],by simp only[aT,if_true],a6S _,a7M⟩) fun o' x c i=>?_;have B:o'≠o:=by rintro rfl; rw[p] at c; cases c
   simp only[aT,if_neg B,c]
def Pure (u:PV):Prop:=∀ q s rs,PV.frz q s rs u=u
theorem bP.frz (h:bP H s v rows):∃ d,Seen s d rows∧∀ F:PF,∃ c e,iU F H c e∧(∀ t,F t=some v→c t=some d)∧∀ i u,F i=some u→Pure u→c i=some u:=by
 rcases h with ⟨rfl,rfl⟩ | ⟨q,rs,rfl,h1,h2,h3⟩
 ·exact⟨.aB,.inl ⟨rfl,rfl⟩,fun F=>⟨F,H,.refl _ _,fun t h=>h,fun i u h _=>h⟩⟩
 ·refine⟨.sl s rows,.inr rfl,fun F=>⟨_,_,.step q h1 (.refl _ _),fun t p=>?_,fun i u hi l=>?_⟩⟩
  ·have:0+rows.length≤rs.length:=Om;simp only[PF.frz,p,a7Y,PV.frz,PV.sH,PV.dA,if_true,true_and,if_pos this,a7W,h3]
  ·simp only[PF.frz,hi,a7Y];rw[l]
theorem qG {t:Nat} {e:jZ} (c:e=.normal∨e=.ret) (h:bP H s v rows) (d:F t=some v):aV [.tmp t] (bX (.sl s rows)) e F H:=by
 rcases h with ⟨rfl,rfl⟩ | ⟨q,rs,rfl,h1,h2,h3⟩
 ·exact bA (vs:=[.aB]) c .nil (by rw[jU,mX,d,oG]) a_ ⟨.nil s,rfl⟩
 ·exact aHG c d h1 h2 ⟨by rw[h3]; exact .refl _,rfl⟩
end
end Go.PM
namespace Go.PM
open Go
section
variable {C:Ctx} {F:PF} {H:PH}
@[go_sem] theorem qQ (o s:Nat) (rs:List (List PV)) (i:Nat):(F.frz o s rs) i=(F i).map (PV.frz o s rs):=(rfl)
theorem qJ {name t o s k:Nat} {rs:List (List PV)} {v:PV} {d:Option Nat} {K:PF→PH→Prop} (h:aG C name [.sl s (rs.take k)] .nil (aF v)) (i:F t=some (.osl o s 0 k)) (e:H o=some (.rows s rs)) (l:k≤rs.length)
  (c:K ((F.frz o s rs).put d v) (H.frz o s rs)):hZ C name [.tmp t] [] d K F H:=by
 refine .inr ⟨_,_,.step o e (.refl _ _),[.sl s (rs.take k)],.nil,aF v,?_,a_,h,?_⟩
 ·have:0+k≤rs.length:=Om;simp only[zD,UI,io,qQ,i,a7Y,PV.frz,PV.sH,PV.dA,if_true,true_and,if_pos this,a7W,a8H]
 ·rintro r H' ⟨rfl,rfl⟩ -;rw[PH.zT];exact c
end
end Go.PM
namespace Go.Na
def val:List Nat→Nat
 | []=>0
 | x::xs=>x+4294967296*val xs
def Lim (xs:List Nat):Prop:=∀ x∈xs,x<4294967296
def aH (n:Nat):List Nat:=if h:n=0 then [] else (n%4294967296)::aH (n/4294967296)
termination_by n
decreasing_by exact Nat.div_lt_self (a8U h) (by decide)
def nl (n:Nat):Nat:=(aH n).length
theorem fG:aH 0=[]:=by rw[aH]; simp
theorem rQ {n:Nat} (h:n≠0):aH n=(n%4294967296)::aH (n/4294967296):=by rw[aH]; simp[h]
theorem oE {n:Nat} (h:n≠0) (c:n<4294967296):aH n=[n]:=by
 rw[rQ h,a7X c,baA c,fG]
theorem aW (n:Nat):val (aH n)=n:=by
 induction n using Nat.strongRecOn with
 | _ n c =>
  by_cases h:n=0
  ·subst h; rw[fG]; rfl
  ·rw[rQ h,val,c _ (Nat.div_lt_self (a8U h) (by decide))];exact Nat.mod_add_div n 4294967296
theorem aX (n:Nat):Lim (aH n):=by
 induction n using Nat.strongRecOn with
 | _ n c =>
  by_cases h:n=0
  ·subst h; rw[fG]; intro x hx; cases hx
  ·rw[rQ h];intro x hx;rw[a6V] at hx;rcases hx with rfl | hx
   ·exact a8A _ (by decide)
   ·exact c _ (Nat.div_lt_self (a8U h) (by decide)) x hx
theorem yH:nl 0=0:=by rw[nl,fG]; rfl
theorem atM {n:Nat} (h:n≠0):nl n=nl (n/4294967296)+1:=by rw[nl,rQ h]; rfl
theorem iJ (n k:Nat):nl n≤k↔n<4294967296 ^ k:=by
 induction k generalizing n with
 | zero =>
  by_cases h:n=0
  ·subst h; simp[yH]
  ·rw[atM h]; simp; omega
 | succ k c =>
  by_cases h:n=0
  ·subst h; simp[yH,a9E]
  ·rw[atM h,Nat.succ_le_succ_iff,c,a8C,a9M (by decide)]
theorem gT {n:Nat}:nl n=0↔n=0:=by
 have:=iJ n 0;simp at this;exact this
theorem fS (xs ys:List Nat):val (xs++ys)=val xs+4294967296 ^ xs.length*val ys:=by
 induction xs with
 | nil=>simp[val]
 | cons x xs c =>simp only[List.cons_append,val,a8D,c,a8C];rw[a6Z,a8X,← a7K,a7O 4294967296 (4294967296 ^ xs.length)]
theorem eS {xs:List Nat} (h:Lim xs):val xs<4294967296 ^ xs.length:=by
 induction xs with
 | nil=>simp[val]
 | cons x xs e =>have i:=h x (by simp);have c:=e fun y d=>h y (by simp[d]);simp only[val,a8D,a8C];have:4294967296*(val xs+1)≤4294967296*4294967296 ^ xs.length:=a8T _ c;rw[a6Z,Nat.mul_one] at this;rw[a7O (4294967296 ^ xs.length)];omega
theorem Lim.app {xs ys:List Nat} (h:Lim xs) (k:Lim ys):Lim (xs++ys):=fun x c=>by
 rw[a8J] at c;exact c.elim (h x) (k x)
theorem Lim.take {xs:List Nat} (h:Lim xs) (n:Nat):Lim (xs.take n):=fun x c=>h x (List.mem_of_mem_take c)
theorem Lim.drop {xs:List Nat} (h:Lim xs) (n:Nat):Lim (xs.drop n):=fun x c=>h x (List.mem_of_mem_drop c)
theorem Lim.set {xs:List Nat} (h:Lim xs) (i:Nat) {v:Nat} (c:v<4294967296):Lim (xs.set i v):=fun x d=>by
 rcases List.mem_or_eq_of_mem_set d with h1 | h1
 ·exact h x h1
 ·subst h1; exact c
theorem vO (n:Nat):Lim (a6N n 0):=fun x c=>by
 rw[List.mem_replicate] at c; rw[c.2]; decide
theorem rX (n:Nat):val (a6N n 0)=0:=by
 induction n with
 | zero=>rfl
 | succ n c=>simp[List.replicate_succ,val,c]
theorem asS {xs:List Nat} (h:Lim xs) (p:∀ x,xs.getLast?=some x→x≠0):aH (val xs)=xs:=by
 induction xs with
 | nil=>simp[val,fG]
 | cons x xs E =>
  have i:=h x (by simp);have l:Lim xs:=fun y A=>h y (by simp[A]);cases xs with
  | nil =>have:=p x (by simp);simp only[val,Nat.mul_zero,a8N];exact oE this i
  | cons y ys =>
   have c:=E l fun z B=>p z (by rw[List.getLast?_cons_cons]; exact B);have w:val (y::ys)≠0:=fun e=>by rw[e,fG] at c; cases c
   have d:x+4294967296*val (y::ys)≠0:=by have:0<4294967296*val (y::ys):=Nat.mul_pos (by decide) (a8U w);omega
   show aH (x+4294967296*val (y::ys))=_;rw[rQ d];have q:(x+4294967296*val (y::ys))%4294967296=x:=by rw[Nat.add_mul_mod_self_left,a7X i]
   have u:(x+4294967296*val (y::ys))/4294967296=val (y::ys):=by rw[Nat.add_mul_div_left _ _ (by decide),baA i,a7I]
   rw[q,u,c]
theorem Tn {xs:List Nat} {n:Nat} (h:∀ j x,n≤j→xs[j]?=some x→x=0):val (xs.take n)=val xs:=by
 have e:xs.drop n=a6N (xs.drop n).length 0:=by apply a9R (by simp);intro i c d;rw[List.getElem_replicate,List.getElem_drop];exact h (n+i) _ Om (a6Y _)
 conv=>rhs; rw[← a9I n xs,fS,e,rX]
 simp
theorem KZ {xs:List Nat} (l:Lim xs) {n:Nat} (i:n≤xs.length) (h:∀ j x,n≤j→xs[j]?=some x→x=0) (d:∀ x,0<n→xs[n-1]?=some x→x≠0):xs.take n=aH (val xs):=by
 rw[← Tn h,asS (l.take n)];intro x c;rw[List.getLast?_eq_getElem?,a7D,a8S i] at c;rcases a8R n with e | e
 ·subst e; simp at c
 ·rw[List.getElem?_take_of_lt Om] at c;exact d x e c
theorem adV {xs:List Nat} (e:Lim xs) {n:Nat} (d:n≤xs.length) (h:∀ j x,n≤j→xs[j]?=some x→x=0) (c:∀ x,0<n→xs[n-1]?=some x→x≠0):nl (val xs)=n:=by
 rw[nl,← KZ e d h c,a7D]; omega
theorem fD {xs:List Nat} (h:Lim xs):nl (val xs)≤xs.length:=(iJ _ _).2 (eS h)
theorem jV {xs : List Nat} (h : Lim xs) : xs.take (nl (val xs)) = aH (val xs) := by
  have hl := fD h;have e : val (xs.take (nl (val xs)) ++ xs.drop (nl (val xs))) = val xs := by rw [a9I]
  rw [fS, a7D, a8S hl] at e;have h1 := eS (h.take (nl (val xs)));rw [a7D, a8S hl] at h1;have h2 := (iJ (val xs) (nl (val xs))).1 (a6S _);have hd : val (xs.drop (nl (val xs))) = 0 := by
    rcases a8R (val (xs.drop (nl (val xs)))) with h | h
    · exact h
    · have := a8T (4294967296 ^ nl (val xs)) h
      omega
  have hz : ∀ j x, nl (val xs) ≤ j → xs[j]? = some x → x = 0 := by
    have zero : ∀ ys : List Nat, val ys = 0 → ∀ y ∈ ys, y = 0 := by
      intro ys
      induction ys with
      | nil => intro _ y hy; cases hy
      | cons z zs ih =>
        intro hv y hy;simp only [val] at hv;rw [a6V] at hy;rcases hy with rfl | hy
        · omega
        · exact ih (by have : 4294967296 * val zs = 0 := Om
                       rcases Nat.mul_eq_zero.1 this with h | h
                       · cases h
                       · exact h) y hy
    intro j x hj hx;refine zero _ hd x ?_;rw [List.mem_iff_getElem?];exact ⟨j - nl (val xs), by rw [List.getElem?_drop, Nat.add_sub_cancel' hj]; exact hx⟩
  refine KZ h hl hz fun x hpos hx e => ?_;subst e;have hz2 : ∀ j x, nl (val xs) - 1 ≤ j → xs[j]? = some x → x = 0 := fun j y hj hy => by
    rcases a7H j (nl (val xs)) with h3 | h3
    · have : j = nl (val xs) - 1 := Om
      subst this; rw [hx] at hy; cases hy; rfl
    · exact hz j y h3 hy
  have h3 := Tn hz2;have h4 := eS (h.take (nl (val xs) - 1));rw [h3, a7D, a8S Om] at h4;have := (iJ (val xs) (nl (val xs) - 1)).2 h4;omega
theorem R6 {xs:List Nat} (h:Lim xs) {n:Nat} (l:nl (val xs)=n+1):∃ x,xs[n]?=some x∧x≠0:=by
 have p:=fD h;refine⟨xs[n]'Om,a6Y _,fun e=>?_⟩;have i:=jV h;have c:=aW (val xs);rw[← i,l,a8E Om,e,fS] at c;simp only[val,Nat.mul_zero,a8N] at c;have d:=eS (h.take n);rw[c,a7D,a8S Om] at d;have:=(iJ (val xs) n).2 d;omega
theorem rV (xs:List Nat) {k:Nat} (h:k<xs.length):val xs=val (xs.take k)+4294967296 ^ k*(xs[k]+4294967296*val (xs.drop (k+1))):=by
 conv=>lhs; rw[← a9I k xs,fS,a7D,a8S Om,a8I h]
 rfl
theorem gh {xs ys:List Nat} (p:Lim xs) {k:Nat} (c:k<xs.length) (d:k<ys.length) (l:xs.drop (k+1)=ys.drop (k+1)) (h:xs[k]<ys[k]):val xs<val ys:=by
 rw[rV xs c,rV ys d,l];have e:=eS (p.take k);rw[a7D,a8S Om] at e;have i:4294967296 ^ k*(xs[k]+4294967296*val (ys.drop (k+1))+1)≤4294967296 ^ k*(ys[k]+4294967296*val (ys.drop (k+1))):=a8T _ Om;rw[a6Z _ _ 1,Nat.mul_one] at i;omega
def dM (a b:Nat):Int:=if a<b then -1 else if b<a then 1 else 0
theorem yq {xs ys:List Nat} {k:Nat} (c:k<xs.length) (d:k<ys.length) (e:xs.drop (k+1)=ys.drop (k+1)) (h:xs[k]=ys[k]):xs.drop k=ys.drop k:=by
 rw[a8I c,a8I d,e,h]
theorem fL {a b:Nat} (h:a≤b):nl a≤nl b:=(iJ a _).2 (Nat.lt_of_le_of_lt h ((iJ b _).1 (a6S _)))
theorem Ia {xs:List Nat} (h:Lim xs) {j:Nat} (c:j<nl (val xs)):∃ (d:j<xs.length) (i:j<(aH (val xs)).length),xs[j]=(aH (val xs))[j]:=by
 have l:=fD h;refine⟨by omega,c,?_⟩;have e:=jV h;have:(xs.take (nl (val xs)))[j]?=(aH (val xs))[j]?:=by rw[e]
 rw[List.getElem?_take_of_lt c,a6Y Om,a6Y c] at this;exact a8Y.inj this
def cJ (n:Nat):Nat:=if h:n=0 then 0 else cJ (n/2)+1
termination_by n
decreasing_by exact Nat.div_lt_self (a8U h) (by decide)
theorem jH:cJ 0=0:=by rw[cJ]; simp
theorem oZ {n:Nat} (h:n≠0):cJ n=cJ (n/2)+1:=by rw[cJ]; simp[h]
theorem lL (n k:Nat):cJ n≤k↔n<2 ^ k:=by
 induction k generalizing n with
 | zero =>
  by_cases h:n=0
  ·subst h; simp[jH]
  ·rw[oZ h]; simp; omega
 | succ k c =>
  by_cases h:n=0
  ·subst h; simp[jH,a9E]
  ·rw[oZ h,Nat.succ_le_succ_iff,c,a8C,a9M (by decide)]
theorem jO {n:Nat}:cJ n=0↔n=0:=by
 have:=lL n 0;simp at this;exact this
theorem Ib {hi lo k:Nat} (l:lo<2 ^ k) (e:hi≠0):cJ (lo+2 ^ k*hi)=k+cJ hi:=by
 apply Nat.le_antisymm
 ·rw[lL,Nat.pow_add];have c:=(lL hi _).1 (a6S _);have:2 ^ k*(hi+1)≤2 ^ k*2 ^ cJ hi:=a8T _ c;rw[a6Z,Nat.mul_one] at this;omega
 ·obtain⟨b,d⟩:∃ b,cJ hi=b+1:=⟨cJ hi-1,by have:=mt jO.1 e; omega⟩;rw[d];rcases a7H (cJ (lo+2 ^ k*hi)) (k+(b+1)) with h | h
  ·have c:=(lL (lo+2 ^ k*hi) (k+b)).1 Om;rw[Nat.pow_add] at c;have i:¬ hi<2 ^ b:=fun h=>by have:=(lL hi b).2 h; omega
   have:2 ^ k*2 ^ b≤2 ^ k*hi:=a8T _ Om;omega
  ·exact h
theorem lM (n k:Nat):cJ n≤32*k↔nl n≤k:=by
 rw[lL,iJ,Nat.pow_mul]
end Go.Na
namespace Go.PM
theorem Lq {F c:PF} (h:F.le c:=by (repeat' (first|exact c_|refine d_ ?_ ?_))<;>first|(simp only[go_sem]<;>rfl)|rfl|assumption):F.le c:=h
end Go.PM
namespace Go.PM
open Go Go.Na
abbrev aL (xs:List Nat):List (List PV):=xs.map fun (n:Nat)=>[PV.int .u32 (n:Int)]
abbrev aI (xs:List Nat):PV:=.sl 1 (xs.map fun (n:Nat)=>[PV.int .u32 (n:Int)])
theorem bY (xs:List Nat):(aL xs).length=xs.length:=by simp
theorem bS (xs:List Nat) {i:Nat} (h:i<xs.length):(aL xs)[i]?=some [.int .u32 (xs[i]:Nat)]:=by simp[h]
theorem At (xs:List Nat) (k:Nat):aI (xs.take k)=.sl 1 ((xs.map fun (n:Nat)=>[PV.int .u32 (n:Int)]).take k):=by rw[aI,List.map_take]
theorem cI (n:Nat):IntKind.u32.wrap (n:Int)=((n%4294967296:Nat):Int):=by
 have e:IntKind.u32.wrap (n:Int)=(n:Int)%4294967296:=by simp[IntKind.wrap,IntKind.bits,IntKind.signed]
 rw[e]; rfl
theorem wA {k:Nat} (h:k≤9223372036854775807) (c:0<k):IntKind.i64.wrap ((k:Int)-1)=((k-1:Nat):Int):=by
 rw[wrap_i64 Om Om]; omega
def alT (xs:List Nat) (n:Nat):PF:=((PF.nil.set 0 (aI xs)).set 3 (.int .i64 n))
theorem lk {C:Ctx} (xs:List Nat) (u:Lim xs) (y:xs.length≤35184372087808):pE.wp C (aV yI.res (aF (.int .i64 (nl (val xs):Nat)))) (PF.args [aI xs]) .nil:=by
 simp only[go_sem,pE,JM,JN,yI];refine wp_loop (α:=Nat) (alT xs) (fun _=>.nil) (fun n=>n≤xs.length∧∀ j x,n≤j→xs[j]?=some x→x=0) (fun n=>n) xs.length ⟨a6S _,fun j x h e=>by rw[a7Z h] at e; cases e⟩ ?_ a_ ?_
 ·unfold alT;exact Lq
 rintro n ⟨q,p⟩;have out:(∀ x,0<n→xs[n-1]?=some x→x≠0)→nl (val xs)=n:=fun h=>adV u q p h;simp only[go_sem,JL,JO,alT];by_cases i:(n:Int)>0
 ·have l:0<n:=Om;have hi:=bS xs (Om:n-1<xs.length);simp only[go_sem,i,wA (Om:n≤9223372036854775807) l,hi];by_cases d:xs[n-1]=0
  ·simp only[go_sem,bH (Om:((xs[n-1]:Nat):Int)=0),JP,wA (Om:n≤9223372036854775807) l];refine aD (n-1) ⟨by omega,fun j x w c=>?_⟩ Om ?_ a_
   ·rcases a7H j n with h | h
    ·have:j=n-1:=Om;subst this;rw[a6Y Om] at c;cases c; exact d
    ·exact p j x h c
   ·exact Lq
  ·simp only[go_sem,bF (Om:((xs[n-1]:Nat):Int)≠0),sU];refine aQ (.inr rfl) rfl ?_;rw[out fun x _ c=>by rw[a6Y Om] at c; cases c; exact d];rfl
 ·simp only[go_sem,i,sU];refine aQ (.inr rfl) rfl ?_;rw[out fun x h=>by omega];rfl
theorem A5 {C:Ctx} (xs:List Nat) (c:aG C 138 [aI xs] .nil (aF (.int .i64 (nl (val xs):Nat)))):DI.wp C (aV lj.res (aF (.bool (decide (nl (val xs)>512))))) (PF.args [aI xs]) .nil:=by
 simp only[go_sem,DI,A6,A7,lj];refine aA c rfl ?_;simp only[go_sem];refine aQ (.inr rfl) rfl ?_;simp only[bO,PV.bool.injEq,decide_eq_decide];omega
def szL (n:Nat):List Nat:=if nl n>512 then [] else aH n
def szE (n:Nat):Int:=if nl n>512 then 2 else 0
def szV (n:Nat):PV:=.tup [aI (szL n),.int .i64 (szE n)]
theorem Bk {C:Ctx} (xs:List Nat) (l:Lim xs) (c:aG C 138 [aI xs] .nil (aF (.int .i64 (nl (val xs):Nat)))):DK.wp C (aV ln.res (bX (szV (val xs)))) (PF.args [aI xs]) .nil:=by
 simp only[go_sem,DK,Bl,Bm,ln];refine aA c rfl ?_;simp only[go_sem,Bn];by_cases h:nl (val xs)>512
 ·have i:((nl (val xs):Nat):Int)>512:=Om;simp only[go_sem,i,Bo];refine bA (vs:=[.aB,.int .i64 2]) (.inr rfl) .nil rfl a_ ⟨?_,rfl⟩;rw[szV,szL,szE,if_pos h,if_pos h];refine .tup rfl fun j p q d e=>?_
  match j with
  | 0=>simp at d e; subst d; subst e; exact .nil 1
  | 1=>simp at d e; subst d; subst e; exact .refl _
  | j+2=>simp at d
 ·have i:¬ ((nl (val xs):Nat):Int)>512:=Om;have w:=fD l;have u:((nl (val xs):Nat):Int)≤(xs.length:Nat):=Om;simp only[go_sem,i,Bp,u,or_true,a7W];refine bA (.inr rfl) .nil rfl a_ ⟨?_,rfl⟩;rw[szV,szL,szE,if_neg h,if_neg h,← jV l,At];exact .refl _
theorem Po {C:Ctx} (v:Nat) (F:v<18446744073709551616) (d:∀ xs,Lim xs→xs.length≤35184372087808→aG C 138 [aI xs] .nil (aF (.int .i64 (nl (val xs):Nat)))) :
  JQ.wp C (aV G1.res (aF (aI (aH v)))) (PF.args [.int .u64 v]) .nil:=by
 have u:IntKind.u32.wrap ((v:Nat):Int)=((v%4294967296:Nat):Int):=cI v;have w:Int.fdiv ((v:Nat):Int) 4294967296=((v/4294967296:Nat):Int):=by rw[Int.fdiv_eq_ediv_of_nonneg _ (by decide)]; rfl
 have l:v/4294967296<4294967296:=Om;have y:IntKind.u32.wrap ((v/4294967296:Nat):Int)=((v/4294967296:Nat):Int):=by rw[cI,a7X l]
 have e:Lim [v%4294967296,v/4294967296]:=by
  intro x q;simp only[a6V,List.mem_nil_iff,or_false] at q;rcases q with rfl | rfl
  ·exact a8A _ (by decide)
  ·exact l
 have c:val [v%4294967296,v/4294967296]=v:=by simp only[val,Nat.mul_zero,a8N]; exact Nat.mod_add_div v 4294967296
 have E:∀ a b:Int,PV.bin .shr (.int .u64 a) (.int .u64 b)=shift .shr .u64 a b:=fun _ _=>rfl;have i:shift .shr .u64 (v:Int) 32=some (.int .u64 ((v/4294967296:Nat):Int)):=by
  unfold shift;rw[if_neg (by decide)];simp only;have:min (Int.toNat 32) IntKind.u64.bits=32:=by decide
  rw[this];rw[show (2:Int) ^ 32=4294967296 by decide,w]
 simp only[go_sem,JQ,Pp,Pq,G1,u,i,y];have B:(2:Nat)*1≤16777216:=by decide
 simp only[go_sem,Ps];refine aA (d [v%4294967296,v/4294967296] e (by simp)) rfl ?_;have p:=fD e;rw[c] at p ⊢;have A:((nl v:Nat):Int)≤((2:Nat):Int):=by simp at p; omega
 simp only[go_sem,A,or_true,a7W];refine aQ (.inr rfl) rfl ?_;have:=jV e;rw[c] at this;rw[← this,At];rfl
theorem P7 {C:Ctx} (xs:List Nat) (d:Lim xs) (l:xs.length≤35184372087808) (c:aG C 138 [aI xs] .nil (aF (.int .i64 (nl (val xs):Nat)))) :
  JS.wp C (aV G2.res (bX (aI (aH (val xs))))) (PF.args [aI xs]) .nil:=by
 simp only[go_sem,JS,P8,P9,G2];refine aA c rfl ?_;have p:=fD d;have e:((nl (val xs):Nat):Int)≤(xs.length:Nat):=Om;simp only[go_sem,e,or_true,a7W];refine eZ (rows:=[]) (src:=aL (aH (val xs))) .nil ?_ ?_ fun v H' i _=>?_
 ·simp only[go_sem];rw[← jV d,← List.map_take]
 ·unfold roomFor;rw[bY];have:(aH (val xs)).length=nl (val xs):=rfl;simp only[a9F,maxLen];omega
 ·exact qG (.inr rfl) (by simpa using i) rfl
end Go.PM
theorem Sq {p:Prop} (h:p:=by simp only[go_sem]):p:=h
theorem Ev {p:Prop} (h:p:=by simp only[go_sem]<;>rfl):p:=h
namespace Go.PM
open Go Go.Na
def alM (xs ys:List Nat) (i:Int):PF:=(((PF.nil.set 0 (aI xs)).set 1 (aI ys)).set 7 (.int .i64 i))
theorem aaW {C:Ctx} (xs ys:List Nat) (E:Lim xs) (F:Lim ys) (Y:xs.length≤35184372087808) (Z:ys.length≤35184372087808) (q:aG C 138 [aI xs] .nil (aF (.int .i64 (nl (val xs):Nat)))) (u:aG C 138 [aI ys] .nil (aF (.int .i64 (nl (val ys):Nat)))) :
  QP.wp C (aV alL.res (aF (.int .i64 (dM (val xs) (val ys))))) (PF.args [aI xs,aI ys]) .nil:=by
 simp only[go_sem,QP,aaX,aaY,alL];refine aA q Ev ?_;simp only[go_sem];refine aA u Ev ?_;simp only[go_sem,aaZ];have S:=fD E;have N:=fD F;by_cases U:nl (val xs)<nl (val ys)
 ·have c:((nl (val xs):Nat):Int)<(nl (val ys):Nat):=Om;simp only[go_sem,c,abA];refine aQ (.inr rfl) Ev ?_;have:val xs<val ys:=by
   rcases a7H (val xs) (val ys) with h | h
   ·exact h
   ·have:=fL h; omega
  simp[bO,dM,this]
 have c:¬ ((nl (val xs):Nat):Int)<(nl (val ys):Nat):=Om;simp only[go_sem,c,abB];by_cases V:nl (val xs)>nl (val ys)
 ·have d:((nl (val xs):Nat):Int)>(nl (val ys):Nat):=Om;simp only[go_sem,d,abC];refine aQ (.inr rfl) Ev ?_;have:val ys<val xs:=by
   rcases a7H (val ys) (val xs) with h | h
   ·exact h
   ·have:=fL h; omega
  have l:¬ val xs<val ys:=Om;simp[bO,dM,this,l]
 have d:¬ ((nl (val xs):Nat):Int)>(nl (val ys):Nat):=Om;have R:nl (val xs)=nl (val ys):=Om;simp only[go_sem,d,abD];have ex:=aW (val xs);have i:=aW (val ys);have K:=aX (val xs);have M:=aX (val ys);refine wp_loop (α:=Nat) (fun k=>alM xs ys ((k:Int)-1)) (fun _=>.nil) (fun k=>k≤nl (val xs)∧(aH (val xs)).drop k=(aH (val ys)).drop k) (fun k=>k) (nl (val xs)) ⟨a6S _,?_⟩ ?_ a_ ?_
 ·rw[baE (by rw[nl]; exact a6S _),baE (by rw[R,nl]; exact a6S _)]
 ·unfold alM
  (repeat' (first|exact c_|refine d_ ?_ ?_))<;>first|(simp only[go_sem,wrap_i64 (show -9223372036854775808≤((nl (val xs):Nat):Int)-1 by omega) (show ((nl (val xs):Nat):Int)-1≤9223372036854775807 by omega)]<;>rfl)|rfl
 rintro k ⟨X,e⟩;simp only[go_sem,Pd,abE,alM];by_cases W:0<k
 ·obtain⟨m,rfl⟩:∃ m,k=m+1:=⟨k-1,by omega⟩;have w:((m+1:Nat):Int)-1=(m:Int):=Om;have p:(m:Int)≥0:=Om;obtain⟨H,x,y⟩:=Ia E (Om:m<nl (val xs));obtain⟨J,A,B⟩:=Ia F (Om:m<nl (val ys));simp only[go_sem,w,p];refine bV .nil eM a_ ?_;simp only[go_sem,abF,bS xs H,bS ys J];by_cases O:xs[m]<ys[m]
  ·simp only[go_sem,show ((xs[m]:Nat):Int)<(ys[m]:Nat) by omega,abG];refine aQ (.inr rfl) Ev ?_;have:=gh K x A e (by rw[← y,← B]; exact O);rw[ex,i] at this;simp[bO,dM,this]
  ·simp only[go_sem,show ¬ ((xs[m]:Nat):Int)<(ys[m]:Nat) by omega];refine bV .nil eM a_ ?_;simp only[go_sem,Pe,bS xs H,bS ys J];by_cases Q:xs[m]>ys[m]
   ·simp only[go_sem,show ((xs[m]:Nat):Int)>(ys[m]:Nat) by omega,Pf];refine aQ (.inr rfl) Ev ?_;have:=gh M A x e.symm (by rw[← y,← B]; exact Q);rw[ex,i] at this;have l:¬ val xs<val ys:=Om;simp[bO,dM,this,l]
   ·simp only[go_sem,show ¬ ((xs[m]:Nat):Int)>(ys[m]:Nat) by omega,Pg];refine aD m ⟨by omega,yq x A e (by rw[← y,← B]; omega)⟩ Om ?_ a_
    (repeat' (first|exact c_|refine d_ ?_ ?_))<;>first|(simp only[go_sem,wrap_i64 (Om:-9223372036854775808≤(m:Int)-1) (Om:(m:Int)-1≤9223372036854775807)]<;>rfl)|rfl
 ·have:k=0:=Om;subst this;have w:¬ ((0:Nat):Int)-1≥0:=by decide
  simp only[go_sem,w,Ph];refine aQ (.inr rfl) Ev ?_;rw[a7W,a7W] at e;have:val xs=val ys:=by rw[← ex,← i,e]
  simp[bO,dM,this]
def O1 (k:Nat) (v:Nat):PF:=((PF.nil.set 4 (.int .i64 k)).set 5 (.int .u32 v))
theorem O3 {C:Ctx} (xs:List Nat) (u:Lim xs) (S:xs.length≤35184372087808) (w:aG C 138 [aI xs] .nil (aF (.int .i64 (nl (val xs):Nat)))) :
  JJ.wp C (aV Gz.res (aF (.int .i64 (cJ (val xs):Nat)))) (PF.args [aI xs]) .nil:=by
 simp only[go_sem,JJ,O4,O5,Gz];refine aA w Ev ?_;simp only[go_sem,O6];have Q:=fD u;by_cases J:nl (val xs)=0
 ·simp only[go_sem,bH (show ((nl (val xs):Nat):Int)=0 by omega),O7];refine aQ (.inr rfl) Ev ?_;have:val xs=0:=gT.1 J;simp[bO,this,jH]
 obtain⟨n,H⟩:∃ n,nl (val xs)=n+1:=⟨nl (val xs)-1,by omega⟩;obtain⟨t,p,x⟩:=R6 u H;have q:t<4294967296:=u t (a9D p);have c:n<xs.length:=Om;have O:val xs=val (xs.take n)+4294967296 ^ n*t:=by
  have e:=jV u;have:=aW (val xs);have N:xs[n]=t:=by rw[a6Y c] at p; exact a8Y.inj p
  rw[← e,H,a8E c,N,fS,a7D,a8S Om] at this;simp only[val,Nat.mul_zero,a8N] at this;exact this.symm
 have R:cJ (val xs)=32*n+cJ t:=by
  have B:=eS (u.take n);rw[a7D,a8S Om] at B;rw[O,show (4294967296:Nat) ^ n=2 ^ (32*n) by rw[Nat.pow_mul]] at *
  exact Ib B x
 have d:(aL xs)[n]?=some [.int .u32 (t:Nat)]:=by rw[bS xs c];rw[a6Y c] at p;rw[a8Y.inj p]
 have K:IntKind.i64.wrap (((nl (val xs):Nat):Int)-1)=(n:Int):=by rw[wrap_i64 Om Om]; omega
 have M:IntKind.i64.wrap ((n:Int)*32)=((32*n:Nat):Int):=by rw[wrap_i64 Om Om]; omega
 simp only[go_sem,bF (show ((nl (val xs):Nat):Int)≠0 by omega),O8,O9,K,M,d];refine wp_loop (α:=Nat × Nat) (fun a=>O1 a.1 a.2) (fun _=>.nil) (fun a=>a.1+cJ a.2=32*n+cJ t∧a.2<4294967296) (fun a=>a.2) (32*n,t) ⟨rfl,q⟩ ?_ a_ ?_
 ·unfold O1;exact Lq
 rintro⟨k,v⟩ ⟨E,hlt⟩;simp only at E hlt;have F:cJ t≤32:=(lL t 32).2 q;simp only[go_sem,O2,Pa,O1];by_cases A:(v:Int)>0
 ·have y:v≠0:=Om;have i:PV.bin .shr (.int .u32 (v:Int)) (.int .u64 1)=some (.int .u32 ((v/2:Nat):Int)):=by
   show shift .shr .u32 (v:Int) 1=_;unfold shift;rw[if_neg (by decide)];simp only;have:min (Int.toNat 1) IntKind.u32.bits=1:=by decide
   rw[this,show (2:Int) ^ 1=2 by decide,Int.fdiv_eq_ediv_of_nonneg _ (by decide)];rfl
  have l:shift .shr .u32 (v:Int) 1=some (.int .u32 ((v/2:Nat):Int)):=i;simp only[go_sem,A,Pb,Pc,i,l,wZz k];refine aD (k+1,v/2) ⟨?_,?_⟩ (Nat.div_lt_self Om (by decide)) ?_ a_
  ·have:=oZ y;simp only; omega
  ·simp only; omega
  ·exact Lq
 ·have:v=0:=Om;subst this;simp only[go_sem,A,A1];refine aQ (.inr rfl) Ev ?_;rw[jH] at E;simp only[bO,PV.int.injEq,true_and];omega
structure pN (C:Ctx):Prop where
 length:∀ xs,Lim xs→xs.length≤35184372087808→aG C 138 [aI xs] .nil (aF (.int .i64 (nl (val xs):Nat)))
 large:∀ xs,Lim xs→xs.length≤35184372087808→aG C 137 [aI xs] .nil (aF (.bool (decide (nl (val xs)>512))))
 sized:∀ xs,Lim xs→xs.length≤35184372087808→aG C 141 [aI xs] .nil (aF (szV (val xs)))
 trim:∀ xs,Lim xs→xs.length≤35184372087808→aG C 135 [aI xs] .nil (aF (aI (aH (val xs))))
 make:∀ v:Nat,v<18446744073709551616→aG C 132 [.int .u64 v] .nil (aF (aI (aH v)))
 cmp:∀ xs ys,Lim xs→Lim ys→xs.length≤35184372087808→ys.length≤35184372087808→aG C 129 [aI xs,aI ys] .nil (aF (.int .i64 (dM (val xs) (val ys))))
def iV:PV→List Nat
 | .sl _ rows=>rows.map fun r=>match r with | [.int _ n]=>n.toNat | _=>0
 | _=>[]
theorem eC (xs:List Nat):iV (aI xs)=xs:=by
 simp[iV,List.map_map,Function.comp_def]
def alK:Spec:=fun name vs=>match name,vs with
 | 138,[x]=>some ([],fun _=>aF (.int .i64 (nl (val (iV x)):Nat)))
 | _,_=>none
theorem oF (xs:List Nat):alK 138 [aI xs]=some ([],fun _=>aF (.int .i64 (nl (val xs):Nat))):=by
 show some _=_; rw[eC]
theorem yN (P:List Nat) (k v:Nat):(P++a6N (k+1) 0).set P.length v=(P++[v])++a6N k 0:=by
 rw[a9H _ _ (a6S _),a9N,List.replicate_succ,List.set_cons_zero,a7V];rfl
theorem fE (L:List Nat) (i v:Nat):(aL L).set i [.int .u32 (v:Int)]=aL (L.set i v):=by
 unfold aL; rw[List.map_set]
theorem jF (P:List Nat) (v:Nat):val (P++[v])=val P+4294967296 ^ P.length*v:=by
 rw[fS]; simp[val]
theorem cB (xs:List Nat) {i:Nat} (h:i<xs.length):val (xs.take (i+1))=val (xs.take i)+4294967296 ^ i*xs[i]:=by
 rw[a8E h,jF,a7D,a8S Om]
theorem xL {v:Nat}:shift .shr .u64 (v:Int) 32=some (.int .u64 ((v/4294967296:Nat):Int)):=by
 unfold shift;rw[if_neg (by decide)];simp only;have:min (Int.toNat 32) IntKind.u64.bits=32:=by decide
 rw[this,show (2:Int) ^ 32=4294967296 by decide,Int.fdiv_eq_ediv_of_nonneg _ (by decide)];rfl
theorem eT {a b:Nat} (h:a+b<18446744073709551616):IntKind.u64.wrap ((a:Int)+(b:Int))=((a+b:Nat):Int):=by
 rw[wrap_u64 Om Om]; omega
theorem bE {a:Nat} (h:a<18446744073709551616):IntKind.u64.wrap (a:Int)=(a:Int):=wrap_u64 Om Om
def kr (a b:List Nat) (o i c:Nat):PF:=(((((((PF.nil.set 0 (aI a)).set 1 (aI b)).set 6 (.osl o 1 0 (a.length+1))).set 7 (.int .u64 c)).set 35 (.int .i64 (a.length:Nat))).set 34 (aI a)).set 36 (.int .i64 i))
theorem As {C:Ctx} (L:pN C) (a b:List Nat) (ha:Lim a) (hb:Lim b) (hl:b.length≤a.length) (h1:a.length≤1000) (F:PF) (f0:F 0=some (aI a)) (f1:F 1=some (aI b)) :
  aC.wp C (.seq (.region uv) (.seq (.region uw) (.seq (.seq (.region ux) (.block 0 (.loop bn))) (.seq (.region bu) (.seq (.region bv) .ret))))) (aV [.tmp 4,.tmp 5] (bX (szV (val a+val b)))) F .nil:=by
 have O:IntKind.i64.wrap ((a.length:Int)+1)=((a.length+1:Nat):Int):=cW Om;have η:((a.length+1:Nat):Int)*((4:Nat):Int)≤140737488355328:=Om;have θ:((a.length+1:Nat):Int)≤9223372036854775807:=Om;have hz:a6N (a.length+1) [PV.int .u32 0]=aL ([]++a6N (a.length+1) 0):=by simp[aL]
 simp only[go_sem,uv,f0,O,η,θ,hz];refine aR fun o ho=>?_;simp only[go_sem,uw,ux,f0];refine wp_loop (α:=List Nat × Nat × Nat) (fun s=>kr a b s.2.2 s.1.length s.2.1) (fun s=>PH.nil.set s.2.2 (.rows 1 (aL (s.1++a6N (a.length+1-s.1.length) 0))))
  (fun s=>s.1.length≤a.length∧Lim s.1∧s.2.1≤1∧val s.1+4294967296 ^ s.1.length*s.2.1=val (a.take s.1.length)+val (b.take s.1.length)) (fun s=>a.length-s.1.length) ([],0,o) ⟨by simp,by simp[Lim],by simp,by simp[val]⟩ ?_ ?_ ?_
 ·unfold kr;exact Lq
 ·exact PH.aJ a_ (by simp only[go_sem,a9F])
 rintro⟨P,c,q⟩ ⟨hP,d,hc,w⟩;simp only at hP d hc w;simp only[go_sem,bn,aaU,kr];by_cases V:P.length<a.length
 ·have A:(P.length:Int)<(a.length:Nat):=Om;have ι:=ha _ (a6M V);obtain⟨k,S⟩:∃ k,a.length+1-P.length=k+1:=⟨a.length-P.length,by omega⟩;have H:(aL (P++a6N (k+1) 0))[P.length]?=some [.int .u32 ((0:Nat):Int)]:=by rw[bS _ (by simp)]; simp
  have i:a.length+1-(P.length+1)=k:=Om;have B:(P.length:Int)<((a.length+1:Nat):Int):=Om;have fin:∀ (t:Nat) (p:PF) (H':PH),t<2*4294967296→val P+4294967296 ^ P.length*t=val (a.take (P.length+1))+val (b.take (P.length+1)) →
    p 0=some (aI a)→p 1=some (aI b)→p 6=some (.osl q 1 0 (a.length+1))→p 7=some (.int .u64 (t:Nat))→p 8=some (.int .i64 P.length)→p 34=some (aI a)→p 35=some (.int .i64 (a.length:Nat))→p 36=some (.int .i64 P.length) →
    H' q=some (.rows 1 (aL (P++a6N (k+1) 0)))→∀ K:bQ,(∀ u y R H2,u.length=P.length+1→Lim u→y≤1→val u+4294967296 ^ u.length*y=val (a.take (P.length+1))+val (b.take (P.length+1))→(kr a b q u.length y).le R→H2 q=some (.rows 1 (aL (u++a6N k 0)))→K .normal R H2) →
    aC.wp C (.seq (.region bo) (.region br)) (eP 1 (fV C (aC.wp C (.region bs)) K)) p H':=by
   intro t p H' ht hv g0 g1 g6 g7 g8 γ δ ε gH K hK;have l:(aL (P++a6N (k+1) 0)).set P.length [.int .u32 ((t%4294967296:Nat):Int)]=aL ((P++[t%4294967296])++a6N k 0):=by rw[fE,yN]
   simp only[go_sem,bo,g6,g8,g7,cI,B,gH,H,l,br,xL,bs,ε,cW (Om:P.length<9223372036854775807)];refine hK (P++[t%4294967296]) (t/4294967296) _ _ (by simp) (d.app fun x U=>by simp at U; subst U; exact a8A _ (by decide)) Om ?_ ?_ Sq
   ·rw[jF,a6T,a6X,a8C,a7K,a8X,← a6Z,Nat.mod_add_div];exact hv
   ·unfold kr;rw[a6T,a6X];refine d_ (d_ (d_ (d_ (d_ (d_ (d_ c_ ?_) ?_) ?_) ?_) ?_) ?_) ?_<;>simp only[go_sem,g0,g1,g6,γ,δ]
  have Q:=cB a V;have ea:IntKind.u64.wrap ((a[P.length]:Nat):Int)=((a[P.length]:Nat):Int):=bE Om;have es:IntKind.u64.wrap ((c:Nat)+((a[P.length]:Nat):Int))=((c+a[P.length]:Nat):Int):=eT Om;simp only[go_sem,A,Ou,Ov,bS a V,ea,es,Ow];by_cases W:P.length<b.length
  ·have E:(P.length:Int)<(b.length:Nat):=Om;have κ:=hb _ (a6M W);have J:=cB b W;have eb:IntKind.u64.wrap ((b[P.length]:Nat):Int)=((b[P.length]:Nat):Int):=bE Om;have β:IntKind.u64.wrap (((c+a[P.length]:Nat):Int)+((b[P.length]:Nat):Int))=((c+a[P.length]+b[P.length]:Nat):Int):=eT Om;simp only[go_sem,E,Ox,bS b W,eb,β];refine fin (c+a[P.length]+b[P.length]) _ _ Om ?_ ?_ ?_ ?_ ?_ ?_ ?_ ?_ ?_ ?_ _ ?_
   ·rw[Q,J,a6Z,a6Z]; omega
   any_goals simp only[go_sem,S]
   intro u y R H2 M X Y N Z e6;rw[← M] at N;refine aD (u,y,q) ⟨by simp only; omega,X,Y,N⟩ (by simp only; omega) Z (PH.aJ a_ ?_);simp only;rw[M,i]; exact e6
  ·have E:¬ (P.length:Int)<(b.length:Nat):=Om;have J:val (b.take (P.length+1))=val (b.take P.length):=by rw[a7F Om,a7F Om]
   simp only[go_sem,E];refine fin (c+a[P.length]) _ _ Om ?_ ?_ ?_ ?_ ?_ ?_ ?_ ?_ ?_ ?_ _ ?_
   ·rw[Q,J,a6Z]; omega
   any_goals simp only[go_sem,S]
   intro u y R H2 M X Y N Z e6;rw[← M] at N;refine aD (u,y,q) ⟨by simp only; omega,X,Y,N⟩ (by simp only; omega) Z (PH.aJ a_ ?_);simp only;rw[M,i]; exact e6
 ·have e:P.length=a.length:=Om;have A:¬ (P.length:Int)<(a.length:Nat):=Om;have S:a6N (a.length+1-P.length) 0=[0]:=by rw[show a.length+1-P.length=1 by omega]; rfl
  have H:(aL (P++[0]))[a.length]?=some [.int .u32 ((0:Nat):Int)]:=by rw[bS _ (by simp; omega)];simp[e]
  have l:(aL (P++[0])).set a.length [.int .u32 ((c%4294967296:Nat):Int)]=aL (P++[c]):=by have:=yN P 0 (c%4294967296);simp only[List.replicate_zero,a8H,a7I,List.replicate_one] at this;rw[← e,fE,this,a7X Om]
  have B:(a.length:Int)<((a.length+1:Nat):Int):=Om;have hV:val (P++[c])=val a+val b:=by rw[jF,w,e,a7M,a7F hl]
  have ζ:Lim (P++[c]):=d.app fun x U=>by simp at U; omega
  simp only[go_sem,A,bu,cI,S,H,B,l,bv];have hs:=L.sized _ ζ (by simp; omega);rw[hV] at hs;refine qJ (o:=q) (s:=1) (k:=a.length+1) (rs:=aL (P++[c])) (v:=szV (val a+val b)) ?_ rfl Sq (by rw[bY]; simp; omega) ?_
  ·rw[a7F (by rw[bY]; simp; omega)]; exact hs
  ·simp only[go_sem,szV];exact bA (.inr rfl) .nil rfl a_ ⟨.refl _,rfl⟩
def opV (big:Bool) (n:Nat):PV:=if big then .tup [aI [],.int .i64 2] else szV n
def dU (a b:Nat):Bool:=decide (nl a>512)||decide (nl b>512)
theorem eJ {res:List dQ} {F:PF} {H:PH} {e:Int} (h:dQ.evs F H res=some [.aB,.int .i64 e]):aV res (bX (.tup [aI [],.int .i64 e])) .ret F H:=by
 refine bA (.inr rfl) .nil h a_ ⟨?_,rfl⟩;refine .tup rfl fun j p q c d=>?_
 match j with
 | 0=>simp at c d; subst c; subst d; exact .nil 1
 | 1=>simp at c d; subst c; subst d; exact .refl _
 | j+2=>simp at c
theorem bB (n:Nat):(aH n).length=nl n:=rfl
theorem jD {xs:List Nat} (h:Lim xs):(xs.map fun (n:Nat)=>[PV.int .u32 (n:Int)]).take (nl (val xs))=(aH (val xs)).map fun (n:Nat)=>[PV.int .u32 (n:Int)]:=by
 rw[← List.map_take,jV h]
theorem aaO {C:Ctx} (L:pN C) (a b:List Nat) (l:Lim a) (p:Lim b) (w:a.length≤35184372087808) (x:b.length≤35184372087808) :
  QO.wp C (aV alJ.res (bX (opV (dU (val a) (val b)) (val a+val b)))) (PF.args [aI a,aI b]) .nil:=by
 simp only[go_sem,QO,aaP,aaQ,alJ];refine aA (L.large a l w) rfl ?_;by_cases d:nl (val a)>512
 ·simp only[go_sem,d,uu];rw[show opV (dU (val a) (val b)) (val a+val b)=.tup [aI [],.int .i64 2] by simp[opV,dU,d]];exact eJ rfl
 simp only[go_sem,d];refine aA (L.large b p x) rfl ?_;by_cases i:nl (val b)>512
 ·simp only[go_sem,i,uu];rw[show opV (dU (val a) (val b)) (val a+val b)=.tup [aI [],.int .i64 2] by simp[opV,dU,i]];exact eJ rfl
 have e:opV (dU (val a) (val b)) (val a+val b)=szV (val a+val b):=by simp[opV,dU,d,i]
 rw[e];simp only[go_sem,i];refine bV .nil alK a_ ?_;simp only[go_sem,aaR];have E:=fD l;have F:=fD p;have q:((nl (val a):Nat):Int)≤(a.length:Nat):=Om;have u:((nl (val b):Nat):Int)≤(b.length:Nat):=Om;refine bM (oF a) (L.length a l w) rfl a_ ?_;simp only[go_sem,q,or_true,a7W,jD l];refine bM (oF b) (L.length b p x) rfl a_ ?_;simp only[go_sem,u,or_true,a7W,jD p,aaS,bB];have y:=aW (val a);have A:=aW (val b);by_cases B:nl (val a)<nl (val b)
 ·have c:((nl (val a):Nat):Int)<(nl (val b):Nat):=Om;simp only[go_sem,c,aaT];have:=As L (aH (val b)) (aH (val a)) (aX _) (aX _) (by rw[bB,bB]; omega) (by rw[bB]; omega);rw[y,A,Nat.add_comm] at this;exact this _ rfl rfl
 ·have c:¬ ((nl (val a):Nat):Int)<(nl (val b):Nat):=Om;simp only[go_sem,c];have:=As L (aH (val a)) (aH (val b)) (aX _) (aX _) (by rw[bB,bB]; omega) (by rw[bB]; omega);rw[y,A] at this;exact this _ rfl rfl
theorem fM (n:Int):IntKind.u64.wrap n=n%18446744073709551616:=by simp[IntKind.wrap,IntKind.bits,IntKind.signed]
theorem YD (n:Int):IntKind.u32.wrap n=n%4294967296:=by simp[IntKind.wrap,IntKind.bits,IntKind.signed]
theorem amT {v:Int}:shift .shr .u64 v 63=some (.int .u64 (v/9223372036854775808)):=by
 unfold shift;rw[if_neg (by decide)];simp only;have:min (Int.toNat 63) IntKind.u64.bits=63:=by decide
 rw[this,show (2:Int) ^ 63=9223372036854775808 by decide,Int.fdiv_eq_ediv_of_nonneg _ (by decide)]
def SU (a bor b:Nat):Nat:=(a+4294967296-bor-b)%4294967296
def cy (a bor b:Nat):Nat:=if a<bor+b then 1 else 0
theorem R0 {a bor b:Nat} (c:a<4294967296) (d:b<4294967296) (e:bor≤1) (v:Int) (i:v=((a:Int)-bor-b)%18446744073709551616) :
  IntKind.u32.wrap v=((SU a bor b:Nat):Int)∧v/9223372036854775808=((cy a bor b:Nat):Int)∧a+4294967296*cy a bor b=SU a bor b+b+bor∧SU a bor b<4294967296:=by
 rw[YD];unfold SU cy;split<;>omega
def lx (a b:List Nat) (o i c:Nat):PF:=(((((((PF.nil.set 0 (aI a)).set 1 (aI b)).set 6 (.osl o 1 0 a.length)).set 7 (.int .u64 c)).set 33 (aI a)).set 34 (.int .i64 (a.length:Nat))).set 35 (.int .i64 i))
theorem atS {C:Ctx} (L:pN C) (a b:List Nat) (ha:Lim a) (hb:Lim b) (η:val b≤val a) (hl:b.length≤a.length) (h1:a.length≤1000) (F:PF) (f0:F 0=some (aI a)) (f1:F 1=some (aI b)) :
  aC.wp C (.seq (.region ve) (.seq (.region vf) (.seq (.seq (.region vh) (.block 1 (.loop cb))) (.seq (.region cg) .ret)))) (aV [.tmp 4,.tmp 5] (bX (szV (val a-val b)))) F .nil:=by
 have δ:(a.length:Int)*((4:Nat):Int)≤140737488355328:=Om;have ε:(a.length:Int)≤9223372036854775807:=Om;have hz:a6N a.length [PV.int .u32 0]=aL ([]++a6N a.length 0):=by simp[aL]
 simp only[go_sem,ve,f0,δ,ε,hz];refine aR fun o ho=>?_;simp only[go_sem,vf,vh,f0];refine wp_loop (α:=List Nat × Nat × Nat) (fun s=>lx a b s.2.2 s.1.length s.2.1) (fun s=>PH.nil.set s.2.2 (.rows 1 (aL (s.1++a6N (a.length-s.1.length) 0))))
  (fun s=>s.1.length≤a.length∧Lim s.1∧s.2.1≤1∧val (a.take s.1.length)+4294967296 ^ s.1.length*s.2.1=val s.1+val (b.take s.1.length)) (fun s=>a.length-s.1.length) ([],0,o) ⟨by simp,by simp[Lim],by simp,by simp[val]⟩ ?_ ?_ ?_
 ·unfold lx;exact Lq
 ·exact PH.aJ a_ (by simp only[go_sem,a9F])
 rintro⟨P,c,q⟩ ⟨hP,d,hc,y⟩;simp only at hP d hc y;simp only[go_sem,cb,acQ,lx];by_cases R:P.length<a.length
 ·have w:(P.length:Int)<(a.length:Nat):=Om;have Z:=ha _ (a6M R);obtain⟨k,Q⟩:∃ k,a.length-P.length=k+1:=⟨a.length-P.length-1,by omega⟩;have γ:(aL (P++a6N (k+1) 0))[P.length]?=some [.int .u32 ((0:Nat):Int)]:=by rw[bS _ (by simp)]; simp
  have i:a.length-(P.length+1)=k:=Om;have ζ:=cB a R;have fin:∀ (t:Nat) (v:Int) (p:PF) (H':PH),t<4294967296→v=((a[P.length]:Int)-c-t)%18446744073709551616→val (b.take (P.length+1))=val (b.take P.length)+4294967296 ^ P.length*t →
    p 0=some (aI a)→p 1=some (aI b)→p 6=some (.osl q 1 0 a.length)→p 9=some (.int .u64 v)→p 8=some (.int .i64 P.length)→p 33=some (aI a)→p 34=some (.int .i64 (a.length:Nat))→p 35=some (.int .i64 P.length) →
    H' q=some (.rows 1 (aL (P++a6N (k+1) 0)))→∀ K:bQ,(∀ u A O H2,u.length=P.length+1→Lim u→A≤1→val (a.take (P.length+1))+4294967296 ^ u.length*A=val u+val (b.take (P.length+1))→(lx a b q u.length A).le O→H2 q=some (.rows 1 (aL (u++a6N k 0)))→K .normal O H2) →
    aC.wp C (.seq (.region cd) (.region ce)) (eP 2 (fV C (aC.wp C (.region cf)) K)) p H':=by
   intro t v p H' ht hv l g0 g1 g6 g9 g8 W X Y gH K hK;obtain⟨E,J,M,H⟩:=R0 Z ht hc v hv;have N:(aL (P++a6N (k+1) 0)).set P.length [.int .u32 ((SU a[P.length] c t:Nat):Int)]=aL ((P++[SU a[P.length] c t])++a6N k 0):=by rw[fE,yN]
   simp only[go_sem,cd,g6,g8,g9,E,w,gH,γ,N,ce,amT,J,cf,Y,cW (Om:P.length<9223372036854775807)];refine hK (P++[SU a[P.length] c t]) (cy a[P.length] c t) _ _ (by simp) (d.app fun x hx=>by simp at hx; subst hx; exact H) (by unfold cy; split<;>omega) ?_ ?_ Sq
   ·rw[jF,a6T,a6X,a8C,a7K,ζ,l,a8X,← a6Z,M,a6Z,a6Z];omega
   ·unfold lx;rw[a6T,a6X];refine d_ (d_ (d_ (d_ (d_ (d_ (d_ c_ ?_) ?_) ?_) ?_) ?_) ?_) ?_<;>simp only[go_sem,g0,g1,g6,W,X]
  have ea:IntKind.u64.wrap ((a[P.length]:Nat):Int)=((a[P.length]:Nat):Int):=bE Om;simp only[go_sem,w,P1,P2,bS a R,ea,P3];by_cases S:P.length<b.length
  ·have B:(P.length:Int)<(b.length:Nat):=Om;have β:=hb _ (a6M S);have l:=cB b S;have eb:IntKind.u64.wrap ((b[P.length]:Nat):Int)=((b[P.length]:Nat):Int):=bE Om;simp only[go_sem,B,P4,bS b S,eb];refine fin b[P.length] (IntKind.u64.wrap (IntKind.u64.wrap ((a[P.length]:Int)-(c:Int))-(b[P.length]:Int))) _ _ β (by rw[fM,fM]; omega) l ?_ ?_ ?_ ?_ ?_ ?_ ?_ ?_ ?_ _ ?_
   any_goals simp only[go_sem,Q]
   intro u A O H2 E J M H U V;rw[← E] at H;refine aD (u,A,q) ⟨by simp only; omega,J,M,H⟩ (by simp only; omega) U (PH.aJ a_ ?_);simp only;rw[E,i]; exact V
  ·have B:¬ (P.length:Int)<(b.length:Nat):=Om;have l:val (b.take (P.length+1))=val (b.take P.length)+4294967296 ^ P.length*0:=by rw[a7F Om,a7F Om]; simp
   simp only[go_sem,B];refine fin 0 (IntKind.u64.wrap ((a[P.length]:Int)-(c:Int))) _ _ (by decide) (by rw[fM]; omega) l ?_ ?_ ?_ ?_ ?_ ?_ ?_ ?_ ?_ _ ?_
   any_goals simp only[go_sem,Q]
   intro u A O H2 E J M H U V;rw[← E] at H;refine aD (u,A,q) ⟨by simp only; omega,J,M,H⟩ (by simp only; omega) U (PH.aJ a_ ?_);simp only;rw[E,i]; exact V
 ·have e:P.length=a.length:=Om;have w:¬ (P.length:Int)<(a.length:Nat):=Om;have Q:a6N (a.length-P.length) 0=[]:=by rw[show a.length-P.length=0 by omega]; rfl
  have hV:val P=val a-val b:=by
   rw[e,a7M,a7F hl] at y;have hlt:=eS d;rw[e] at hlt;rcases a8R c with h | h
   ·subst h; omega
   ·have:c=1:=Om;subst this; omega
  simp only[go_sem,w,Q,a8H,cg];have hs:=L.sized _ d Om;rw[hV] at hs;refine qJ (o:=q) (s:=1) (k:=a.length) (rs:=aL P) (v:=szV (val a-val b)) ?_ rfl Sq (by rw[bY]; omega) ?_
  ·rw[a7F (by rw[bY]; omega)]; exact hs
  ·simp only[go_sem,szV];exact bA (.inr rfl) .nil rfl a_ ⟨.refl _,rfl⟩
def rK (a b:Nat):PV:=if dU a b then .tup [aI [],.int .i64 2] else if a<b then .tup [aI [],.int .i64 4] else szV (a-b)
theorem acK {C:Ctx} (L:pN C) (a b:List Nat) (e:Lim a) (i:Lim b) (w:a.length≤35184372087808) (x:b.length≤35184372087808) :
  QX.wp C (aV alZ.res (bX (rK (val a) (val b)))) (PF.args [aI a,aI b]) .nil:=by
 simp only[go_sem,QX,acL,acM,alZ];refine aA (L.large a e w) rfl ?_;by_cases c:nl (val a)>512
 ·simp only[go_sem,c,vd];rw[show rK (val a) (val b)=.tup [aI [],.int .i64 2] by simp[rK,dU,c]];exact eJ rfl
 simp only[go_sem,c];refine aA (L.large b i x) rfl ?_;by_cases d:nl (val b)>512
 ·simp only[go_sem,d,vd];rw[show rK (val a) (val b)=.tup [aI [],.int .i64 2] by simp[rK,dU,d]];exact eJ rfl
 simp only[go_sem,d,acN];refine aA (L.cmp a b e i w x) rfl ?_;by_cases l:val a<val b
 ·have u:dM (val a) (val b)<0:=by simp[dM,l]
  simp only[go_sem,u,acO];rw[show rK (val a) (val b)=.tup [aI [],.int .i64 4] by simp[rK,dU,c,d,l]];exact eJ rfl
 have u:¬ dM (val a) (val b)<0:=by unfold dM;rw[if_neg l];split<;>decide
 rw[show rK (val a) (val b)=szV (val a-val b) by simp[rK,dU,c,d,l]];simp only[go_sem,u];refine bV .nil alK a_ ?_;simp only[go_sem,acP];have B:=fD e;have E:=fD i;have p:((nl (val a):Nat):Int)≤(a.length:Nat):=Om;have q:((nl (val b):Nat):Int)≤(b.length:Nat):=Om;refine bM (oF a) (L.length a e w) rfl a_ ?_;simp only[go_sem,p,or_true,a7W,jD e];refine bM (oF b) (L.length b i x) rfl a_ ?_;simp only[go_sem,q,or_true,a7W,jD i];have y:=aW (val a);have A:=aW (val b);have F:=fL (Om:val b≤val a);have:=atS L (aH (val a)) (aH (val b)) (aX _) (aX _) Om (by rw[bB,bB]; omega) (by rw[bB]; omega);rw[y,A] at this;exact this _ rfl rfl
end Go.PM
namespace Go.Na
def dR:Nat→Nat→List Nat
 | 0,_=>[]
 | k+1,n=>(n%4294967296)::dR k (n/4294967296)
theorem kR:∀ k n,(dR k n).length=k
 | 0,_=>rfl
 | k+1,n=>by simp[dR,kR k]
theorem HE {xs:List Nat} (h:Lim xs):dR xs.length (val xs)=xs:=by
 induction xs with
 | nil=>rfl
 | cons x xs i =>have l:=h x (by simp);have c:(x+4294967296*val xs)%4294967296=x:=Om;have d:(x+4294967296*val xs)/4294967296=val xs:=Om;simp only[a8D,dR,val];rw[c,d,i fun y e=>h y (by simp[e])]
theorem mE:∀ k n,Lim (dR k n)
 | 0,_=>fun x hx=>by cases hx
 | k+1,n=>fun x hx=>by
  simp only[dR,a6V] at hx;rcases hx with rfl | hx
  ·exact a8A _ (by decide)
  ·exact mE k _ x hx
theorem AG:∀ k n,val (dR k n)=n%4294967296 ^ k
 | 0,n=>by simp[dR,val,Nat.mod_one]
 | k+1,n=>by simp only[dR,val,AG k];rw[a8C,a7O (4294967296 ^ k) 4294967296,Nat.mod_mul]
theorem oI {k n:Nat} (h:n<4294967296 ^ k):val (dR k n)=n:=by rw[AG,a7X h]
end Go.Na
namespace Go.PM
open Go Go.Na
theorem aYJ {a b:Nat} (c:a<18446744073709551616) (d:b<18446744073709551616):(BitVec.ofInt 64 (a:Int) ||| BitVec.ofInt 64 (b:Int)).toNat=a ||| b:=by
 rw[BitVec.ofInt_natCast,BitVec.ofInt_natCast,BitVec.toNat_or,BitVec.toNat_ofNat,BitVec.toNat_ofNat,a7X (by simpa using c),a7X (by simpa using d)]
theorem Qd {c x s:Nat} (d:c<2 ^ s) (h:c+2 ^ s*x<18446744073709551616):c ||| (2 ^ s*x)=c+2 ^ s*x:=by
 rw[Nat.or_comm,← Nat.two_pow_add_eq_or_of_lt d,Nat.add_comm]
theorem orI {a b n:Nat} (c:a<18446744073709551616) (d:b<18446744073709551616) (h:a ||| b=n) (e:n<18446744073709551616):kO .or .u64 (a:Int) (b:Int)=some (.int .u64 (n:Int)):=by
 show some (PV.int .u64 (IntKind.u64.wrap (((BitVec.ofInt 64 (a:Int) ||| BitVec.ofInt 64 (b:Int)).toNat:Nat):Int)))=_;rw[aYJ c d,h,bE e]
theorem KV {x s:Nat} (c:s≤64) (h:x*2 ^ s<18446744073709551616):shift .shl .u64 (x:Int) (s:Int)=some (.int .u64 ((2 ^ s*x:Nat):Int)):=by
 unfold shift;rw[if_neg Om];simp only;have:min (Int.toNat (s:Int)) IntKind.u64.bits=s:=by rw[show IntKind.u64.bits=64 from rfl]; omega
 rw[this,show (x:Int)*2 ^ s=((x*2 ^ s:Nat):Int) by simp,bE h,a7O]
def aGT (a:List Nat) (s o i c:Nat):PF:=(((((((PF.nil.set 0 (aI a)).set 1 (.int .u64 s)).set 5 (.osl o 1 0 (a.length+1))).set 6 (.int .u64 c)).set 13 (aI a)).set 14 (.int .i64 (a.length:Nat))).set 15 (.int .i64 i))
def upR (a:List Nat) (s:Nat) (r:PV) (H:PH):Prop:=∃ o,r=.osl o 1 0 (a.length+1)∧H=PH.nil.set o (.rows 1 (aL (dR (a.length+1) (val a*2 ^ s))))
theorem atT {C:Ctx} (a:List Nat) (s:Nat) (ha:Lim a) (hs:s<32) (h1:a.length≤1000):ch.wp C (aV nup.res (upR a s)) (PF.args [aI a,.int .u64 s]) .nil:=by
 have F:IntKind.i64.wrap ((a.length:Int)+1)=((a.length+1:Nat):Int):=cW Om;have S:((a.length+1:Nat):Int)*((4:Nat):Int)≤140737488355328:=Om;have U:((a.length+1:Nat):Int)≤9223372036854775807:=Om;have hz:a6N (a.length+1) [PV.int .u32 0]=aL ([]++a6N (a.length+1) 0):=by simp[aL]
 have N:2 ^ s≤2147483648:=a9J (show 0<2 by decide) (Om:s≤31);have B:0<2 ^ s:=a9E (by decide);simp only[go_sem,ch,atU,atV,nup,F,S,U,hz];refine aR fun o ho=>?_;simp only[go_sem,atW,atX];refine wp_loop (α:=List Nat × Nat × Nat) (fun t=>aGT a s t.2.2 t.1.length t.2.1) (fun t=>PH.nil.set t.2.2 (.rows 1 (aL (t.1++a6N (a.length+1-t.1.length) 0))))
  (fun t=>t.1.length≤a.length∧Lim t.1∧t.2.1<2 ^ s∧val t.1+4294967296 ^ t.1.length*t.2.1=val (a.take t.1.length)*2 ^ s) (fun t=>a.length-t.1.length) ([],0,o) ⟨by simp,by simp[Lim],B,by simp[val]⟩ ?_ ?_ ?_
 ·unfold aGT;exact Lq
 ·exact PH.aJ a_ (by simp only[go_sem,a9F])
 rintro⟨P,c,q⟩ ⟨Z,d,X,l⟩;simp only at Z d X l;simp only[go_sem,acR,atY,aGT];by_cases J:P.length<a.length
 ·have p:(P.length:Int)<(a.length:Nat):=Om;have β:=ha _ (a6M J);obtain⟨k,R⟩:∃ k,a.length+1-P.length=k+1:=⟨a.length-P.length,by omega⟩;have w:(aL (P++a6N (k+1) 0))[P.length]?=some [.int .u32 ((0:Nat):Int)]:=by rw[bS _ (by simp)]; simp
  have A:a.length+1-(P.length+1)=k:=Om;have u:(P.length:Int)<((a.length+1:Nat):Int):=Om;have V:=cB a J;generalize W:a[P.length]=x at *
  have γ:x*2 ^ s≤4294967295*2147483648:=Nat.mul_le_mul Om N;have ex:IntKind.u64.wrap ((x:Nat):Int)=((x:Nat):Int):=bE Om;have H:2 ^ s*x=x*2 ^ s:=a7O _ _;have M:shift .shl .u64 (x:Int) (s:Int)=some (.int .u64 ((2 ^ s*x:Nat):Int)):=KV Om Om;have K:=orI (a:=c) (b:=2 ^ s*x) (n:=c+2 ^ s*x) Om Om (Qd X Om) Om;have E:(c+2 ^ s*x)/4294967296<2 ^ s:=by rw[a9M (by decide)];have:2 ^ s*(x+1)≤2 ^ s*4294967296:=a8T _ Om;rw[a6Z,Nat.mul_one] at this;omega
  have i:(aL (P++a6N (k+1) 0)).set P.length [.int .u32 (((c+2 ^ s*x)%4294967296:Nat):Int)]=aL ((P++[(c+2 ^ s*x)%4294967296])++a6N k 0):=by rw[fE,yN]
  have Q:(aL a)[P.length]?=some [.int .u32 ((x:Nat):Int)]:=by rw[bS a J,W]
  simp only[go_sem,p,atZ,auA,Q,ex,M,K,auB,cI,R,u,w,i,auC,xL,auD,cW (Om:P.length<9223372036854775807)];refine aD (P++[(c+2 ^ s*x)%4294967296],(c+2 ^ s*x)/4294967296,q) ⟨by simp; omega,d.app fun y Y=>by simp at Y; subst Y; exact a8A _ (by decide),E,?_⟩ (by simp; omega) ?_ (PH.aJ a_ ?_)
  ·simp only;rw[jF,a6T,a6X,a8C,a7K,a8X,← a6Z,Nat.mod_add_div,V,a6Z,a7Q,← a8X,l,H,a7K]
  ·simp only;rw[a6T,a6X];exact Lq
  ·simp only;rw[a6T,a6X,A];simp only[go_sem]
 ·have e:P.length=a.length:=Om;have p:¬ (P.length:Int)<(a.length:Nat):=Om;have R:a6N (a.length+1-P.length) 0=[0]:=by rw[show a.length+1-P.length=1 by omega]; rfl
  have w:(aL (P++[0]))[a.length]?=some [.int .u32 ((0:Nat):Int)]:=by rw[bS _ (by simp; omega)];simp[e]
  have i:(aL (P++[0])).set a.length [.int .u32 ((c%4294967296:Nat):Int)]=aL (P++[c]):=by have:=yN P 0 (c%4294967296);simp only[List.replicate_zero,a8H,a7I,List.replicate_one] at this;rw[← e,fE,this,a7X Om]
  have u:(a.length:Int)<((a.length+1:Nat):Int):=Om;have hV:val (P++[c])=val a*2 ^ s:=by rw[jF,l,e,a7M]
  have O:Lim (P++[c]):=d.app fun x W=>by simp at W; omega
  have hD:dR (a.length+1) (val a*2 ^ s)=P++[c]:=by have:=HE O;rw[hV,a6T,a6X,e] at this;exact this
  simp only[go_sem,p,acS,cI,R,w,u,i,acT];exact bA (vs:=[.osl q 1 0 (a.length+1)]) (.inr rfl) (PH.nil.set q (.rows 1 (aL (P++[c])))) Ev (PH.aJ a_ Sq) ⟨q,rfl,by rw[hD]⟩
def vb (a:List Nat) (d o k r:Nat):PF:=(((((PF.nil.set 0 (aI a)).set 1 (.int .u32 d)).set 6 (.osl o 1 0 a.length)).set 7 (.int .u64 r)).set 8 (.int .i64 ((k:Int)-1)))
theorem Ba {C:Ctx} (L:pN C) (a:List Nat) (d:Nat) (ha:Lim a) (i:0<d) (hd:d<4294967296) (h1:a.length≤1000) :
  DJ.wp C (aV ll.res (aF (.tup [aI (aH (val a/d)),.int .u32 ((val a%d:Nat):Int)]))) (PF.args [aI a,.int .u32 d]) .nil:=by
 have W:(a.length:Int)*((4:Nat):Int)≤140737488355328:=Om;have X:(a.length:Int)≤9223372036854775807:=Om;have hz:a6N a.length [PV.int .u32 0]=aL (a6N a.length 0++[]):=by simp[aL]
 simp only[go_sem,DJ,Bb,Bc,ll,W,X,hz];refine aR fun o ho=>?_;simp only[go_sem,Bd,Be];refine wp_loop (α:=Nat × List Nat × Nat × Nat) (fun t=>vb a d t.2.2.2 t.1 t.2.2.1) (fun t=>PH.nil.set t.2.2.2 (.rows 1 (aL (a6N t.1 0++t.2.1))))
  (fun t=>t.1+t.2.1.length=a.length∧Lim t.2.1∧t.2.2.1<d∧val t.2.1*d+t.2.2.1=val (a.drop t.1)) (fun t=>t.1) (a.length,[],0,o) ⟨by simp,by simp[Lim],i,by simp[val]⟩ ?_ ?_ ?_
 ·unfold vb
  (repeat' (first|exact c_|refine d_ ?_ ?_))<;>first|(simp only[go_sem,wrap_i64 (Om:-9223372036854775808≤(a.length:Int)-1) (Om:(a.length:Int)-1≤9223372036854775807)]<;>rfl)|rfl
 ·exact PH.aJ a_ Sq
 rintro⟨k,S,r,q⟩ ⟨hk,c,K,e⟩;simp only at hk c K e;simp only[go_sem,A9,Bf,vb];by_cases h0:0<k
 ·obtain⟨m,rfl⟩:∃ m,k=m+1:=⟨k-1,by omega⟩;have u:((m+1:Nat):Int)-1=(m:Int):=Om;have U:(m:Int)≥0:=Om;have p:m<a.length:=Om;have hlt:(m:Int)<(a.length:Nat):=Om;have β:=ha _ (a6M p);have l:val (a.drop m)=a[m]+4294967296*val (a.drop (m+1)):=by rw[a8I p]; rfl
  generalize hx:a[m]=x at *
  have N:(aL a)[m]?=some [.int .u32 ((x:Nat):Int)]:=by rw[bS a p,hx]
  have ex:IntKind.u64.wrap ((x:Nat):Int)=((x:Nat):Int):=bE Om;have ed:IntKind.u64.wrap ((d:Nat):Int)=((d:Nat):Int):=bE Om;have E:shift .shl .u64 (r:Int) 32=some (.int .u64 ((2 ^ 32*r:Nat):Int)):=KV (s:=32) Om Om;have M:(2:Nat) ^ 32=4294967296:=by decide
  have w:=orI (a:=2 ^ 32*r) (b:=x) (n:=2 ^ 32*r+x) Om Om (Nat.two_pow_add_eq_or_of_lt Om r).symm Om;rw[M] at E w;have J:(4294967296*r+x)/d<4294967296:=by rw[a9M i];have:4294967296*(r+1)≤4294967296*d:=a8T _ K;omega
  have O:¬ ((d:Nat):Int)=0:=Om;have A:IntKind.u64.wrap (a8O ((4294967296*r+x:Nat):Int) ((d:Nat):Int))=(((4294967296*r+x)/d:Nat):Int):=by rw[show a8O ((4294967296*r+x:Nat):Int) ((d:Nat):Int)=(((4294967296*r+x)/d:Nat):Int) from rfl];exact bE Om
  have B:Int.tmod ((4294967296*r+x:Nat):Int) ((d:Nat):Int)=(((4294967296*r+x)%d:Nat):Int):=rfl;have Z:IntKind.u32.wrap (((4294967296*r+x)/d:Nat):Int)=(((4294967296*r+x)/d:Nat):Int):=by rw[cI,a7X J]
  have F:a6N (m+1) 0++S=a6N m 0++(0::S):=by rw[List.replicate_succ',a7V]; rfl
  have V:(aL (a6N m 0++(0::S)))[m]?=some [.int .u32 ((0:Nat):Int)]:=by rw[bS _ (by simp)]; simp
  have H:(aL (a6N m 0++(0::S))).set m [.int .u32 (((4294967296*r+x)/d:Nat):Int)]=aL (a6N m 0++(((4294967296*r+x)/d)::S)):=by rw[fE,a9H _ _ (by simp)]; simp
  simp only[go_sem,u,U,Bg,E,N,ex,w,Bh,ed,O,A,Z,hlt,F,V,H,Bi,B,Bj];refine aD (m,((4294967296*r+x)/d)::S,(4294967296*r+x)%d,q) ⟨by simp only[a8D]; omega,fun y hy=>?_,a8A _ i,?_⟩ (by simp only; omega) ?_ (PH.aJ a_ Sq)
  ·rw[a6V] at hy;rcases hy with rfl | hy
   ·exact J
   ·exact c y hy
  ·simp only[val];rw[l,← e,a7Q,a6Z,a7K];have:=a9Z (4294967296*r+x) d;rw[a7O d] at this;omega
  ·(repeat' (first|exact c_|refine d_ ?_ ?_))<;>first|(simp only[go_sem,wrap_i64 (Om:-9223372036854775808≤(m:Int)-1) (Om:(m:Int)-1≤9223372036854775807)]<;>rfl)|rfl
 ·have:k=0:=Om;subst this;have u:¬ ((0:Nat):Int)-1≥0:=by decide
  rw[a7W] at e;have hS:S.length=a.length:=Om;have J:val S=val a/d:=by rw[← e,a7O,Nat.mul_add_div i,baA K,a8N]
  have Y:r=val a%d:=by rw[← e,a7O,Nat.mul_add_mod,a7X K]
  have γ:a6N 0 0++S=S:=by simp
  simp only[go_sem,u,lm,List.nil_append];have hl:=L.length S c Om;have δ:=fD c;have hc:((nl (val S):Nat):Int)≤(S.length:Nat):=Om;refine qJ (o:=q) (s:=1) (k:=a.length) (rs:=aL S) (v:=.int .i64 (nl (val S):Nat)) ?_ Sq Sq (by rw[bY]; omega) ?_
  ·rw[a7F (by rw[bY]; omega)]; exact hl
  ·have R:PV.frz q 1 (aL S) (.osl q 1 0 a.length)=aI S:=by
    have:0+a.length≤(aL S).length:=by rw[bY]; omega
    simp only[PV.frz,PV.sH,PV.dA,if_true,true_and,if_pos this,a7W];rw[a7F (by rw[bY]; omega)]
   have Q:∀ n:Int,∀ k,PV.frz q 1 (aL S) (.int k n)=.int k n:=fun _ _=>rfl;have er:IntKind.u32.wrap ((r:Nat):Int)=((r:Nat):Int):=by rw[cI,a7X Om]
   simp only[go_sem,R,Q,hc,or_true,a7W,jD c,er];refine bA (vs:=[aI (aH (val S)),.int .u32 ((r:Nat):Int)]) (.inr rfl) .nil Ev a_ ⟨?_,rfl⟩;simp only[bO,← J,← Y]
end Go.PM
namespace Go.Na
theorem GD {L:List Nat} {i:Nat} (h:i<L.length) (v:Nat):val (L.set i v)+4294967296 ^ i*L[i]=val L+4294967296 ^ i*v:=by
 have c:i<(L.set i v).length:=by rw[a8M]; exact h
 rw[rV L h,rV (L.set i v) c,List.getElem_set_self,List.take_set_of_le (a6S _),List.drop_set_of_lt Om,a6Z,a6Z];omega
theorem qz {L:List Nat} {i:Nat} (h:∀ (j x:Nat),i≤j→L[j]?=some x→x=0) (k v:Nat) (e:k<i):∀ (j x:Nat),i≤j→(L.set k v)[j]?=some x→x=0:=fun j x d c=>by
 rw[List.getElem?_set_ne Om] at c;exact h j x d c
end Go.Na
namespace Go.PM
open Go Go.Na
def kF (a b:List Nat) (o i:Nat):PF:=((((((PF.nil.set 0 (aI a)).set 1 (aI b)).set 6 (.osl o 1 0 (a.length+b.length))).set 32 (aI a)).set 33 (.int .i64 (a.length:Nat))).set 34 (.int .i64 i))
def alX (a b:List Nat) (o i x c j:Nat):PF:=((((((((((((PF.nil.set 0 (aI a)).set 1 (aI b)).set 6 (.osl o 1 0 (a.length+b.length))).set 32 (aI a)).set 33 (.int .i64 (a.length:Nat))).set 34 (.int .i64 i)).set 7 (.int .i64 i)).set 8 (.int .u32 x)).set 9 (.int .u64 c)).set 39 (aI b)).set 40 (.int .i64 (b.length:Nat))).set 41 (.int .i64 j))
structure EX (a b L:List Nat) (i:Nat):Prop where
 len:L.length=a.length+b.length
 lim:Lim L
 v:val L=val (a.take i)*val b
 z:∀ j x,i+b.length≤j→L[j]?=some x→x=0
theorem aaN {x y:Nat} (c:x<4294967296) (d:y<4294967296):IntKind.u64.wrap ((x:Int)*(y:Int))=((x*y:Nat):Int):=by
 have:x*y≤4294967295*4294967295:=Nat.mul_le_mul Om Om;rw[show (x:Int)*(y:Int)=((x*y:Nat):Int) by simp];exact bE Om
theorem fW {a b:Nat} (h:a+b≤9223372036854775807):IntKind.i64.wrap ((a:Int)+(b:Int))=((a+b:Nat):Int):=by
 rw[wrap_i64 Om Om]; omega
theorem aGR {C:Ctx} (a b:List Nat) (ha:Lim a) (hb:Lim b) (h1:a.length≤1000) (h2:b.length≤1000) (L:List Nat) (i:Nat) (hi:i<a.length) (N:EX a b L i) (q:Nat) (K:bQ) (F:PF) (H:PH) (J:(kF a b q i).le F) (hH:H q=some (.rows 1 (aL L)))
  (hK:∀ L' F' H',EX a b L' (i+1)→(kF a b q i).le F'→H' q=some (.rows 1 (aL L'))→K .normal F' H') :
  aC.wp C (.block 1 (.seq (.region u6) (.seq (.region u7) (.seq (.seq (.region u9) (.block 2 (.loop bx))) (.region b8))))) K F H:=by
 have f0:=J 0 _ (by unfold kF; simp only[go_sem]; rfl);have f1:=J 1 _ (by unfold kF; simp only[go_sem]; rfl);have f6:=J 6 _ (by unfold kF; simp only[go_sem]; rfl);have S:=J 32 _ (by unfold kF; simp only[go_sem]; rfl);have η:=J 33 _ (by unfold kF; simp only[go_sem]; rfl);have U:=J 34 _ (by unfold kF; simp only[go_sem]; rfl);have hx:=ha _ (a6M hi);have β:=cB a hi;generalize δ:a[i]=x at *
 have X:(aL a)[i]?=some [.int .u32 ((x:Nat):Int)]:=by rw[bS a hi,δ]
 simp only[go_sem,u6,u7,u9,S,U,f1,X];refine wp_loop (α:=List Nat × Nat × Nat) (fun t=>alX a b q i x t.2.1 t.2.2) (fun t=>PH.nil.set q (.rows 1 (aL t.1)))
  (fun t=>t.2.2≤b.length∧t.1.length=a.length+b.length∧Lim t.1∧t.2.1<4294967296∧val t.1+4294967296 ^ (i+t.2.2)*t.2.1=val (a.take i)*val b+4294967296 ^ i*(x*val (b.take t.2.2))∧∀ j y,i+b.length≤j→t.1[j]?=some y→y=0) (fun t=>b.length-t.2.2) (L,0,0)
  ⟨by simp,N.len,N.lim,by simp,by simp[val,N.v],N.z⟩ ?_ (PH.aJ a_ hH) ?_
 ·unfold alX;exact Lq
 rintro⟨M,c,j⟩ ⟨hj,W,e,Z,u,Q⟩;simp only at hj W e Z u Q;simp only[go_sem,bx,Pt,alX];by_cases R:j<b.length
 ·have w:(j:Int)<(b.length:Nat):=Om;have O:=hb _ (a6M R);have γ:=cB b R;generalize ε:b[j]=y at *
  have Y:(aL b)[j]?=some [.int .u32 ((y:Nat):Int)]:=by rw[bS b R,ε]
  have d:i+j<M.length:=Om;have E:=e _ (a6M d);have p:=GD d;generalize ζ:M[i+j]=z at *
  have B:(aL M)[i+j]?=some [.int .u32 ((z:Nat):Int)]:=by rw[bS M d,ζ]
  have ex:IntKind.u64.wrap ((x:Nat):Int)=((x:Nat):Int):=bE Om;have ey:IntKind.u64.wrap ((y:Nat):Int)=((y:Nat):Int):=bE Om;have ez:IntKind.u64.wrap ((z:Nat):Int)=((z:Nat):Int):=bE Om;have em:=aaN hx O;have ι:x*y≤4294967295*4294967295:=Nat.mul_le_mul Om Om;have e1:IntKind.u64.wrap (((x*y:Nat):Int)+(z:Int))=((x*y+z:Nat):Int):=eT Om;have e2:IntKind.u64.wrap ((c:Int)+((x*y+z:Nat):Int))=((c+(x*y+z):Nat):Int):=eT Om;have A:IntKind.i64.wrap ((i:Int)+(j:Int))=((i+j:Nat):Int):=fW Om;have hlt:((i+j:Nat):Int)<((a.length+b.length:Nat):Int):=Om;generalize ht:c+(x*y+z)=t at *
  have θ:t<4294967296*4294967296:=Om;have l:(aL M).set (i+j) [.int .u32 ((t%4294967296:Nat):Int)]=aL (M.set (i+j) (t%4294967296)):=fE M (i+j) _;simp only[go_sem,w,Pu,Y,Pv,ex,ey,em,A,hlt,B,ez,e1,e2,Pw,cI,l,Px,xL,Py,wZz j];refine aD (M.set (i+j) (t%4294967296),t/4294967296,j+1) ⟨by simp only; omega,by simp only[a8M]; exact W,e.set _ (a8A _ (by decide)),by simp only; omega,?_,qz Q _ _ Om⟩ (by simp only; omega) ?_ (PH.aJ a_ Sq)
  ·simp only;have V:=p (t%4294967296);have h4:4294967296 ^ (i+(j+1))*(t/4294967296)+4294967296 ^ (i+j)*(t%4294967296)=4294967296 ^ (i+j)*t:=by rw[← a8X,a8C,a7K,← a6Z,a9Z]
   have h5:4294967296 ^ (i+j)*t=4294967296 ^ (i+j)*c+(4294967296 ^ (i+j)*(x*y)+4294967296 ^ (i+j)*z):=by rw[← ht,a6Z,a6Z]
   have h6:4294967296 ^ i*(x*val (b.take (j+1)))=4294967296 ^ i*(x*val (b.take j))+4294967296 ^ (i+j)*(x*y):=by rw[γ,a6Z,a6Z,Nat.pow_add];congr 1;rw[Nat.mul_left_comm x,a7K]
   omega
  ·exact Lq
 ·have he:j=b.length:=Om;have w:¬ (j:Int)<(b.length:Nat):=Om;subst he;have d:i+b.length<M.length:=Om;have E:M[i+b.length]=0:=Q _ _ (a6S _) (a6Y d);have p:=GD d;have B:(aL M)[i+b.length]?=some [.int .u32 ((0:Nat):Int)]:=by rw[bS M d,E]
  have A:IntKind.i64.wrap ((i:Int)+(b.length:Int))=((i+b.length:Nat):Int):=fW Om;have hlt:((i+b.length:Nat):Int)<((a.length+b.length:Nat):Int):=Om;have l:(aL M).set (i+b.length) [.int .u32 ((c%4294967296:Nat):Int)]=aL (M.set (i+b.length) c):=by rw[a7X Z]; exact fE M _ _
  simp only[go_sem,w,b8,A,cI,hlt,B,l];refine hK (M.set (i+b.length) c) _ _ ⟨by rw[a8M]; exact W,e.set _ Z,?_,fun j y hj O=>?_⟩ (by unfold kF; exact Lq) Sq
  ·have V:=p c;rw[E,Nat.mul_zero,a8N] at V;rw[V,u,a7M,β,a7Q,a7K]
  ·rw[List.getElem?_set_ne Om] at O;exact Q j y Om O
theorem atO {C:Ctx} (L:pN C) (a b:List Nat) (Q:Lim a) (R:Lim b) (N:a.length≤1000) (O:b.length≤1000) (F:PF) (f0:F 0=some (aI a)) (f1:F 1=some (aI b)) :
  aC.wp C (.seq (.region u1) (.seq (.seq (.region u5) (.block 0 (.loop bz))) (.seq (.region b9) .ret))) (aV [.tmp 4,.tmp 5] (bX (szV (val a*val b)))) F .nil:=by
 have l:IntKind.i64.wrap ((a.length:Int)+(b.length:Int))=((a.length+b.length:Nat):Int):=fW Om;have y:((a.length+b.length:Nat):Int)*((4:Nat):Int)≤140737488355328:=Om;have A:((a.length+b.length:Nat):Int)≤9223372036854775807:=Om;have U:a6N (a.length+b.length) [PV.int .u32 0]=aL (a6N (a.length+b.length) 0):=by simp[aL]
 simp only[go_sem,u1,f0,f1,l,y,A,U];refine aR fun o X=>?_;simp only[go_sem,u5,f0];refine wp_loop (α:=List Nat × Nat) (fun t=>kF a b o t.2) (fun t=>PH.nil.set o (.rows 1 (aL t.1))) (fun t=>t.2≤a.length∧EX a b t.1 t.2) (fun t=>a.length-t.2) (a6N (a.length+b.length) 0,0)
  ⟨by simp,by simp,vO _,by simp[val,rX],fun j x _ E=>by rw[List.getElem?_replicate] at E; split at E<;>simp_all⟩ ?_ (PH.aJ a_ Sq) ?_
 ·unfold kF;exact Lq
 rintro⟨M,i⟩ ⟨hi,d⟩;simp only at hi d;simp only[go_sem,bz,acB,kF];by_cases H:i<a.length
 ·have e:(i:Int)<(a.length:Nat):=Om;have p:=aGR (C:=C) a b Q R N O M i H d o;simp only[go_sem] at p;simp only[go_sem,e];refine p _ _ _ (by unfold kF; exact Lq) Sq ?_;intro L' V H' w c u;have q:=c 34 _ (by unfold kF; simp only[go_sem]; rfl);have g0:=c 0 _ (by unfold kF; simp only[go_sem]; rfl);have g1:=c 1 _ (by unfold kF; simp only[go_sem]; rfl);have W:=c 6 _ (by unfold kF; simp only[go_sem]; rfl);have J:=c 32 _ (by unfold kF; simp only[go_sem]; rfl);have K:=c 33 _ (by unfold kF; simp only[go_sem]; rfl);simp only[go_sem,Pz,q,wZz i];refine aD (L',i+1) ⟨by simp only; omega,w⟩ (by simp only; omega) ?_ (PH.aJ a_ u);exact Lq
 ·have S:i=a.length:=Om;subst S;have e:¬ (a.length:Int)<(a.length:Nat):=Om;have hV:val M=val a*val b:=by rw[d.v,a7M]
  simp only[go_sem,b9];have B:=L.sized _ d.lim (by rw[d.len]; omega);rw[hV] at B;refine qJ (o:=o) (s:=1) (k:=a.length+b.length) (rs:=aL M) (v:=szV (val a*val b)) ?_ rfl Sq (by rw[bY,d.len]; exact a6S _) ?_
  ·rw[a7F (by rw[bY,d.len]; exact a6S _)]; exact B
  ·simp only[go_sem,szV];exact bA (.inr rfl) .nil rfl a_ ⟨.refl _,rfl⟩
theorem abX {C:Ctx} (L:pN C) (a b:List Nat) (i:Lim a) (l:Lim b) (u:a.length≤35184372087808) (w:b.length≤35184372087808) :
  QU.wp C (aV alW.res (bX (opV (dU (val a) (val b)) (val a*val b)))) (PF.args [aI a,aI b]) .nil:=by
 simp only[go_sem,QU,abY,abZ,alW];refine aA (L.large a i u) rfl ?_;by_cases c:nl (val a)>512
 ·simp only[go_sem,c,u0];rw[show opV (dU (val a) (val b)) (val a*val b)=.tup [aI [],.int .i64 2] by simp[opV,dU,c]];exact eJ rfl
 simp only[go_sem,c];refine aA (L.large b l w) rfl ?_;by_cases d:nl (val b)>512
 ·simp only[go_sem,d,u0];rw[show opV (dU (val a) (val b)) (val a*val b)=.tup [aI [],.int .i64 2] by simp[opV,dU,d]];exact eJ rfl
 have e:opV (dU (val a) (val b)) (val a*val b)=szV (val a*val b):=by simp[opV,dU,c,d]
 rw[e];simp only[go_sem,d];refine bV .nil alK a_ ?_;simp only[go_sem,acA];have A:=fD i;have B:=fD l;have p:((nl (val a):Nat):Int)≤(a.length:Nat):=Om;have q:((nl (val b):Nat):Int)≤(b.length:Nat):=Om;refine bM (oF a) (L.length a i u) rfl a_ ?_;simp only[go_sem,p,or_true,a7W,jD i];refine bM (oF b) (L.length b l w) rfl a_ ?_;simp only[go_sem,q,or_true,a7W,jD l];have x:=aW (val a);have y:=aW (val b);have:=atO L (aH (val a)) (aH (val b)) (aX _) (aX _) (by rw[bB]; omega) (by rw[bB]; omega);rw[x,y] at this;have:=fun F f0 f1=>this F f0 f1;simp only[go_sem] at this;exact this _ rfl rfl
open Go Go.Na
theorem nw {A P W Z:List Nat} {i:Nat} (d:P.length=i) (hi:i<W.length):(aL (A++(P++W.drop i)++Z))[A.length+i]?=some [.int .u32 ((W[i]:Nat):Int)]:=by
 have c:A.length+i<(A++(P++W.drop i)++Z).length:=by simp; omega
 rw[bS _ c];congr 4;rw[List.getElem_append_left (by simp; omega),List.getElem_append_right Om,List.getElem_append_right Om,List.getElem_drop];congr 1;omega
theorem GA {A P W Z:List Nat} {i:Nat} (c:P.length=i) (hi:i<W.length) (v:Nat):(aL (A++(P++W.drop i)++Z)).set (A.length+i) [.int .u32 (v:Int)]=aL (A++((P++[v])++W.drop (i+1))++Z):=by
 rw[fE];congr 1;rw[List.set_append_left _ _ (by simp; omega),a9H _ _ Om,a9H _ _ Om,a8I hi];rw[show A.length+i-A.length-P.length=0 by omega,List.set_cons_zero];simp
theorem aCN {t:Nat} (h:t<18446744073709551616):kO .and .u64 (t:Int) 4294967295=some (.int .u64 ((t%4294967296:Nat):Int)):=by
 show some (PV.int .u64 (IntKind.u64.wrap (((BitVec.ofInt 64 (t:Int) &&& BitVec.ofInt 64 (4294967295:Int)).toNat:Nat):Int)))=_;have e:BitVec.ofInt 64 (4294967295:Int)=BitVec.ofNat 64 4294967295:=by rfl
 rw[e,BitVec.ofInt_natCast,BitVec.toNat_and,BitVec.toNat_ofNat,BitVec.toNat_ofNat,a7X (by simpa using h)];have c:(4294967295:Nat)%2 ^ 64=2 ^ 32-1:=by decide
 rw[c,Nat.and_two_pow_sub_one_eq_mod];rw[bE (Nat.lt_of_lt_of_le (a8A _ (by decide)) (by decide))]
theorem aDA {c f x:Nat} (e:c<4294967296) (d:f≤4294967296) (i:x<4294967296):c+f*x<18446744073709551616∧(c+f*x)/4294967296<4294967296∧f*x≤4294967296*4294967295:=by
 have:f*x≤4294967296*4294967295:=Nat.mul_le_mul d Om;refine⟨by omega,?_,this⟩;omega
def P5 (v:List Nat) (j o i c b:Nat) (f:Nat):PF:=((((((((PF.nil.set 0 (.osl o 1 j (v.length+1))).set 1 (aI v)).set 2 (.int .u64 f)).set 7 (.int .u64 c)).set 8 (.int .u64 b)).set 13 (aI v)).set 14 (.int .i64 (v.length:Nat))).set 15 (.int .i64 i))
def KY (n w m:Nat):Nat:=if w<m then w+4294967296 ^ n-m else w-m
theorem QY {C:Ctx} (A W Z v:List Nat) (f:Nat) (hW:Lim W) (hv:Lim v) (hl:W.length=v.length+1) (h1:A.length+v.length≤100000) (hf:f≤4294967296) (μ:val v*f≤val W+4294967296 ^ (v.length+1)) (o:Nat) :
  uA.wp C (aV BM.res (fun r H'=>r=.bool (decide (val W<val v*f))∧H'=PH.nil.set o (.rows 1 (aL (A++dR (v.length+1) (KY (v.length+1) (val W) (val v*f))++Z)))))
   (PF.args [.osl o 1 A.length (v.length+1),aI v,.int .u64 f]) (PH.nil.set o (.rows 1 (aL (A++W++Z)))):=by
 simp only[go_sem,uA,QZ,RA,RB,BM];refine wp_loop (α:=List Nat × Nat × Nat) (fun t=>P5 v A.length o t.1.length t.2.1 t.2.2 f) (fun t=>PH.nil.set o (.rows 1 (aL (A++(t.1++W.drop t.1.length)++Z))))
  (fun t=>t.1.length≤v.length∧Lim t.1∧t.2.1<4294967296∧t.2.2≤1∧val (W.take t.1.length)+4294967296 ^ t.1.length*t.2.2+4294967296 ^ t.1.length*t.2.1=val t.1+val (v.take t.1.length)*f) (fun t=>v.length-t.1.length) ([],0,0)
  ⟨by simp,by simp[Lim],by simp,by simp,by simp[val]⟩ ?_ (PH.aJ a_ (by simp only[go_sem,a9F,a7W,List.nil_append])) ?_
 ·unfold P5;exact Lq
 rintro⟨P,c,b⟩ ⟨hP,i,hc,hb,q⟩;simp only at hP i hc hb q;simp only[go_sem,NK,RC,P5];by_cases V:P.length<v.length
 ·have E:(P.length:Int)<(v.length:Nat):=Om;have w:P.length<W.length:=Om;have F:(P.length:Int)<((v.length+1:Nat):Int):=Om;have hx:=hv _ (a6M V);have hw:=hW _ (a6M w);have ζ:=cB v V;have B:=cB W w;have J:=nw (A:=A) (Z:=Z) (P:=P) rfl w;have p:=GA (A:=A) (Z:=Z) (P:=P) rfl w;generalize κ:v[P.length]=x at *
  generalize ι:W[P.length]=y at *
  have θ:(aL v)[P.length]?=some [.int .u32 ((x:Nat):Int)]:=by rw[bS v V,κ]
  obtain⟨k1,k2,k3⟩:=aDA hc hf hx;have ex:IntKind.u64.wrap ((x:Nat):Int)=((x:Nat):Int):=bE Om;have X:IntKind.u64.wrap ((y:Nat):Int)=((y:Nat):Int):=bE Om;have em:IntKind.u64.wrap ((f:Int)*(x:Int))=((f*x:Nat):Int):=by rw[show (f:Int)*(x:Int)=((f*x:Nat):Int) by simp];exact bE Om
  have l:c+f*x<18446744073709551616:=k1;have ea:IntKind.u64.wrap ((c:Int)+((f*x:Nat):Int))=((c+f*x:Nat):Int):=eT l;have O:=aCN l;have η:val (v.take (P.length+1))*f=val (v.take P.length)*f+4294967296 ^ P.length*(f*x):=by rw[ζ,a7Q,a7K,a7O x f]
  generalize f*x=u at *
  have R:(c+u)%4294967296<4294967296:=a8A _ (by decide);obtain⟨s1,s2,s3,s4⟩:=R0 (a:=y) (bor:=b) (b:=(c+u)%4294967296) hw R hb (IntKind.u64.wrap (IntKind.u64.wrap ((y:Int)-(((c+u)%4294967296:Nat):Int))-(b:Int))) (by rw[fM,fM]; omega);generalize hd:SU y b ((c+u)%4294967296)=d at *
  generalize γ:cy y b ((c+u)%4294967296)=U at *
  have β:U≤1:=by rw[← γ]; unfold cy; split<;>omega
  have hs:=p d;simp only[go_sem,E,RD,θ,RE,ex,em,ea,RG,F,J,X,O,RH,s1,hs,RI,amT,s2,RJ,xL,NL,cW (Om:P.length<9223372036854775807)];refine aD (P++[d],(c+u)/4294967296,U) ⟨by simp; omega,i.app fun z hz=>by simp at hz; omega,k2,β,?_⟩ (by simp; omega) ?_ (PH.aJ a_ ?_)
  ·simp only;rw[a6T,a6X,jF,B,η,a8C,a7K,a7K];have h4:4294967296 ^ P.length*y+4294967296 ^ P.length*(4294967296*U)=4294967296 ^ P.length*d+4294967296 ^ P.length*((c+u)%4294967296)+4294967296 ^ P.length*b:=by rw[← a6Z,s3,a6Z,a6Z]
   have h5:4294967296 ^ P.length*(4294967296*((c+u)/4294967296))+4294967296 ^ P.length*((c+u)%4294967296)=4294967296 ^ P.length*c+4294967296 ^ P.length*u:=by rw[← a6Z,a9Z,a6Z]
   omega
  ·simp only;rw[a6T,a6X];exact Lq
  ·simp only;rw[a6T,a6X];simp only[go_sem]
 ·have e:P.length=v.length:=Om;have E:¬ (P.length:Int)<(v.length:Nat):=Om;have w:v.length<W.length:=Om;have F:(v.length:Int)<((v.length+1:Nat):Int):=Om;have hw:=hW _ (a6M w);have B:=cB W w;have J:=nw (A:=A) (Z:=Z) (P:=P) e w;have p:=GA (A:=A) (Z:=Z) (P:=P) e w;have H:val (W.take (v.length+1))=val W:=by rw[a7F Om]
  generalize ι:W[v.length]=y at *
  have X:IntKind.u64.wrap ((y:Nat):Int)=((y:Nat):Int):=bE Om;have Y:=eS i;rw[e] at q Y;rw[a7M] at q;rw[H] at B;have S:4294967296 ^ (v.length+1)=4294967296 ^ v.length*4294967296:=a8C _ _;have ξ:val W+4294967296 ^ v.length*(b+c)=val P+val v*f+4294967296 ^ v.length*y:=by rw[B,a6Z]; omega
  have ν:b+c≤y+4294967296:=by
   rcases a7H (y+4294967296) (b+c) with h | h
   ·exfalso;have:4294967296 ^ v.length*(y+4294967296+1)≤4294967296 ^ v.length*(b+c):=a8T _ h;rw[a6Z,a6Z,Nat.mul_one] at this;omega
   ·exact h
  have M:∃ d k:Nat,d<4294967296∧k≤1∧y+4294967296*k=d+(b+c)∧IntKind.u32.wrap (IntKind.u64.wrap (IntKind.u64.wrap ((y:Int)-(c:Int))-(b:Int)))=(d:Int)∧((IntKind.u64.wrap (IntKind.u64.wrap ((y:Int)-(c:Int))-(b:Int))/9223372036854775808==1)=decide (k=1)):=by
   rw[YD,fM,fM];by_cases h:y<b+c
   ·refine⟨y+4294967296-(b+c),1,by omega,by omega,by omega,by omega,?_⟩;simp only[decide_true];exact bH Om
   ·refine⟨y-(b+c),0,by omega,by omega,by omega,by omega,?_⟩;exact bF Om
  obtain⟨d,k,hd,hk,hy,w1,w2⟩:=M;have hs:=p d;have hN:val (P++[d])+val v*f=val W+4294967296 ^ (v.length+1)*k:=by
   have:4294967296 ^ v.length*y+4294967296 ^ v.length*(4294967296*k)=4294967296 ^ v.length*d+4294967296 ^ v.length*(b+c):=by rw[← a6Z,hy,a6Z]
   rw[jF,e,S,a7K];omega
  have Q:Lim (P++[d]):=i.app fun z hz=>by simp at hz; omega
  have δ:=eS Q;rw[a6T,a6X,e] at δ;have K:decide (k=1)=decide (val W<val v*f):=by
   congr 1;apply propext;constructor
   ·intro h; subst h; omega
   ·intro h;rcases a8R k with h0 | h0
    ·subst h0; omega
    ·omega
  have N:KY (v.length+1) (val W) (val v*f)=val (P++[d]):=by
   unfold KY;split
   ·rename_i h;have:k=1:=by simpa [h] using K
    subst this; omega
   ·rename_i h;have:k=0:=by
     have:¬ k=1:=by simpa [h] using K
     omega
    subst this; omega
  have hD:dR (v.length+1) (KY (v.length+1) (val W) (val v*f))=P++[d]:=by have:=HE Q;rw[a6T,a6X,e] at this;rw[N,this]
  have ε:W.drop (v.length+1)=[]:=baE Om;simp only[go_sem,E,NM,e,F,J,X,NN,w1,hs,NO,amT,w2,K];refine bA (vs:=[.bool (decide (val W<val v*f))]) (.inr rfl) (PH.nil.set o (.rows 1 (aL (A++(P++[d]++W.drop (v.length+1))++Z)))) rfl (PH.aJ a_ Sq) ⟨rfl,?_⟩;rw[hD,ε,a8H]
end Go.PM
namespace Go.Na
theorem Zx {xs ys:List Nat} (e:Lim xs) (i:Lim ys) (c:xs.length=ys.length) (d:val xs=val ys):xs=ys:=by
 rw[← HE e,← HE i,c,d]
theorem aNU {k n:Nat} {xs:List Nat} (e:Lim xs) (c:xs.length=k) (d:val xs=n%4294967296 ^ k):dR k n=xs :=
 Zx (mE k n) e (by rw[kR,c]) (by rw[AG,d])
end Go.Na
namespace Go.PM
open Go Go.Na
def P0 (v:List Nat) (j o i c:Nat):PF:=((((((PF.nil.set 0 (.osl o 1 j (v.length+1))).set 1 (aI v)).set 4 (.int .u64 c)).set 7 (aI v)).set 8 (.int .i64 (v.length:Nat))).set 9 (.int .i64 i))
theorem WN {C:Ctx} (A W Z v:List Nat) (hW:Lim W) (hv:Lim v) (hl:W.length=v.length+1) (h1:A.length+v.length≤100000) (o:Nat) :
  wD.wp C (aV JR.res (fun r H'=>r=.tup []∧H'=PH.nil.set o (.rows 1 (aL (A++dR (v.length+1) (val W+val v)++Z)))))
   (PF.args [.osl o 1 A.length (v.length+1),aI v]) (PH.nil.set o (.rows 1 (aL (A++W++Z)))):=by
 simp only[go_sem,wD,WO,WP,JR];refine wp_loop (α:=List Nat × Nat) (fun t=>P0 v A.length o t.1.length t.2) (fun t=>PH.nil.set o (.rows 1 (aL (A++(t.1++W.drop t.1.length)++Z))))
  (fun t=>t.1.length≤v.length∧Lim t.1∧t.2≤1∧val (W.take t.1.length)+val (v.take t.1.length)=val t.1+4294967296 ^ t.1.length*t.2) (fun t=>v.length-t.1.length) ([],0)
  ⟨by simp,by simp[Lim],by simp,by simp[val]⟩ ?_ (PH.aJ a_ (by simp only[go_sem,a9F,a7W,List.nil_append])) ?_
 ·unfold P0;exact Lq
 rintro⟨P,c⟩ ⟨hP,d,hc,l⟩;simp only at hP d hc l;simp only[go_sem,WM,WQ,P0];by_cases K:P.length<v.length
 ·have q:(P.length:Int)<(v.length:Nat):=Om;have p:P.length<W.length:=Om;have u:(P.length:Int)<((v.length+1:Nat):Int):=Om;have hx:=hv _ (a6M K);have hw:=hW _ (a6M p);have R:=cB v K;have E:=cB W p;have B:=nw (A:=A) (Z:=Z) (P:=P) rfl p;have i:=GA (A:=A) (Z:=Z) (P:=P) rfl p;generalize V:v[P.length]=x at *
  generalize U:W[P.length]=y at *
  have S:(aL v)[P.length]?=some [.int .u32 ((x:Nat):Int)]:=by rw[bS v K,V]
  have ex:IntKind.u64.wrap ((x:Nat):Int)=((x:Nat):Int):=bE Om;have M:IntKind.u64.wrap ((y:Nat):Int)=((y:Nat):Int):=bE Om;have X:IntKind.u64.wrap ((y:Int)+(x:Int))=((y+x:Nat):Int):=eT Om;have Y:IntKind.u64.wrap ((c:Int)+((y+x:Nat):Int))=((c+(y+x):Nat):Int):=eT Om;have Q:=i ((c+(y+x))%4294967296);simp only[go_sem,q,WR,S,WS,u,B,ex,M,X,Y,WT,cI,Q,WU,xL,WV,cW (Om:P.length<9223372036854775807)];refine aD (P++[(c+(y+x))%4294967296],(c+(y+x))/4294967296) ⟨by simp; omega,d.app fun z J=>by simp at J; subst J; exact a8A _ (by decide),by simp only; omega,?_⟩ (by simp; omega) ?_ (PH.aJ a_ ?_)
  ·simp only;rw[a6T,a6X,jF,E,R,a8C,a7K];have h5:4294967296 ^ P.length*(4294967296*((c+(y+x))/4294967296))+4294967296 ^ P.length*((c+(y+x))%4294967296)=4294967296 ^ P.length*c+(4294967296 ^ P.length*y+4294967296 ^ P.length*x):=by rw[← a6Z,a9Z,a6Z,a6Z]
   omega
  ·simp only;rw[a6T,a6X];exact Lq
  ·simp only;rw[a6T,a6X];simp only[go_sem]
 ·have e:P.length=v.length:=Om;have q:¬ (P.length:Int)<(v.length:Nat):=Om;have p:v.length<W.length:=Om;have u:(v.length:Int)<((v.length+1:Nat):Int):=Om;have hw:=hW _ (a6M p);have E:=cB W p;have B:=nw (A:=A) (Z:=Z) (P:=P) e p;have i:=GA (A:=A) (Z:=Z) (P:=P) e p;have w:val (W.take (v.length+1))=val W:=by rw[a7F Om]
  generalize U:W[v.length]=y at *
  have N:=eS d;rw[e] at l N;rw[a7M] at l;rw[w] at E;have ec:IntKind.u32.wrap ((c:Nat):Int)=((c:Nat):Int):=by rw[cI,a7X Om]
  have M:IntKind.u32.wrap ((y:Int)+(c:Int))=(((y+c)%4294967296:Nat):Int):=by rw[show (y:Int)+(c:Int)=((y+c:Nat):Int) by omega,cI]
  have Q:=i ((y+c)%4294967296);have F:Lim (P++[(y+c)%4294967296]):=d.app fun z J=>by simp at J; subst J; exact a8A _ (by decide)
  have H:=eS F;rw[a6T,a6X,e] at H;have hD:dR (v.length+1) (val W+val v)=P++[(y+c)%4294967296]:=by
   refine aNU F (by rw[a6T,a6X,e]) ?_;have:val W+val v=val (P++[(y+c)%4294967296])+4294967296 ^ (v.length+1)*((y+c)/4294967296):=by rw[jF,e,a8C,a7K,a8X,← a6Z,Nat.mod_add_div,a6Z];omega
   rw[this,Nat.add_mul_mod_self_left,a7X H]
  have O:W.drop (v.length+1)=[]:=baE Om;simp only[go_sem,q,WW,e,u,B,ec,M,Q];refine bA (vs:=[]) (.inl rfl) (PH.nil.set o (.rows 1 (aL (A++(P++[(y+c)%4294967296]++W.drop (v.length+1))++Z)))) rfl (PH.aJ a_ Sq) ⟨rfl,?_⟩;rw[hD,O,a8H]
def alU (o n:Nat) (len:Nat):PF:=((PF.nil.set 0 (.osl o 1 0 len)).set 3 (.int .i64 n))
theorem WL {C:Ctx} (xs:List Nat) (u:Lim xs) (y:xs.length≤35184372087808) (o:Nat):pE.wp C (aV yI.res (fun r H'=>r=.int .i64 (nl (val xs):Nat)∧H'=PH.nil.set o (.rows 1 (aL xs)))) (PF.args [.osl o 1 0 xs.length]) (PH.nil.set o (.rows 1 (aL xs))):=by
 simp only[go_sem,pE,JM,JN,yI];refine wp_loop (α:=Nat) (fun n=>alU o n xs.length) (fun _=>PH.nil.set o (.rows 1 (aL xs))) (fun n=>n≤xs.length∧∀ j x,n≤j→xs[j]?=some x→x=0) (fun n=>n) xs.length ⟨a6S _,fun j x h e=>by rw[a7Z h] at e; cases e⟩ ?_ b_ ?_
 ·unfold alU;exact Lq
 rintro n ⟨q,p⟩;have out:(∀ x,0<n→xs[n-1]?=some x→x≠0)→nl (val xs)=n:=fun h=>adV u q p h;simp only[go_sem,JL,JO,alU];by_cases i:(n:Int)>0
 ·have l:0<n:=Om;have hi:=bS xs (Om:n-1<xs.length);have hlt:((n-1:Nat):Int)<(xs.length:Nat):=Om;simp only[go_sem,i,wA (Om:n≤9223372036854775807) l,hi,hlt];by_cases d:xs[n-1]=0
  ·simp only[go_sem,bH (Om:((xs[n-1]:Nat):Int)=0),JP,wA (Om:n≤9223372036854775807) l];refine aD (n-1) ⟨by omega,fun j x w c=>?_⟩ Om ?_ b_
   ·rcases a7H j n with h | h
    ·have:j=n-1:=Om;subst this;rw[a6Y Om] at c;cases c; exact d
    ·exact p j x h c
   ·exact Lq
  ·simp only[go_sem,bF (Om:((xs[n-1]:Nat):Int)≠0),sU];refine bA (.inr rfl) _ rfl b_ ⟨?_,rfl⟩;rw[out fun x _ c=>by rw[a6Y Om] at c; cases c; exact d];rfl
 ·simp only[go_sem,i,sU];refine bA (.inr rfl) _ rfl b_ ⟨?_,rfl⟩;rw[out fun x h=>by omega];rfl
end Go.PM
namespace Go.Na
structure Kn (V W top next Vr head u2 Wr p:Nat):Prop where
 hV:V=top*(4294967296*p)+next*p+Vr
 hW:W=head*(4294967296*p)+u2*p+Wr
 hVr:Vr<p
 hWr:Wr<p
 htop:2147483648≤top
 a5V:next<4294967296
 hu2:u2<4294967296
 hlt:W<V*4294967296
section
variable {V W top next Vr head u2 Wr p:Nat}
theorem Kn.low (K:Kn V W top next Vr head u2 Wr p):next*p+Vr<4294967296*p∧u2*p+Wr<4294967296*p:=by
 have c:(next+1)*p≤4294967296*p:=a7R _ K.a5V;have d:(u2+1)*p≤4294967296*p:=a7R _ K.hu2;rw[a7Q,Nat.one_mul] at c d;have:=K.hVr;have:=K.hWr;omega
theorem Kn.Hv (K:Kn V W top next Vr head u2 Wr p):0<V∧4294967296*p≤V∧0<p:=by
 have:=K.hVr;have h:1*(4294967296*p)≤top*(4294967296*p):=a7R _ (by have:=K.htop; omega);have:=K.hV;omega
theorem Kn.aVH (K:Kn V W top next Vr head u2 Wr p):W/V<4294967296:=by
 rw[a9M K.Hv.1,a7O]; exact K.hlt
theorem Kn.g0 (K:Kn V W top next Vr head u2 Wr p):W/V≤head/top:=by
 have c:0<top:=by have:=K.htop; omega
 rw[Nat.le_div_iff_mul_le c];have d:W/V*V≤W:=Nat.div_mul_le_self W V;have e:W/V*(top*(4294967296*p))≤W/V*V:=a8T _ (by have:=K.hV; omega);have i:=K.low.2;have l:=K.hW;have h5:(W/V*top)*(4294967296*p)<(head+1)*(4294967296*p):=by rw[a7K,a7Q,Nat.one_mul]; omega
 have:=Nat.lt_of_mul_lt_mul_right h5;omega
theorem Kn.g1 (K:Kn V W top next Vr head u2 Wr p) {g r:Nat} (i:g*top+r=head) (y:W/V≤g) (h:g≥4294967296∨g*next>r*4294967296+u2):1≤g∧W/V≤g-1:=by
 have q:=K.aVH;have c:=Nat.div_mul_le_self W V;generalize W/V=Q at *
 rcases h with h | h
 ·omega
 ·have l:Q≠g:=by
   intro e;have u:g*V≤W:=by rw[← e]; exact c
   have w:g*V=g*top*(4294967296*p)+g*next*p+g*Vr:=by rw[K.hV,a6Z,a6Z,a7K,a7K]
   have d:(r*4294967296+u2+1)*p≤g*next*p:=a7R _ h
   rw[a7Q,a7Q,Nat.one_mul,a7K r] at d;have x:g*top*(4294967296*p)+r*(4294967296*p)=head*(4294967296*p):=by rw[← a7Q,i]
   have:=K.hW;have:=K.hWr;omega
  omega
theorem Kn.g2 (K:Kn V W top next Vr head u2 Wr p) {g r:Nat} (l:g*top+r=head) (q:g≤4294967296) (h:g*next≤r*4294967296+u2):g≤W/V+1:=by
 rcases a8R g with e | e
 ·rw[e]; exact a6Q _
 have d:g*V=g*top*(4294967296*p)+g*next*p+g*Vr:=by rw[K.hV,a6Z,a6Z,a7K,a7K]
 have c:g*next*p≤(r*4294967296+u2)*p:=a7R _ h
 rw[a7Q,a7K r] at c;have i:g*top*(4294967296*p)+r*(4294967296*p)=head*(4294967296*p):=by rw[← a7Q,l]
 have h5:g*Vr≤4294967296*Vr:=a7R _ q;have u:4294967296*(Vr+1)≤4294967296*p:=a8T _ K.hVr;have hV:=K.Hv;have hW:=K.hW;have h7:(g-1)*V≤W:=by
  have:g*V=(g-1)*V+V:=by obtain⟨k,rfl⟩:∃ k,g=k+1:=⟨g-1,by omega⟩;rw[a7Q,Nat.one_mul]; rfl
  omega
 have:=(Nat.le_div_iff_mul_le hV.1).2 h7;generalize W/V=Q at *
 clear d c i h5 h7;omega
theorem Kn.g3 (K:Kn V W top next Vr head u2 Wr p) {g r:Nat} (l:g*top+r=head) (q:g≤4294967296) (u:4294967296≤r):g≤W/V+1:=by
 have c:=K.low.1;have hV:=K.Hv;have d:g*V=g*top*(4294967296*p)+g*(next*p+Vr):=by rw[K.hV,a8X,a6Z,a7K]
 have e:g*(next*p+Vr)≤4294967296*(4294967296*p):=Nat.mul_le_mul q Om;have i:g*top*(4294967296*p)+r*(4294967296*p)=head*(4294967296*p):=by rw[← a7Q,l]
 have h5:4294967296*(4294967296*p)≤r*(4294967296*p):=a7R _ u;have hW:=K.hW;have h7:g*V≤W:=Om;have:=(Nat.le_div_iff_mul_le hV.1).2 h7;generalize W/V=Q at *
 clear d e i h5 h7;omega
theorem Kn.g4 (K:Kn V W top next Vr head u2 Wr p):head/top≤4294967296+1:=by
 have c:=K.low.1;have hV:=K.Hv;have hW:=K.hW;have hlt:=K.hlt;have q:=K.htop;have i:head<(top+1)*4294967296:=by
  have d:V<(top+1)*(4294967296*p):=by rw[K.hV,a7Q,Nat.one_mul]; omega
  have l:V*4294967296≤(top+1)*(4294967296*p)*4294967296:=a7R _ (Nat.le_of_lt d);have e:head*(4294967296*p)<(top+1)*4294967296*(4294967296*p):=by
   have:(top+1)*(4294967296*p)*4294967296=(top+1)*4294967296*(4294967296*p):=by rw[a7K,a7O (4294967296*p) 4294967296,← a7K]
   omega
  exact Nat.lt_of_mul_lt_mul_right e
 have h5:head/top<4294967296+2:=by rw[a9M Om];omega
 omega
end
theorem vL:∀ (k n:Nat),dR (k+1) n=dR k n++[n/4294967296 ^ k%4294967296]
 | 0,n=>by simp[dR]
 | k+1,n=>by show (n%4294967296)::dR (k+1) (n/4294967296)=(n%4294967296)::dR k (n/4294967296)++[n/4294967296 ^ (k+1)%4294967296];rw[vL k (n/4294967296),Nat.div_div_eq_div_mul,a8C,a7O 4294967296];rfl
theorem uK {xs:List Nat} (h:Lim xs):∀ {k:Nat},k≤xs.length→val (xs.drop k)=val xs/4294967296 ^ k:=by
 intro k c;have e:val xs=val (xs.take k)+4294967296 ^ k*val (xs.drop k):=by
  conv=>lhs; rw[← a9I k xs,fS,a7D,a8S c]
 have d:=eS (h.take k);rw[a7D,a8S c] at d;rw[e,Nat.add_mul_div_left _ _ (a9E (by decide)),baA d,a7I]
theorem XL {R s i c d X:Nat} (q:s<32) (h:R/4294967296 ^ i=c+4294967296*(d+4294967296*X)):(R/2 ^ s)/4294967296 ^ i%4294967296=(4294967296*d+c)/2 ^ s%4294967296:=by
 rw[Nat.div_div_eq_div_mul,a7O (2 ^ s),← Nat.div_div_eq_div_mul,h];have l:4294967296*4294967296=2 ^ s*(2 ^ (32-s)*4294967296):=by rw[← a7K,← Nat.pow_add,show s+(32-s)=32 by omega]
 have e:c+4294967296*(d+4294967296*X)=(4294967296*d+c)+2 ^ s*(2 ^ (32-s)*X*4294967296):=by
  have:4294967296*(4294967296*X)=2 ^ s*(2 ^ (32-s)*X*4294967296):=by rw[← a7K,l,a7K,a7K,a7K,a7O 4294967296 X]
  rw[a6Z,this]; omega
 rw[e,Nat.add_mul_div_left _ _ (a9E (by decide)),Nat.add_mul_mod_self_right]
end Go.Na
namespace Go.PM
open Go Go.Na
theorem aRO {A W Z:List Nat} {i:Nat} (hi:i<W.length):(aL (A++W++Z))[A.length+i]?=some [.int .u32 ((W[i]:Nat):Int)]:=by
 have c:A.length+i<(A++W++Z).length:=by simp; omega
 rw[bS _ c];congr 4;rw[List.getElem_append_left (by simp; omega),List.getElem_append_right Om];congr 1;omega
def dF (u v:PV) (n:Nat) (q:PV) (top next j s:Nat):PF:=((((((((PF.nil.set 8 (.int .u64 s)).set 9 (u)).set 10 (v)).set 11 (.int .i64 n)).set 12 (q)).set 13 (.int .u64 top)).set 14 (.int .u64 next)).set 15 (.int .i64 j))
def dG (u v:PV) (n:Nat) (q:PV) (top next j s g r:Nat):PF:=((((((((((PF.nil.set 8 (.int .u64 s)).set 9 (u)).set 10 (v)).set 11 (.int .i64 n)).set 12 (q)).set 13 (.int .u64 top)).set 14 (.int .u64 next)).set 15 (.int .i64 j)).set 17 (.int .u64 g)).set 18 (.int .u64 r))
theorem F8 {C:Ctx} {V y top next Z head e Wr p:Nat} (i:Kn V y top next Z head e Wr p) (htop:top<4294967296) (o l m j s:Nat) (v q:PV) (ζ:j+m+2<l) (η:l≤100000) (U:List Nat) (hU:(aL U)[j+m]?=some [.int .u32 (e:Nat)]) (K:bQ) (F:PF) (H:PH)
  (hF:(dG (.osl o 1 0 l) v (m+2) q top next j s (head/top) (head%top)).le F) (hH:H o=some (.rows 1 (aL U)))
  (Y:∀ g r x,y/V≤g→g≤y/V+1→g≤4294967296→(dG (.osl o 1 0 l) v (m+2) q top next j s g r).le x→K .normal x H) :
  aC.wp C (.block 4 (.loop uU)) K F H:=by
 have X:0<top:=by have:=i.htop; omega
 have hn:=i.a5V;have hu2:=i.hu2;simp only[go_sem];refine wp_loop (α:=Nat × Nat) (fun t=>dG (.osl o 1 0 l) v (m+2) q top next j s t.1 t.2) (fun _=>H) (fun t=>t.1*top+t.2=head∧y/V≤t.1∧t.1≤4294967296+1∧t.2<4294967296) (fun t=>t.1) (head/top,head%top)
  ⟨by simp only; rw[a7O]; exact a9Z head top,i.g0,i.g4,Nat.lt_trans (a8A _ X) htop⟩ hF b_ ?_
 rintro⟨g,r⟩ ⟨J,W,S,hr⟩;simp only at J W S hr;have e1:IntKind.i64.wrap ((j:Int)+((m+2:Nat):Int))=((j+(m+2):Nat):Int):=fW Om;have e2:IntKind.i64.wrap (((j+(m+2):Nat):Int)-2)=((j+m:Nat):Int):=by rw[wrap_i64 Om Om]; omega
 have hlt:((j+m:Nat):Int)<(l:Nat):=Om;have O:IntKind.u64.wrap ((e:Nat):Int)=((e:Nat):Int):=bE Om;have B:shift .shl .u64 (r:Int) 32=some (.int .u64 ((2 ^ 32*r:Nat):Int)):=KV (s:=32) Om Om;have N:(2:Nat) ^ 32=4294967296:=by decide
 have A:=orI (a:=2 ^ 32*r) (b:=e) (n:=2 ^ 32*r+e) Om Om (Nat.two_pow_add_eq_or_of_lt Om r).symm Om;rw[N] at B A;have more:(g≥4294967296∨g*next>r*4294967296+e)→∀ x:PF,(dG (.osl o 1 0 l) v (m+2) q top next j s g r).le x→aC.wp C (.block 5 (.seq (.region CZ) (.seq (.region DA) (.seq (.region DB) (.cond (.tmp 136) (.exit 4) .skip)))))
   (fB (fun t:Nat × Nat=>dG (.osl o 1 0 l) v (m+2) q top next j s t.1 t.2) (fun _=>H) (fun t=>t.1*top+t.2=head∧y/V≤t.1∧t.1≤4294967296+1∧t.2<4294967296) (fun t=>t.1) g (eP 4 K)) x H:=by
  intro hc x d;obtain⟨g1,g2⟩:=i.g1 J W hc;have f8:=d 8 _ (by unfold dG; simp only[go_sem]; rfl);have f9:=d 9 _ (by unfold dG; simp only[go_sem]; rfl);have β:=d 10 _ (by unfold dG; simp only[go_sem]; rfl);have f11:=d 11 _ (by unfold dG; simp only[go_sem]; rfl);have γ:=d 12 _ (by unfold dG; simp only[go_sem]; rfl);have f13:=d 13 _ (by unfold dG; simp only[go_sem]; rfl);have f14:=d 14 _ (by unfold dG; simp only[go_sem]; rfl);have δ:=d 15 _ (by unfold dG; simp only[go_sem]; rfl);have Q:=d 17 _ (by unfold dG; simp only[go_sem]; rfl);have R:=d 18 _ (by unfold dG; simp only[go_sem]; rfl);have w1:IntKind.u64.wrap ((g:Int)-1)=((g-1:Nat):Int):=by rw[wrap_u64 Om Om]; omega
  have w2:IntKind.u64.wrap ((r:Int)+(top:Int))=((r+top:Nat):Int):=eT Om;have E:(g-1)*top+(r+top)=head:=by obtain⟨k,rfl⟩:∃ k,g=k+1:=⟨g-1,by omega⟩;rw[a7Q,Nat.one_mul] at J;simp only[Nat.add_sub_cancel];omega
  simp only[go_sem,CZ,DA,DB,Q,R,f13,w1,w2];by_cases c:r+top≥4294967296
  ·have M:((r+top:Nat):Int)≥4294967296:=Om;simp only[go_sem,M];refine Y (g-1) (r+top) _ g2 (i.g3 E Om c) Om ?_;unfold dG;exact Lq
  ·have M:¬ ((r+top:Nat):Int)≥4294967296:=Om;simp only[go_sem,M];refine aD (g-1,r+top) ⟨E,g2,by simp only; omega,by simp only; omega⟩ (by simp only; omega) ?_ b_;unfold dG;exact Lq
 simp only[go_sem,uU,WE,dG];by_cases c1:g≥4294967296
 ·have u:(g:Int)≥4294967296:=Om;simp only[go_sem,u];have:=more (.inl c1);simp only[go_sem,dG] at this;refine this _ ?_;exact Lq
 ·have u:¬ (g:Int)≥4294967296:=Om;have ε:g*next≤4294967295*4294967295:=Nat.mul_le_mul Om Om
  have em:IntKind.u64.wrap ((g:Int)*(next:Int))=((g*next:Nat):Int):=by rw[show (g:Int)*(next:Int)=((g*next:Nat):Int) by simp];exact bE Om
  simp only[go_sem,u,em,B,e1,e2,hlt,hH,hU,O,A];by_cases c2:g*next>r*4294967296+e
  ·have w:((g*next:Nat):Int)>((4294967296*r+e:Nat):Int):=Om;simp only[go_sem,w];have:=more (.inr c2);simp only[go_sem,dG] at this;refine this _ ?_;exact Lq
  ·have w:¬ ((g*next:Nat):Int)>((4294967296*r+e:Nat):Int):=Om;simp only[go_sem,w];refine Y g r _ W (i.g2 J Om Om) Om ?_;unfold dG;exact Lq
end Go.PM
namespace Go.Na
theorem aZA {W v:List Nat} {m:Nat} (hW:Lim W) (c:Lim v) (q:v.length=m+2) (p:W.length=m+3) (u:2147483648≤v[m+1]) (hlt:val W<val v*4294967296) :
  Kn (val v) (val W) (v[m+1]) (v[m]) (val (v.take m)) (W[m+2]*4294967296+W[m+1]) (W[m]) (val (W.take m)) (4294967296 ^ m):=by
 have i:val v=val (v.take m)+4294967296 ^ m*(v[m]+4294967296*v[m+1]):=by
  rw[rV v (Om:m<v.length)];congr 4;have:v.drop (m+1)=[v[m+1]]:=by rw[a8I Om,baE Om]
  rw[this]; simp[val]
 have l:val W=val (W.take m)+4294967296 ^ m*(W[m]+4294967296*(W[m+1]+4294967296*W[m+2])):=by
  rw[rV W (Om:m<W.length)];congr 4;have:W.drop (m+1)=[W[m+1],W[m+2]]:=by rw[a8I Om,a8I Om,baE Om]
  rw[this]; simp[val]
 have d:=eS (c.take m);have e:=eS (hW.take m);rw[a7D,a8S Om] at d e;refine⟨?_,?_,d,e,u,c _ (a6M _),hW _ (a6M _),hlt⟩
 ·rw[i,a6Z,a7O (4294967296 ^ m) (v[m]),← a7K (4294967296 ^ m),a7O (4294967296 ^ m*4294967296),a7O (4294967296 ^ m) 4294967296];omega
 ·rw[l,a6Z,a7O (4294967296 ^ m) (W[m]),← a7K (4294967296 ^ m),a7O (4294967296 ^ m*4294967296),a7O (4294967296 ^ m) 4294967296,a7O (W[m+2]),Nat.add_comm (4294967296*W[m+2])];omega
end Go.Na
namespace Go.PM
open Go Go.Na
structure ep (C:Ctx):Prop where
 subtract:∀ (A W Z v:List Nat) (f o:Nat),Lim W→Lim v→W.length=v.length+1→A.length+v.length≤100000→f≤4294967296→val v*f≤val W+4294967296 ^ (v.length+1) →
  aG C 142 [.osl o 1 A.length (v.length+1),aI v,.int .u64 f] (PH.nil.set o (.rows 1 (aL (A++W++Z)))) (fun r H'=>r=.bool (decide (val W<val v*f))∧H'=PH.nil.set o (.rows 1 (aL (A++dR (v.length+1) (KY (v.length+1) (val W) (val v*f))++Z))))
 restore:∀ (A W Z v:List Nat) (o:Nat),Lim W→Lim v→W.length=v.length+1→A.length+v.length≤100000 →
  aG C 139 [.osl o 1 A.length (v.length+1),aI v] (PH.nil.set o (.rows 1 (aL (A++W++Z)))) (fun r H'=>r=.tup []∧H'=PH.nil.set o (.rows 1 (aL (A++dR (v.length+1) (val W+val v)++Z))))
theorem Ji (k n:Nat):dR k (n%4294967296 ^ k)=dR k n :=
 Zx (mE _ _) (mE _ _) (by rw[kR,kR]) (by rw[AG,AG,Nat.mod_mod])
theorem F7 {C:Ctx} (D:ep C) (A W Z v Q:List Nat) (m o M J s:Nat) (V:M≠o) (hW:Lim W) (hv:Lim v) (μ:v.length=m+2) (κ:W.length=m+3) (ht:2147483648≤v[m+1]) (hlt:val W<val v*4294967296)
  (m':J=A.length+(m+3)+Z.length) (h':J≤10000) (Φ:A.length<Q.length) (K:bQ) (F:PF) (H:PH) (N:(dF (.osl o 1 0 J) (aI v) (m+2) (.osl M 1 0 Q.length) (v[m+1]) (v[m]) A.length s).le F)
  (hH:H o=some (.rows 1 (aL (A++W++Z)))) (η:H M=some (.rows 1 (aL Q)))
  (hK:∀ F' H',(dF (.osl o 1 0 J) (aI v) (m+2) (.osl M 1 0 Q.length) (v[m+1]) (v[m]) A.length s).le F'→H' o=some (.rows 1 (aL (A++dR (m+3) (val W%val v)++Z)))→H' M=some (.rows 1 (aL (Q.set A.length (val W/val v))))→K .normal F' H') :
  aC.wp C (.block 3 (.seq (.draw CX) (.seq (.draw CY) (.seq (.block 4 (.loop uU)) (.seq (.seq (.region DC) (.cond (.tmp 146) (.seq (.region DD) (.region DE)) .skip)) (.region uV)))))) K F H:=by
 have Kk:=aZA hW hv μ κ ht hlt;have l:∀ i (h:i<W.length),(aL (A++W++Z))[A.length+i]?=some [.int .u32 ((W[i]:Nat):Int)]:=fun i h=>aRO h;have g0:=l (m+2) Om;have g1:=l (m+1) Om;have g2:=l m Om;have hq:=Kk.aVH;have htop:v[m+1]<4294967296:=hv _ (a6M _);have q':=hW _ (a6M (Om:m+2<W.length));have r':=hW _ (a6M (Om:m+1<W.length));have U:=Kk.Hv.1;generalize p':v[m+1]=top at *
 generalize n':v[m]=next at *
 generalize s':W[m+2]=w at *
 generalize t':W[m+1]=X at *
 generalize u':W[m]=u2 at *
 have f8:=N 8 _ (by unfold dF; simp only[go_sem]; rfl);have f9:=N 9 _ (by unfold dF; simp only[go_sem]; rfl);have ω:=N 10 _ (by unfold dF; simp only[go_sem]; rfl);have f11:=N 11 _ (by unfold dF; simp only[go_sem]; rfl);have Γ:=N 12 _ (by unfold dF; simp only[go_sem]; rfl);have f13:=N 13 _ (by unfold dF; simp only[go_sem]; rfl);have f14:=N 14 _ (by unfold dF; simp only[go_sem]; rfl);have γ:=N 15 _ (by unfold dF; simp only[go_sem]; rfl);have e1:IntKind.i64.wrap ((A.length:Int)+((m+2:Nat):Int))=((A.length+(m+2):Nat):Int):=fW Om;have e2:IntKind.i64.wrap (((A.length+(m+2):Nat):Int)-1)=((A.length+(m+1):Nat):Int):=by rw[wrap_i64 Om Om]; omega
 have c0:((A.length+(m+2):Nat):Int)<(J:Nat):=Om;have c1:((A.length+(m+1):Nat):Int)<(J:Nat):=Om;have χ:IntKind.u64.wrap ((w:Nat):Int)=((w:Nat):Int):=bE Om;have ψ:IntKind.u64.wrap ((X:Nat):Int)=((X:Nat):Int):=bE Om;have β:shift .shl .u64 (w:Int) 32=some (.int .u64 ((2 ^ 32*w:Nat):Int)):=KV (s:=32) Om Om;have φ:(2:Nat) ^ 32=4294967296:=by decide
 have R:=orI (a:=2 ^ 32*w) (b:=X) (n:=2 ^ 32*w+X) Om Om (Nat.two_pow_add_eq_or_of_lt Om w).symm Om;rw[φ] at β R;have Θ:4294967296*w+X=w*4294967296+X:=Om;rw[Θ] at R;simp only[go_sem];refine bV H eM b_ ?_;simp only[go_sem,CX,f9,γ,f11,e1,e2,c0,c1,hH,g0,g1,χ,ψ,β,R];refine bV H eM b_ ?_;have o':0<top:=Om;have b':¬ ((top:Nat):Int)=0:=Om;generalize l':w*4294967296+X=head at *
 have Y:IntKind.u64.wrap (a8O ((head:Nat):Int) ((top:Nat):Int))=((head/top:Nat):Int):=by rw[show a8O ((head:Nat):Int) ((top:Nat):Int)=((head/top:Nat):Int) from rfl];exact bE (by have:=Kk.g4; omega)
 have α:Int.tmod ((head:Nat):Int) ((top:Nat):Int)=((head%top:Nat):Int):=rfl;simp only[go_sem,CY,f13,b',Y,α];have e:=F8 (C:=C) Kk htop o J m A.length s (aI v) (.osl M 1 0 Q.length) Om Om (A++W++Z) g2;simp only[go_sem] at e;refine e _ _ H ?_ hH ?_
 ·unfold dG;refine d_ (d_ (d_ (d_ (d_ (d_ (d_ (d_ (d_ (d_ c_ ?_) ?_) ?_) ?_) ?_) ?_) ?_) ?_) ?_) ?_<;>simp only[go_sem,f8,f9,ω,f11,Γ,f13,f14,γ]
 clear e;intro g r F' q1 q2 q3 c;have h8:=c 8 _ (by unfold dG; simp only[go_sem]; rfl);have h9:=c 9 _ (by unfold dG; simp only[go_sem]; rfl);have x:=c 10 _ (by unfold dG; simp only[go_sem]; rfl);have y:=c 11 _ (by unfold dG; simp only[go_sem]; rfl);have δ:=c 12 _ (by unfold dG; simp only[go_sem]; rfl);have ε:=c 13 _ (by unfold dG; simp only[go_sem]; rfl);have ζ:=c 14 _ (by unfold dG; simp only[go_sem]; rfl);have B:=c 15 _ (by unfold dG; simp only[go_sem]; rfl);have S:=c 17 _ (by unfold dG; simp only[go_sem]; rfl);have e3:IntKind.i64.wrap (((A.length+(m+2):Nat):Int)+1)=((A.length+(m+3):Nat):Int):=by rw[wrap_i64 Om Om]; omega
 have c3:(A.length:Int)≤((A.length+(m+3):Nat):Int):=Om;have c4:((A.length+(m+3):Nat):Int)≤(J:Nat):=Om;have e4:A.length+(m+3)-A.length=v.length+1:=Om;have q:v.length+1=m+3:=Om;have k':val v*(val W/val v)+val W%val v=val W:=a9Z _ _;have θ:=eS hW;rw[κ] at θ;have υ:val W%val v<val v:=a8A _ U;have ρ:=eS hv;rw[μ] at ρ;have ξ:4294967296 ^ (m+3)=4294967296 ^ (m+2)*4294967296:=a8C _ _;generalize i':val W/val v=u at *
 generalize j':val W%val v=rd at *
 have O:∀ (p:PF) (H2:PH),p 8=some (.int .u64 s)→p 9=some (.osl o 1 0 J)→p 10=some (aI v)→p 11=some (.int .i64 ((m+2:Nat):Int))→p 12=some (.osl M 1 0 Q.length)→p 13=some (.int .u64 top)→p 14=some (.int .u64 next)→p 15=some (.int .i64 A.length)→p 17=some (.int .u64 u) →
   H2 o=some (.rows 1 (aL (A++dR (m+3) rd++Z)))→H2 M=some (.rows 1 (aL Q))→aC.wp C (.region uV) (eP 3 K) p H2:=by
  intro p H2 k8 k9 c' d' σ e' f' τ g' kH kQ;have a':(aL Q)[A.length]?=some [.int .u32 ((Q[A.length]:Nat):Int)]:=bS Q Φ;have Ω:(A.length:Int)<(Q.length:Nat):=Om;have eq:IntKind.u32.wrap ((u:Nat):Int)=((u:Nat):Int):=by rw[cI,a7X hq]
  have ο:=fE Q A.length u;have ν:¬ o=M:=fun h=>V h.symm;simp only[go_sem,uV,σ,τ,g',eq,Ω,kQ,a',ο];refine hK _ _ ?_ (by simp only[go_sem,ν,kH]) Sq;unfold dF;refine d_ (d_ (d_ (d_ (d_ (d_ (d_ (d_ c_ ?_) ?_) ?_) ?_) ?_) ?_) ?_) ?_<;>simp only[go_sem,k8,k9,c',d',σ,e',f',τ]
 have Ψ:(PH.nil.set o (.rows 1 (aL (A++W++Z)))).le H:=PH.aJ a_ hH;have ι:val v*g≤val W+4294967296 ^ (v.length+1):=by have:val v*g≤val v*(u+1):=a8T _ q2;rw[a6Z,Nat.mul_one] at this;rw[q,ξ]; omega
 simp only[go_sem,DC,h9,B,y,e1,e3,c3,c4,e4,x,S];refine kJ (D.subtract A W Z v g o hW hv Om Om q3 ι) rfl Ψ ?_;rintro rr H' ⟨rfl,rfl⟩ -;rw[PH.sW];by_cases Ξ:g=u
 ·subst Ξ;have d:¬ val W<val v*g:=Om;have hN:KY (v.length+1) (val W) (val v*g)=rd:=by unfold KY; rw[if_neg d]; omega
  rw[hN,q];simp only[go_sem,d];have:=O;simp only[go_sem] at this;refine this _ _ ?_ ?_ ?_ ?_ ?_ ?_ ?_ ?_ ?_ ?_ ?_<;>simp only[go_sem,h8,h9,x,y,δ,ε,ζ,B,S,V,η]
 ·have Λ:g=u+1:=Om;subst Λ;rw[a6Z,Nat.mul_one];have d:val W<val v*u+val v:=Om;have hN:KY (v.length+1) (val W) (val v*u+val v)=rd+4294967296 ^ (m+3)-val v:=by unfold KY; rw[if_pos d,q]; omega
  rw[hN];have w1:IntKind.u64.wrap (((u+1:Nat):Int)-1)=((u:Nat):Int):=by rw[wrap_u64 Om Om]; omega
  simp only[go_sem,d,DD,S,w1,DE,h9,B,y,e1,e3,c3,c4,e4,x];have Δ:val (dR (v.length+1) (rd+4294967296 ^ (m+3)-val v))=rd+4294967296 ^ (m+3)-val v:=oI (by rw[q]; omega);refine kJ (D.restore A (dR (v.length+1) (rd+4294967296 ^ (m+3)-val v)) Z v o (mE _ _) hv (kR _ _) Om) rfl (PH.aJ a_ Sq) ?_;rintro rr H' ⟨rfl,rfl⟩ -;rw[PH.sW,PH.set_set,Δ];have E:dR (v.length+1) (rd+4294967296 ^ (m+3)-val v+val v)=dR (m+3) rd:=by rw[q,← Ji (m+3) (rd+4294967296 ^ (m+3)-val v+val v)];rw[show rd+4294967296 ^ (m+3)-val v+val v=rd+4294967296 ^ (m+3) by omega,Nat.add_mod_right,Ji]
  rw[E];simp only[go_sem];have:=O;simp only[go_sem] at this;refine this _ _ ?_ ?_ ?_ ?_ ?_ ?_ ?_ ?_ ?_ ?_ ?_<;>simp only[go_sem,h8,h9,x,y,δ,ε,ζ,B,V,η]
open Go
section
variable {C:Ctx} {K:bQ} {F:PF} {H Hs:PH} {S:Spec}
theorem Xo {name:Nat} {vs:List PV} {R:PV→PH→Prop} {args:List aP} {st:Bool} {d:Option Nat} {K:PF→PH→Prop} (p:S name vs=some ([],fun _=>R)) (h:aG C name vs .nil R) (c:aP.evs F args=some vs)
  (e:∀ G:PH,∃ r H',R r H'∧lN G .nil H') (q:∀ r H',R r H'→lN H .nil H'→Hs.le (H.over .nil H')∧K (F.put d r) (H.over .nil H')):dOp C Hs S st (.call name args) d K F H:=by
 refine⟨vs,[],fun _=>R,c,p,fun o u=>by simp at u,by rw[JU]; exact h,fun G=>?_,fun r H' w c=>?_⟩
 ·obtain⟨r,H',i,l⟩:=e G;exact⟨r,H',i,fun o x y A=>l o x y (by simp[PH.nil])⟩
 ·rw[JU] at c ⊢;exact q r H' w c
theorem PH.over_self (c:PH) (h:c.le H):H.over c c=H:=PH.ext fun q=>by
 rw[gG];cases e:c q with
 | none=>rfl
 | some x=>exact (h q x e).symm
theorem ci {o:Nat} {x:cC} (h:H o=some x):H.only [o]=PH.nil.set o x:=PH.ext fun q=>by
 rw[rS,aT];by_cases e:q=o
 ·subst e; simp[h]
 ·simp[e,UP]
theorem YW {name o:Nat} {x:cC} {vs:List PV} {v:PV} {R:PH→PV→PH→Prop} {args:List aP} {st:Bool} {d:Option Nat} {K:PF→PH→Prop} (B:S name vs=some ([o],R)) (w:H o=some x)
  (h:aG C name vs (PH.nil.set o x) (fun r H'=>r=v∧H'=PH.nil.set o x)) (c:R (PH.nil.set o x) v (PH.nil.set o x)) (l:∀ r H',R (PH.nil.set o x) r H'→r=v∧H'=PH.nil.set o x) (E:aP.evs F args=some vs) (p:Hs.le H) (J:K (F.put d v) H) :
  dOp C Hs S st (.call name args) d K F H:=by
 have e:=ci w;refine⟨vs,[o],_,E,B,fun q A=>?_,?_,fun G=>⟨v,_,by rw[e]; exact c,fun q y M u=>?_⟩,fun r H' i _=>?_⟩
 ·simp at A; subst A; exact⟨x,w⟩
 ·rw[e];exact h.post fun r H' i=>⟨r,.refl _,by rw[i.1,i.2]; exact c⟩
 ·rw[e] at u; rw[M] at u; cases u
 ·rw[e] at i;obtain⟨rfl,rfl⟩:=l r H' i;rw[e,PH.over_self _ (by rw[← e]; exact UV H [o])];exact⟨p,J⟩
theorem W2 {c:aC} {α:Type} (d:α→PF) (Hs:α→PH) (e:α→Prop) (m:α→Nat) (i:α) (o:Nat) {s:Nat} {rs:List (List PV)} (w:H o=some (.rows s rs)) (l:e i) (p:(d i).le (F.frz o s rs)) (q:(Hs i).le (H.frz o s rs))
  (u:∀ a,e a→c.wp C (fB d Hs e m (m a) K) (d a) (Hs a)):aC.wp C (.loop c) K F H :=
 ⟨α,d,Hs,e,m,i,_,_,.step o w (.refl _ _),l,p,q,u⟩
@[go_sem] theorem yD (o s:Nat) (rs:List (List PV)) (q:Nat):(H.frz o s rs) q=if q=o then none else (H q).map (cC.frz o s rs):=(rfl)
theorem auS {t u o1 o2 s1 s2 k1 k2:Nat} {rs1 rs2:List (List PV)} {R:PV→PH→Prop} {e:jZ} (M:e=.normal∨e=.ret) (d:o1≠o2) (B:F t=some (.osl o1 s1 0 k1)) (E:F u=some (.osl o2 s2 0 k2)) (i:H o1=some (.rows s1 rs1)) (l:H o2=some (.rows s2 rs2))
  (N:k1≤rs1.length) (O:k2≤rs2.length) (p:rs2.map (fun r=>r.map (PV.dA o1 s1 rs1))=rs2) (Q:(rs1.take k1)=rs1.take k1) (J:R (.tup [.sl s1 (rs1.take k1),.sl s2 (rs2.take k2)]) .nil):aV [.tmp t,.tmp u] R e F H:=by
 have q:∃ vs,dQ.evs F H [.tmp t,.tmp u]=some vs∧∃ x y H2,iU (PF.nil.set 0 (bO vs)) H x y∧H2.le y∧∃ w,x 0=some w∧R w H2:=by
  have c:o2≠o1:=fun h=>d h.symm;have A:(H.frz o1 s1 rs1) o2=some (.rows s2 rs2):=by rw[yD,if_neg c,l]; simp only[a7Y,cC.frz,p]
  refine⟨[.osl o1 s1 0 k1,.osl o2 s2 0 k2],by rw[jU,mX,B,jU,mX,E,oG],_,_,.nil,.step o1 i (.step o2 A (.refl _ _)),a_,_,?_,J⟩;have a1:0+k1≤rs1.length:=Om;have a2:0+k2≤rs2.length:=Om;simp only[PF.frz,jS,if_true,bO,a7Y,PV.frz,PV.sH,PV.dA,a8B,a8W,true_and,if_pos a1,if_pos a2,a7W,if_neg c]
 rcases M with rfl | rfl<;>exact q
end
end Go.PM
namespace Go.Na
structure oV (U0 V n lu lq:Nat) (k:Nat) (U Q:List Nat):Prop where
 lu':U.length=lu
 lq':Q.length=lq
 limU:Lim U
 limQ:Lim Q
 v:val U+val Q*V=U0
 r:val (U.drop k)<V
 z:∀ i x,i<k→Q[i]?=some x→x=0
theorem Jj {H V n F q j:Nat} {U Q:List Nat} (h:oV H V n F q (j+1) U Q) (hV:V<4294967296 ^ n) (Z:j<q) (hl:F=q+n) :
  val ((U.drop j).take (n+1))<V*4294967296∧oV H V n F q j (U.take j++dR (n+1) (val ((U.drop j).take (n+1))%V)++U.drop (j+(n+1))) (Q.set j (val ((U.drop j).take (n+1))/V)):=by
 have R:=h.lu';have B:=h.lq';have c:0<V:=by have:=h.r; omega
 have e:j<U.length:=Om;have S:val (U.drop j)=U[j]+4294967296*val (U.drop (j+1)):=by rw[a8I e]; rfl
 have N:=h.limU _ (a6M e);have hlt:val (U.drop j)<V*4294967296:=by have:=h.r; omega
 have A:((U.drop j).take (n+1)).length=n+1:=by rw[a7D,a8Q]; omega
 have J:val (U.drop j)=val ((U.drop j).take (n+1))+4294967296 ^ (n+1)*val (U.drop (j+(n+1))):=by
  conv=>lhs; rw[← a9I (n+1) (U.drop j),fS,A,List.drop_drop]
 have K:4294967296 ^ (n+1)=4294967296 ^ n*4294967296:=a8C _ _;have O:V*4294967296≤4294967296 ^ n*4294967296:=a7R _ (Nat.le_of_lt hV);have w:val (U.drop (j+(n+1)))=0:=by
  rcases a8R (val (U.drop (j+(n+1)))) with h0 | h0
  ·exact h0
  ·have:=a8T (4294967296 ^ (n+1)) h0;omega
 rw[w,Nat.mul_zero,a8N] at J;generalize hW:val ((U.drop j).take (n+1))=W at *
 have X:val U=val (U.take j)+4294967296 ^ j*W:=by
  conv=>lhs; rw[← a9I j U,fS,a7D,a8S Om,J]
 have p:W%V<V:=a8A _ c;have y:V*(W/V)+W%V=W:=a9Z _ _;have E:W/V<4294967296:=by rw[a9M c,a7O]; omega
 have hD:val (dR (n+1) (W%V))=W%V:=oI Om;have u:Q[j]=0:=h.z j _ Om (a6Y Om);have d:=GD (Om:j<Q.length) (W/V);rw[u,Nat.mul_zero,a8N] at d;have l:(U.take j).length=j:=by rw[a7D]; omega
 refine⟨by omega,?_,?_,?_,?_,?_,?_,?_⟩
 ·simp only[a6T,kR,a8Q,a7D]; omega
 ·rw[a8M]; exact B
 ·exact ((h.limU.take j).app (mE _ _)).app (h.limU.drop _)
 ·exact h.limQ.set _ E
 ·rw[a7V,fS,fS,l,hD,kR,w,Nat.mul_zero,a8N,d];have:=h.v;have h5:(val Q+4294967296 ^ j*(W/V))*V=val Q*V+4294967296 ^ j*(V*(W/V)):=by rw[a7Q,a7K,a7O (W/V) V]
  have Y:4294967296 ^ j*W=4294967296 ^ j*(V*(W/V))+4294967296 ^ j*(W%V):=by rw[← a6Z,y]
  omega
 ·rw[a7V,List.drop_append_of_le_length Om,baE Om,List.nil_append,fS,hD,w,Nat.mul_zero,a8N];exact p
 ·intro i x hi M;rw[List.getElem?_set_ne Om] at M;exact h.z i x Om M
end Go.Na
namespace Go.PM
open Go Go.Na
def dI (u v:PV) (n:Nat) (q:PV) (top next s:Nat) (j:Int):PF:=((((((((PF.nil.set 8 (.int .u64 s)).set 9 (u)).set 10 (v)).set 11 (.int .i64 n)).set 12 (q)).set 13 (.int .u64 top)).set 14 (.int .u64 next)).set 15 (.int .i64 j))
theorem rP (o s:Nat) (rs:List (List PV)) (L:List Nat):(aL L).map (fun r=>r.map (PV.dA o s rs))=aL L:=by
 unfold aL;rw[List.map_map];rfl
theorem Pj {C:Ctx} (D:ep C) (R m p e o o2 i s:Nat) (v c:List Nat) (h2:o2≠o) (h3:i≠o) (h4:i≠o2) (hv:Lim v) (J:v.length=m+2) (χ:(aL c).take (m+2)=aL v) (ψ:m+2≤c.length) (ht:2147483648≤v[m+1])
  (φ:p=e+(m+2)) (M:p≤10000) (U:List Nat) (w:oV R (val v) (m+2) p e e U (a6N e 0)) (K:bQ) (F:PF) (H:PH)
  (u:(dI (.osl o 1 0 p) (.osl o2 1 0 (m+2)) (m+2) (.osl i 1 0 e) (v[m+1]) (v[m]) s ((e:Int)-1)).le F) (hH:H o=some (.rows 1 (aL U))) (θ:H o2=some (.rows 1 (aL c))) (η:H i=some (.rows 1 (aL (a6N e 0))))
  (hK:∀ U' Q' O,oV R (val v) (m+2) p e 0 U' Q'→(dI (.osl o 1 0 p) (aI v) (m+2) (.osl i 1 0 e) (v[m+1]) (v[m]) s (-1)).le O→K .normal O ((PH.nil.set o (.rows 1 (aL U'))).set i (.rows 1 (aL Q')))) :
  aC.wp C (.block 2 (.loop CV)) K F H:=by
 have f8:=u 8 _ (by unfold dI; simp only[go_sem]; rfl);have f9:=u 9 _ (by unfold dI; simp only[go_sem]; rfl);have V:=u 10 _ (by unfold dI; simp only[go_sem]; rfl);have f11:=u 11 _ (by unfold dI; simp only[go_sem]; rfl);have W:=u 12 _ (by unfold dI; simp only[go_sem]; rfl);have f13:=u 13 _ (by unfold dI; simp only[go_sem]; rfl);have f14:=u 14 _ (by unfold dI; simp only[go_sem]; rfl);have X:=u 15 _ (by unfold dI; simp only[go_sem]; rfl);have x:¬ o=o2:=fun h=>h2 h.symm;have y:¬ i=o2:=h4;have N:¬ o=i:=fun h=>h3 h.symm;have ο:∀ (k:IntKind) (n:Int),PV.frz o2 1 (aL c) (.int k n)=.int k n:=fun _ _=>rfl;have σ:∀ l,PV.frz o2 1 (aL c) (.osl o 1 0 l)=.osl o 1 0 l:=fun l=>by simp only[PV.frz,PV.sH,PV.dA,if_neg x]
 have ρ:∀ l,PV.frz o2 1 (aL c) (.osl i 1 0 l)=.osl i 1 0 l:=fun l=>by simp only[PV.frz,PV.sH,PV.dA,if_neg y]
 have τ:PV.frz o2 1 (aL c) (.osl o2 1 0 (m+2))=aI v:=by
  have:0+(m+2)≤(aL c).length:=by rw[bY]; omega
  simp only[PV.frz,PV.sH,PV.dA,if_true,true_and,if_pos this,a7W,χ]
 simp only[go_sem];refine W2 (α:=Nat × List Nat × List Nat) (fun t=>dI (.osl o 1 0 p) (aI v) (m+2) (.osl i 1 0 e) (v[m+1]) (v[m]) s ((t.1:Int)-1)) (fun t=>(PH.nil.set o (.rows 1 (aL t.2.1))).set i (.rows 1 (aL t.2.2)))
  (fun t=>t.1≤e∧oV R (val v) (m+2) p e t.1 t.2.1 t.2.2) (fun t=>t.1) (e,U,a6N e 0) o2 θ ⟨a6S _,w⟩ ?_ ?_ ?_
 ·unfold dI;refine d_ (d_ (d_ (d_ (d_ (d_ (d_ (d_ c_ ?_) ?_) ?_) ?_) ?_) ?_) ?_) ?_<;>simp only[go_sem,f8,f9,V,f11,W,f13,f14,X,ο,σ,ρ,τ]
 ·refine PH.aJ (PH.aJ a_ ?_) ?_
  ·simp only[go_sem,x,hH,cC.frz,rP]
  ·simp only[go_sem,y,η,cC.frz,rP]
 rintro⟨k,U,Q⟩ ⟨hk,w⟩;simp only at hk w;simp only[go_sem,CV,WD,dI];by_cases h0:0<k
 ·obtain⟨j,rfl⟩:∃ j,k=j+1:=⟨k-1,by omega⟩;have hz:((j+1:Nat):Int)-1=(j:Int):=Om;have υ:(j:Int)≥0:=Om;have E:val v<4294967296 ^ (m+2):=by have:=eS hv; rw[J] at this; exact this
  obtain⟨hlt,ι⟩:=Jj w E Om φ;have μ:=w.lu';have κ:=w.lq';have hA:(U.take j).length=j:=by rw[a7D]; omega
  have ν:((U.drop j).take (m+3)).length=m+3:=by rw[a7D,a8Q]; omega
  have q:U.take j++(U.drop j).take (m+3)++U.drop (j+(m+3))=U:=by rw[a7V,← List.drop_drop,a9I,a9I]
  have ξ:(U.drop (j+(m+3))).length=p-(j+(m+3)):=by rw[a8Q,μ]
  have A:=F7 (C:=C) D (U.take j) ((U.drop j).take (m+3)) (U.drop (j+(m+3))) v Q m o i p s h3 ((w.limU.drop _).take _) hv J ν ht hlt (by rw[hA,ξ]; omega) M (by rw[hA]; omega);rw[hA,q,κ] at A;have S:IntKind.i64.wrap ((j:Int)-1)=(j:Int)-1:=wrap_i64 Om Om;simp only[go_sem,hz,υ];simp only[go_sem] at A;refine A _ _ _ ?_ (by simp only[go_sem,N]) Sq ?_
  ·unfold dF;exact Lq
  ·intro O H' d ζ B;have g8:=d 8 _ (by unfold dF; simp only[go_sem]; rfl);have g9:=d 9 _ (by unfold dF; simp only[go_sem]; rfl);have Y:=d 10 _ (by unfold dF; simp only[go_sem]; rfl);have Z:=d 11 _ (by unfold dF; simp only[go_sem]; rfl);have β:=d 12 _ (by unfold dF; simp only[go_sem]; rfl);have γ:=d 13 _ (by unfold dF; simp only[go_sem]; rfl);have δ:=d 14 _ (by unfold dF; simp only[go_sem]; rfl);have ε:=d 15 _ (by unfold dF; simp only[go_sem]; rfl);simp only[go_sem,WF,ε,S];refine aD (j,_,_) ⟨by simp only; omega,ι⟩ (by simp only; omega) ?_ (PH.aJ (PH.aJ a_ ζ) B);refine d_ (d_ (d_ (d_ (d_ (d_ (d_ (d_ c_ ?_) ?_) ?_) ?_) ?_) ?_) ?_) ?_<;>simp only[go_sem,g8,g9,Y,Z,β,γ,δ]
 ·have:k=0:=Om;subst this;have hz:¬ ((0:Nat):Int)-1≥0:=by decide
  simp only[go_sem,hz];refine hK U Q _ w ?_;unfold dI
  (repeat' (first|exact c_|refine d_ ?_ ?_))<;>first|(simp only[go_sem,show ((0:Nat):Int)-1=-1 from rfl]<;>rfl)|rfl
open Go Go.Na
def rFr (o d e c or n s i:Nat):PF:=((((((PF.nil.set 8 (.int .u64 s)).set 9 (.osl o 1 0 d)).set 12 (.osl e 1 0 c)).set 19 (.osl or 1 0 n)).set 166 (.int .i64 n)).set 167 (.int .i64 i))
theorem aVY {x s:Nat} (c:s≤64):shift .shr .u64 (x:Int) (s:Int)=some (.int .u64 ((x/2 ^ s:Nat):Int)):=by
 unfold shift;rw[if_neg Om];simp only;have:min (Int.toNat (s:Int)) IntKind.u64.bits=s:=by rw[show IntKind.u64.bits=64 from rfl]; omega
 rw[this,Int.fdiv_eq_ediv_of_nonneg _ (by exact_mod_cast a6Q _)]
 norm_cast
theorem Pk {C:Ctx} (o l c Z n s:Nat) (U Q:List Nat) (hs:s<32) (h3:c≠o) (V:Lim U) (hl:U.length=l) (hn:n<l) (β:l≤10000) (K:bQ) (F:PF)
  (f8:F 8=some (.int .u64 s)) (f9:F 9=some (.osl o 1 0 l)) (f11:F 11=some (.int .i64 n)) (γ:F 12=some (.osl c 1 0 Z))
  (hK:∀ or F' H',or≠o→or≠c→(rFr o l c Z or n s n).le F'→H' c=some (.rows 1 (aL Q))→H' or=some (.rows 1 (aL (dR n (val U/2 ^ s))))→K .normal F' H') :
  aC.wp C (.seq (.region DF) (.seq (.region DG) (.block 6 (.loop CW)))) K F ((PH.nil.set o (.rows 1 (aL U))).set c (.rows 1 (aL Q))):=by
 have X:((n:Nat):Int)*((4:Nat):Int)≤140737488355328:=Om;have Y:((n:Nat):Int)≤9223372036854775807:=Om;have hz:a6N n [PV.int .u32 0]=aL ([]++a6N n 0):=by simp[aL]
 simp only[go_sem,DF,f11,X,Y,hz];refine aR fun or H=>?_;have n1:¬ or=c:=(hC.1 H).1;have n2:¬ or=o:=(hC.1 (hC.1 H).2).1;have q:¬ c=or:=fun h=>n1 h.symm;have u:¬ o=or:=fun h=>n2 h.symm;have n3:¬ c=o:=h3;have w:¬ o=c:=fun h=>n3 h.symm;simp only[go_sem,DG];refine wp_loop (α:=List Nat) (fun P=>rFr o l c Z or n s P.length) (fun P=>((PH.nil.set o (.rows 1 (aL U))).set c (.rows 1 (aL Q))).set or (.rows 1 (aL (P++a6N (n-P.length) 0)))) (fun P=>P.length≤n∧P=dR P.length (val U/2 ^ s)) (fun P=>n-P.length) []
  ⟨by simp,rfl⟩ ?_ ?_ ?_
 ·unfold rFr;exact Lq
 ·refine PH.aJ (PH.aJ (PH.aJ a_ ?_) ?_) ?_<;>simp only[go_sem,n1,q,n2,u,n3,w,a9F]
 rintro P ⟨hP,hD⟩;simp only[go_sem,CW,WG,rFr];by_cases c1:P.length<n
 ·have i:(P.length:Int)<(n:Nat):=Om;obtain⟨k,hk⟩:∃ k,n-P.length=k+1:=⟨n-P.length-1,by omega⟩;have W:(aL (P++a6N (k+1) 0))[P.length]?=some [.int .u32 ((0:Nat):Int)]:=by rw[bS _ (by simp)]; simp
  have N:P.length<U.length:=Om;have a1:P.length+1<U.length:=Om;have b0:(P.length:Int)<(l:Nat):=Om;have b1:((P.length+1:Nat):Int)<(l:Nat):=Om;have δ:=V _ (a6M N);have ε:=V _ (a6M a1);have e:val U/4294967296 ^ P.length=U[P.length]+4294967296*(U[P.length+1]+4294967296*val (U.drop (P.length+2))):=by rw[← uK V Om,a8I N,a8I a1];rfl
  have E:=XL hs e;have g0:=bS U N;have g1:=bS U a1;generalize ζ:U[P.length]=p at *
  generalize η:U[P.length+1]=d at *
  have e1:IntKind.i64.wrap ((P.length:Int)+1)=((P.length+1:Nat):Int):=cW Om;have R:IntKind.u64.wrap ((p:Nat):Int)=((p:Nat):Int):=bE Om;have S:IntKind.u64.wrap ((d:Nat):Int)=((d:Nat):Int):=bE Om;have A:shift .shl .u64 (d:Int) 32=some (.int .u64 ((2 ^ 32*d:Nat):Int)):=KV (s:=32) Om Om;have O:(2:Nat) ^ 32=4294967296:=by decide
  have y:=orI (a:=2 ^ 32*d) (b:=p) (n:=2 ^ 32*d+p) Om Om (Nat.two_pow_add_eq_or_of_lt Om d).symm Om;rw[O] at A y;have B:=aVY (x:=4294967296*d+p) (s:=s) Om;have M:(aL (P++a6N (k+1) 0)).set P.length [.int .u32 (((4294967296*d+p)/2 ^ s%4294967296:Nat):Int)]=aL ((P++[(4294967296*d+p)/2 ^ s%4294967296])++a6N k 0):=by rw[fE,yN]
  simp only[go_sem,i,WH];refine bV .nil eM a_ ?_;simp only[go_sem,WI,i,e1,b0,b1,u,w,g0,g1,R,S,A,y,B,cI,hk,W,M];refine⟨a_,?_⟩;simp only[go_sem,WJ,e1];refine aD (P++[(4294967296*d+p)/2 ^ s%4294967296]) ⟨by simp; omega,?_⟩ (by simp; omega) ?_ (PH.aJ (PH.aJ (PH.aJ a_ ?_) ?_) ?_)
  ·rw[a6T,a6X,vL,← hD,E]
  ·rw[a6T,a6X];exact Lq
  ·simp only[go_sem,u,w]
  ·simp only[go_sem,q]
  ·rw[a6T,a6X,show n-(P.length+1)=k by omega];simp only[go_sem]
 ·have e:P.length=n:=Om;have i:¬ (P.length:Int)<(n:Nat):=Om;have J:a6N (n-P.length) 0=[]:=by rw[show n-P.length=0 by omega]; rfl
  rw[e] at hD;simp only[go_sem,i,J,a8H];refine hK or _ _ n2 n1 ?_ (by simp only[go_sem,q]) (by simp only[go_sem]; rw[← hD]);unfold rFr;rw[e];exact Lq
structure YO (C:Ctx):Prop where
 L:pN C
 D:ep C
 up:∀ (a:List Nat) (s:Nat),Lim a→s<32→a.length≤1000→aG C 143 [aI a,.int .u64 s] .nil (upR a s)
 short:∀ (a:List Nat) (d:Nat),Lim a→0<d→d<4294967296→a.length≤1000→aG C 140 [aI a,.int .u32 d] .nil (aF (.tup [aI (aH (val a/d)),.int .u32 ((val a%d:Nat):Int)]))
 lengthO:∀ (xs:List Nat) (o:Nat),Lim xs→xs.length≤35184372087808→aG C 138 [.osl o 1 0 xs.length] (PH.nil.set o (.rows 1 (aL xs))) (fun r H'=>r=.int .i64 (nl (val xs):Nat)∧H'=PH.nil.set o (.rows 1 (aL xs)))
def aDW:Spec:=fun name vs=>match name,vs with
 | 143,[x,.int _ s]=>some ([],fun _=>upR (iV x) s.toNat)
 | 138,[.osl q _ _ _]=>some ([q],fun c r H'=>H'=c∧∀ xs,Lim xs→c q=some (.rows 1 (aL xs))→r=.int .i64 (nl (val xs):Nat))
 | _,_=>none
theorem Xp (a:List Nat) (s:Nat):aDW 143 [aI a,.int .u64 s]=some ([],fun _=>upR a s):=by
 show some _=_; rw[eC,a8G]
theorem S6 (a:List Nat) (s:Nat):∀ G:PH,∃ r H',upR a s r H'∧lN G .nil H':=fun G=>by
 obtain⟨o,d⟩:=G.fresh;refine⟨_,_,⟨o,rfl,rfl⟩,fun q x c _=>?_⟩;rw[aT] at c;split at c
 ·rename_i e; subst e; exact d
 ·cases c
theorem QW {xs ys:List Nat} (h:aL xs=aL ys):xs=ys:=by
 have:=congrArg iV (show aI xs=aI ys by show PV.sl 1 (aL xs)=PV.sl 1 (aL ys); rw[h])
 rwa [eC,eC] at this
theorem By (q:Nat) (L:List Nat):(PH.nil.set q (.rows 1 (aL L)))=(PH.nil.set q (.rows 1 (aL L)))∧∀ xs,Lim xs→(PH.nil.set q (.rows 1 (aL L))) q=some (.rows 1 (aL xs))→(PV.int .i64 (nl (val L):Nat))=.int .i64 (nl (val xs):Nat):=by
 refine⟨rfl,fun xs c e=>?_⟩;rw[cN] at e;have:aL L=aL xs:=(cC.rows.inj (a8Y.inj e)).2;rw[QW this]
def pC (A B:Nat):PV:=.tup [aI (aH (A/B)),aI (aH (A%B))]
def alO (a b:List Nat) (s:Nat):PF:=(((PF.nil.set 0 (aI a)).set 1 (aI b)).set 8 (.int .u64 s))
theorem aRR {x s:Nat} (c:s≤31) (h:x*2 ^ s<4294967296):shift .shl .u32 (x:Int) (s:Int)=some (.int .u32 ((x*2 ^ s:Nat):Int)):=by
 unfold shift;rw[if_neg Om];simp only;have:min (Int.toNat (s:Int)) IntKind.u32.bits=s:=by rw[show IntKind.u32.bits=32 from rfl]; omega
 rw[this,show (x:Int)*2 ^ s=((x*2 ^ s:Nat):Int) by simp,cI,a7X h]
theorem Uk {n i x:Nat} (c:(a6N n 0)[i]?=some x):x=0:=by
 have:=a9D c;rw[List.mem_replicate] at this;exact this.2
theorem kw {C:Ctx} (F:YO C) (A B:Nat) (hB:B≠0) (hA:nl A≤900) (i':nl B≤900) :
  zR.wp C (aV UU.res (bX (pC A B))) (PF.args [aI (aH A),aI (aH B)]) .nil:=by
 have LA:=aX A;have Y:=aX B;have vA:=aW A;have vB:=aW B;have lA:(aH A).length=nl A:=rfl;have lB:(aH B).length=nl B:=rfl;simp only[go_sem,zR,kx,ky,UU];refine aA (F.L.cmp _ _ LA Y Om Om) rfl ?_;rw[vA,vB];by_cases c1:A<B
 ·have hc:dM A B<0:=by simp[dM,c1]
  simp only[go_sem,hc,kz];refine aA (F.L.trim _ LA Om) rfl ?_;rw[vA];simp only[go_sem];refine bA (vs:=[.aB,aI (aH A)]) (.inr rfl) .nil rfl a_ ⟨?_,rfl⟩;rw[pC,baA c1,a7X c1,fG];refine .tup rfl fun j p q hp hq=>?_
  match j with
  | 0=>simp at hp hq; subst hp; subst hq; exact .nil 1
  | 1=>simp at hp hq; subst hp; subst hq; exact .refl _
  | j+2=>simp at hp
 have hc:¬ dM A B<0:=by unfold dM;rw[if_neg c1];split<;>decide
 have Q:0<B:=a8U hB;have l':nl B≠0:=fun h=>hB (gT.1 h);simp only[go_sem,hc,k6];by_cases c2:nl B=1
 ·have γ:B<4294967296:=by have:=(iJ B 1).1 Om; simpa using this
  have Ξ:aH B=[B]:=oE hB γ;have X:A%B<B:=a8A _ Q;have ew:IntKind.u64.wrap ((A%B:Nat):Int)=((A%B:Nat):Int):=bE Om;rw[Ξ];have ξ:=F.short (aH A) B LA Q γ Om;rw[vA] at ξ;simp only[go_sem,show (((1:Nat):Int)==1)=true from rfl,k7];refine aA ξ rfl ?_;simp only[go_sem,la,ew];refine aA (F.L.make (A%B) Om) rfl ?_;simp only[go_sem];exact bA (vs:=[aI (aH (A/B)),aI (aH (A%B))]) (.inr rfl) .nil rfl a_ ⟨.refl _,rfl⟩
 obtain⟨m,hm⟩:∃ m,nl B=m+2:=⟨nl B-2,by omega⟩;have h':nl B≤nl A:=fL Om;obtain⟨bt,u,e'⟩:=R6 Y (n:=m+1) (by rw[vB]; exact hm);have K:m+1<(aH B).length:=Om;have ι:bt<4294967296:=Y bt (a9D u);have j':B=val ((aH B).take (m+1))+4294967296 ^ (m+1)*bt:=by have e:=cB (aH B) K;rw[a7F Om,vB] at e;rw[a6Y K] at u;rw[a8Y.inj u] at e;exact e
 have S:=eS (Y.take (m+1));rw[a7D,a8S Om] at S;have ν:(aL (aH B))[m+1]?=some [.int .u32 ((bt:Nat):Int)]:=by rw[bS _ K];rw[a6Y K] at u;rw[a8Y.inj u]
 have i1:IntKind.i64.wrap ((((aH B).length:Nat):Int)-1)=((m+1:Nat):Int):=by rw[wrap_i64 Om Om]; omega
 have κ:¬ (((aH B).length:Nat):Int)=1:=Om;simp only[go_sem,bF κ,lb];refine wp_loop (α:=Nat) (fun s=>alO (aH A) (aH B) s) (fun _=>.nil) (fun s=>s≤31∧bt*2 ^ s<4294967296) (fun s=>32-s) 0 ⟨by omega,by simpa using ι⟩ ?_ a_ ?_
 ·unfold alO;exact Lq
 rintro s ⟨hs,Θ⟩;have υ:=aRR hs Θ;simp only[go_sem,ku,lf,alO,i1,ν,υ];refine aDM ?_ ?_
 ·intro c3;have τ:=of_decide_eq_true c3;have f':s<31:=by
   rcases a7H s 31 with h | h
   ·exact h
   ·exfalso;have e:2147483648≤2 ^ s:=a9J (show 0<2 by decide) h;have H:1*2 ^ s≤bt*2 ^ s:=a7R _ Om;omega
  have es:IntKind.u64.wrap ((s:Int)+1)=((s+1:Nat):Int):=by rw[wrap_u64 Om Om]; omega
  simp only[go_sem,lg,es];refine aD (s+1) ⟨by omega,by rw[a8C,← a7K]; omega⟩ Om ?_ a_;exact Lq
 intro c3;have τ:=of_decide_eq_false c3;have y:s<32:=Om;have w:0<2 ^ s:=a9E (by decide);have O:2147483648*4294967296 ^ (m+1)≤B*2 ^ s:=by
  have e:2147483648*4294967296 ^ (m+1)≤(bt*2 ^ s)*4294967296 ^ (m+1):=a7R _ Om;have H:(4294967296 ^ (m+1)*bt)*2 ^ s≤B*2 ^ s:=a7R _ Om;have h3:(4294967296 ^ (m+1)*bt)*2 ^ s=(bt*2 ^ s)*4294967296 ^ (m+1):=by rw[a7K,a7O]
  omega
 have θ:B*2 ^ s<4294967296 ^ (m+2):=by
  have h0:(bt+1)*2 ^ s≤4294967296:=by
   have g':(4294967296:Nat)=2 ^ (32-s)*2 ^ s:=by rw[← Nat.pow_add,show 32-s+s=32 by omega]
   have:bt<2 ^ (32-s):=by
    rcases a7H bt (2 ^ (32-s)) with h | h
    ·exact h
    ·have:=a7R (2 ^ s) h;omega
   have:=a7R (2 ^ s) (show bt+1≤2 ^ (32-s) from this);omega
  have e:B<(bt+1)*4294967296 ^ (m+1):=by rw[a7Q,Nat.one_mul,a7O bt]; omega
  have H:B*2 ^ s<(bt+1)*4294967296 ^ (m+1)*2 ^ s:=Nat.mul_lt_mul_of_pos_right e w;have h3:(bt+1)*4294967296 ^ (m+1)*2 ^ s=(bt+1)*2 ^ s*4294967296 ^ (m+1):=Nat.mul_right_comm _ _ _;have h4:(bt+1)*2 ^ s*4294967296 ^ (m+1)≤4294967296*4294967296 ^ (m+1):=a7R _ h0;have h5:4294967296 ^ (m+2)=4294967296*4294967296 ^ (m+1):=by rw[a8C,a7O]
  omega
 have N:A<4294967296 ^ nl A:=(iJ A _).1 (a6S _);simp only[go_sem];refine bV .nil aDW a_ ?_;simp only[go_sem,VY];have ua:=F.up (aH A) s LA y Om;have ub:=F.up (aH B) s Y y Om;refine Xo (Xp (aH A) s) ua rfl (S6 _ _) ?_;rintro r H' ⟨o,rfl,rfl⟩ -;rw[PH.pG,lA,vA];refine⟨a_,?_⟩;simp only[go_sem];refine Xo (Xp (aH B) s) ub rfl (S6 _ _) ?_;rintro r H' ⟨o2,rfl,rfl⟩ Δ;rw[PH.pG,lB,vB,hm];refine⟨a_,?_⟩;have Λ:=Δ o2 _ (by rw[aT,if_pos rfl]) (by rfl);have ρ:¬ o2=o:=(hC.1 Λ).1;have c':¬ o=o2:=fun h=>ρ h.symm;have k1:((m+2:Nat):Int)≤((m+2+1:Nat):Int):=Om;have k2:IntKind.i64.wrap (((nl A+1:Nat):Int)-((m+2:Nat):Int))=((nl A+1-(m+2):Nat):Int):=by rw[wrap_i64 Om Om]; omega
 obtain⟨c,Φ⟩:∃ c,nl A+1-(m+2)=c:=⟨_,rfl⟩;have Ψ:nl A+1=c+(m+2):=Om;rw[Φ] at k2;have k3:((c:Nat):Int)*((4:Nat):Int)≤140737488355328:=Om;have k4:((c:Nat):Int)≤9223372036854775807:=Om;have hz:a6N c [PV.int .u32 0]=aL (a6N c 0):=by simp[aL]
 have k5:m+2-0=m+2:=Om;simp only[go_sem,lB,hm,k1,k5,VZ,WA,k2,k3,k4,hz];refine aR fun E μ=>?_;have q2:¬ E=o2:=(hC.1 μ).1;have q1:¬ E=o:=(hC.1 (hC.1 μ).2).1;have σ:¬ o2=E:=fun h=>q2 h.symm;have d':¬ o=E:=fun h=>q1 h.symm;have Ω:dR (m+2+1) (B*2 ^ s)=dR (m+2) (B*2 ^ s)++[B*2 ^ s/4294967296 ^ (m+2)%4294967296]:=vL _ _;have Lv:=mE (m+2) (B*2 ^ s);have lv:=kR (m+2) (B*2 ^ s);have vv:val (dR (m+2) (B*2 ^ s))=B*2 ^ s:=oI θ;have ο:(aL (dR (m+2+1) (B*2 ^ s))).take (m+2)=aL (dR (m+2) (B*2 ^ s)):=by unfold aL;rw[← List.map_take,Ω,List.take_append_of_le_length Om,a7F Om]
 generalize o':dR (m+2) (B*2 ^ s)=v at *
 have p':(dR (m+2+1) (B*2 ^ s)).length=m+2+1:=kR _ _;have M:∀ i (h:i<v.length),(aL (dR (m+2+1) (B*2 ^ s)))[i]?=some [.int .u32 ((v[i]:Nat):Int)]:=by intro i h;have e:(aL v)[i]?=some [.int .u32 ((v[i]:Nat):Int)]:=bS v h;rw[← ο,List.getElem?_take_of_lt Om] at e;exact e
 have g1:=M (m+1) Om;have g0:=M m Om;have htop:2147483648≤v[m+1]:=by
  have e:=cB v (Om:m+1<v.length);rw[a7F Om,vv] at e;have H:=eS (Lv.take (m+1));rw[a7D,a8S Om] at H;rcases a7H v[m+1] 2147483648 with h | h
  ·exfalso;have h3:4294967296 ^ (m+1)*(v[m+1]+1)≤4294967296 ^ (m+1)*2147483648:=a8T _ h;rw[a6Z,Nat.mul_one] at h3;rw[a7O 2147483648] at O;omega
  ·exact h
 have n':=Lv _ (a6M (Om:m+1<v.length));have m':=Lv _ (a6M (Om:m<v.length));have w1:IntKind.u64.wrap ((v[m+1]:Nat):Int)=((v[m+1]:Nat):Int):=bE Om;have w0:IntKind.u64.wrap ((v[m]:Nat):Int)=((v[m]:Nat):Int):=bE Om;have j1:IntKind.i64.wrap (((m+2:Nat):Int)-1)=((m+1:Nat):Int):=by rw[wrap_i64 Om Om]; omega
 have j0:IntKind.i64.wrap (((m+2:Nat):Int)-2)=((m:Nat):Int):=by rw[wrap_i64 Om Om]; omega
 have d1:((m+1:Nat):Int)<((m+2:Nat):Int):=Om;have d0:((m:Nat):Int)<((m+2:Nat):Int):=Om;have jq:IntKind.i64.wrap ((c:Int)-1)=(c:Int)-1:=wrap_i64 Om Om;simp only[go_sem];refine bV .nil eM a_ ?_;simp only[go_sem,WB,j1,j0,d1,d0,σ,g1,g0,w1,w0,WC,jq];have η:A*2 ^ s<4294967296 ^ (nl A+1):=by
  have h0:2 ^ s≤4294967296:=by have:(2:Nat) ^ s≤2 ^ 32:=a9J (by decide) Om;simpa using this
  have e:A*2 ^ s<4294967296 ^ nl A*2 ^ s:=Nat.mul_lt_mul_of_pos_right N w;have H:4294967296 ^ nl A*2 ^ s≤4294967296 ^ nl A*4294967296:=a8T _ h0;rw[a8C]; omega
 have LU:=mE (nl A+1) (A*2 ^ s);have lU:=kR (nl A+1) (A*2 ^ s);have vU:val (dR (nl A+1) (A*2 ^ s))=A*2 ^ s:=oI η;have hI:oV (A*2 ^ s) (val v) (m+2) (nl A+1) c c (dR (nl A+1) (A*2 ^ s)) (a6N c 0):=by
  refine⟨lU,List.length_replicate,LU,vO _,by rw[vU,rX]; omega,?_,fun i x _ hx=>Uk hx⟩
  ·rw[uK LU Om,vU,vv,a9M (a9E (by decide))];have e:A*2 ^ s<4294967296 ^ nl A*2 ^ s:=Nat.mul_lt_mul_of_pos_right N w;have hx:nl A=m+1+c:=Om;have H:4294967296 ^ nl A=4294967296 ^ (m+1)*4294967296 ^ c:=by rw[hx,Nat.pow_add]
   have h3:2 ^ s≤2147483648:=by have:(2:Nat) ^ s≤2 ^ 31:=a9J (by decide) hs;simpa using this
   have h4:4294967296 ^ nl A*2 ^ s≤(2147483648*4294967296 ^ (m+1))*4294967296 ^ c:=by rw[H,a7O (4294967296 ^ (m+1)*4294967296 ^ c),← a7K];exact a7R _ (a7R _ h3)
   have h5:(2147483648*4294967296 ^ (m+1))*4294967296 ^ c≤B*2 ^ s*4294967296 ^ c:=a7R _ O;omega
 have W:=Pj (C:=C) F.D (A*2 ^ s) m (nl A+1) c o o2 E s v (dR (m+2+1) (B*2 ^ s)) ρ q1 q2 Lv lv ο Om htop Ψ Om _ hI;simp only[go_sem] at W;refine W _ _ _ ?_ (by simp only[go_sem,c',d']) (by simp only[go_sem,σ]) Sq ?_
 ·unfold dI;exact Lq
 clear W;intro U' l F' d J;have hu:val U'<val v:=by have:=d.r; rwa [a7W] at this
 have V:=d.v;rw[vv] at hu V;have Γ:0<B*2 ^ s:=Om;have ψ:val l=A/B:=by
  have:A*2 ^ s/(B*2 ^ s)=val l:=by rw[← V,Nat.add_mul_div_right _ _ Γ,baA hu,a7I]
  rw[← this,Nat.mul_div_mul_right _ _ w]
 have ω:val U'/2 ^ s=A%B:=by
  have:A*2 ^ s%(B*2 ^ s)=val U':=by rw[← V,Nat.add_mul_mod_self_right,a7X hu]
  rw[← this,Nat.mul_mod_mul_right,Nat.mul_div_cancel _ w]
 have g8:=J 8 _ (by unfold dI; simp only[go_sem]; rfl);have g9:=J 9 _ (by unfold dI; simp only[go_sem]; rfl);have φ:=J 11 _ (by unfold dI; simp only[go_sem]; rfl);have χ:=J 12 _ (by unfold dI; simp only[go_sem]; rfl);have rest:=Pk (C:=C) o (nl A+1) E c (m+2) s U' l y q1 d.limU d.lu' Om Om;simp only[go_sem] at rest;simp only[go_sem];refine rest _ _ g8 g9 φ χ ?_;clear rest;intro or F2 H2 r1 r2 δ ε U;rw[ω] at U;have a':=δ 12 _ (by unfold rFr; simp only[go_sem]; rfl);have b':=δ 19 _ (by unfold rFr; simp only[go_sem]; rfl);have ζ:A%B<4294967296 ^ (m+2):=by have e:A%B<B:=a8A _ Q;have H:B<4294967296 ^ nl B:=(iJ B _).1 (a6S _);rw[hm] at H; omega
 have LR:=mE (m+2) (A%B);have lR:=kR (m+2) (A%B);have vR:val (dR (m+2) (A%B))=A%B:=oI ζ;have nQ:=fD d.limQ;have nR:=fD LR;have e1:=d.lq';generalize k':dR (m+2) (A%B)=R at *
 simp only[go_sem];refine bV .nil aDW a_ ?_;simp only[go_sem,WK,a'];have Z:=F.lengthO l E d.limQ Om;rw[e1] at Z;have β:=F.lengthO R or LR Om;rw[lR] at β;refine YW (o:=E) (x:=.rows 1 (aL l)) (v:=.int .i64 (nl (val l):Nat)) rfl ε Z (By E l) (fun r H' X=>⟨X.2 l d.limQ (by rw[cN]),X.1⟩) rfl a_ ?_;have c4:((nl (val l):Nat):Int)≤(c:Nat):=Om;simp only[go_sem,c4,b',Nat.sub_zero];refine YW (o:=or) (x:=.rows 1 (aL R)) (v:=.int .i64 (nl (val R):Nat)) rfl U β (By or R) (fun r H' X=>⟨X.2 R LR (by rw[cN]),X.1⟩) rfl a_ ?_;have c5:((nl (val R):Nat):Int)≤((m+2:Nat):Int):=Om;simp only[go_sem,c5];refine auS (o1:=E) (o2:=or) (s1:=1) (s2:=1) (k1:=nl (val l)) (k2:=nl (val R)) (rs1:=aL l) (rs2:=aL R) (.inr rfl) (fun h=>r2 h.symm) rfl rfl ε U (by rw[bY]; exact nQ) (by rw[bY]; exact nR) (rP _ _ _ _) rfl ⟨?_,rfl⟩;have t1:(aL l).take (nl (val l))=aL (aH (A/B)):=by have:=jD d.limQ;rw[ψ] at this ⊢;exact this
 have t2:(aL R).take (nl (val R))=aL (aH (A%B)):=by have:=jD LR;rw[vR] at this ⊢;exact this
 rw[t1,t2];exact .refl _
def aEQ (a b:Nat):PF:=((PF.nil.set 0 (aI (aH a))).set 1 (aI (aH b)))
theorem abP {C:Ctx} (L:pN C) (c:∀ A B:Nat,B≠0→nl A≤900→nl B≤900→aG C 136 [aI (aH A),aI (aH B)] .nil (aF (pC A B))) (a b:List Nat) (p:Lim a) (q:Lim b) (w:a.length≤35184372087808) (E:b.length≤35184372087808) :
  QT.wp C (aV alS.res (bX (if dU (val a) (val b) then .tup [aI [],.int .i64 2] else .tup [aI (aH (a6O (val a) (val b))),.int .i64 0]))) (PF.args [aI a,aI b]) .nil:=by
 simp only[go_sem,QT,abQ,abR,alS];refine aA (L.large a p w) rfl ?_;by_cases d:nl (val a)>512
 ·simp only[go_sem,d,uz];rw[if_pos (by simp[dU,d])];exact eJ rfl
 simp only[go_sem,d];refine aA (L.large b q E) rfl ?_;by_cases e:nl (val b)>512
 ·simp only[go_sem,e,uz];rw[if_pos (by simp[dU,e])];exact eJ rfl
 rw[if_neg (by simp[dU,d,e])];simp only[go_sem,e,abS];refine aA (L.trim a p w) rfl ?_;simp only[go_sem];refine aA (L.trim b q E) rfl ?_;simp only[go_sem];refine wp_loop (α:=Nat × Nat) (fun t=>aEQ t.1 t.2) (fun _=>.nil) (fun t=>a6O t.1 t.2=a6O (val a) (val b)∧nl t.1≤512∧nl t.2≤512) (fun t=>t.2) (val a,val b) ⟨rfl,by simp only; omega,by simp only; omega⟩ ?_ a_ ?_
 ·unfold aEQ;exact Lq
 rintro⟨x,y⟩ ⟨l,F,u⟩;simp only at l F u;simp only[go_sem,abO,abT,aEQ,bB];by_cases i:y=0
 ·subst i;have:¬ ((nl 0:Nat):Int)>0:=by rw[yH]; decide
  simp only[go_sem,this,abW];refine bA (vs:=[aI (aH x),.int .i64 0]) (.inr rfl) .nil rfl a_ ⟨?_,rfl⟩;rw[← l,Nat.gcd_zero_right];exact .refl _
 ·have H:nl y≠0:=fun h=>i (gT.1 h);have:((nl y:Nat):Int)>0:=Om;simp only[go_sem,this,abU];refine aA (c x y i Om Om) rfl ?_;simp only[go_sem,pC,abV];have hlt:x%y<y:=a8A _ (a8U i);refine aD (y,x%y) ⟨?_,u,?_⟩ hlt ?_ a_
  ·simp only;rw[← l,Nat.gcd_comm y,← Nat.gcd_rec y x,Nat.gcd_comm]
  ·have:=fL (Nat.le_of_lt hlt);simp only; omega
  ·exact Lq
def mM (A B:Nat):PV:=if dU A B then .tup [aI [],aI [],.int .i64 2] else if B=0 then .tup [aI [],aI [],.int .i64 3] else .tup [aI (aH (A/B)),aI (aH (A%B)),.int .i64 0]
def alP:Spec:=fun name vs=>match name,vs with
 | 138,[x]=>some ([],fun _=>aF (.int .i64 (nl (val (iV x)):Nat)))
 | 136,[x,y]=>some ([],fun _=>aF (pC (val (iV x)) (val (iV y))))
 | _,_=>none
theorem QQ (xs:List Nat):alP 138 [aI xs]=some ([],fun _=>aF (.int .i64 (nl (val xs):Nat))):=by
 show some _=_; rw[eC]
theorem Pi (A B:Nat):alP 136 [aI (aH A),aI (aH B)]=some ([],fun _=>aF (pC A B)):=by
 show some _=_; rw[eC,eC,aW,aW]
theorem rR {res:List dQ} {F:PF} {H:PH} {e:Int} (h:dQ.evs F H res=some [.aB,.aB,.int .i64 e]):aV res (bX (.tup [aI [],aI [],.int .i64 e])) .ret F H:=by
 refine bA (.inr rfl) .nil h a_ ⟨?_,rfl⟩;refine .tup rfl fun j p q c d=>?_
 match j with
 | 0=>simp at c d; subst c; subst d; exact .nil 1
 | 1=>simp at c d; subst c; subst d; exact .nil 1
 | 2=>simp at c d; subst c; subst d; exact .refl _
 | j+3=>simp at c
theorem abH {C:Ctx} (L:pN C) (i:∀ A B:Nat,B≠0→nl A≤900→nl B≤900→aG C 136 [aI (aH A),aI (aH B)] .nil (aF (pC A B))) (a b:List Nat) (p:Lim a) (e:Lim b) (x:a.length≤35184372087808) (w:b.length≤35184372087808) :
  QR.wp C (aV alN.res (bX (mM (val a) (val b)))) (PF.args [aI a,aI b]) .nil:=by
 simp only[go_sem,QR,abI,abJ,alN];refine aA (L.large a p x) rfl ?_;by_cases c:nl (val a)>512
 ·simp only[go_sem,c,uy];rw[show mM (val a) (val b)=.tup [aI [],aI [],.int .i64 2] by simp[mM,dU,c]];exact rR rfl
 simp only[go_sem,c];refine aA (L.large b e w) rfl ?_;by_cases l:nl (val b)>512
 ·simp only[go_sem,l,uy];rw[show mM (val a) (val b)=.tup [aI [],aI [],.int .i64 2] by simp[mM,dU,l]];exact rR rfl
 simp only[go_sem,l,abK];refine aA (L.length b e w) rfl ?_;by_cases d:val b=0
 ·have:((nl (val b):Nat):Int)=0:=by rw[d,yH]; rfl
  simp only[go_sem,bH this,abL];rw[show mM (val a) (val b)=.tup [aI [],aI [],.int .i64 3] by simp[mM,dU,c,d,yH]];exact rR rfl
 have y:nl (val b)≠0:=fun h=>d (gT.1 h);rw[show mM (val a) (val b)=.tup [aI (aH (val a/val b)),aI (aH (val a%val b)),.int .i64 0] by simp[mM,dU,c,l,d]];simp only[go_sem,bF (show ((nl (val b):Nat):Int)≠0 by omega)];refine bV .nil alP a_ ?_;simp only[go_sem,abM];have E:=fD p;have F:=fD e;have q:((nl (val a):Nat):Int)≤(a.length:Nat):=Om;have u:((nl (val b):Nat):Int)≤(b.length:Nat):=Om;refine bM (QQ a) (L.length a p x) rfl a_ ?_;simp only[go_sem,q,or_true,a7W,jD p];refine bM (QQ b) (L.length b e w) rfl a_ ?_;simp only[go_sem,u,or_true,a7W,jD e];refine bM (Pi (val a) (val b)) (i _ _ d Om Om) rfl a_ ?_;simp only[go_sem,pC,abN];exact bA (.inr rfl) .nil rfl a_ ⟨.refl _,rfl⟩
def it:Rg:=[iA 6 (.alloc [zB,.aB,.aB]),iI 7 0]
def iu:Rg:=[iM 11 1,iM 12 2,iK2 13 131 11 12,iM 10 13,iE 14 10 0,iE 15 10 1,iM 8 14,iM 9 15]
def iv:Rg:=[iM 16 8,iK 17 128 16,iC 18 .gtr 17 1]
def iw:Rg:=[iM 20 1,iM 21 8,iK2 22 130 20 21,iM 19 22,iE 23 19 0,iE 24 19 1,iE 25 19 2,iM 1 23]
def ix:Rg:=[iM 27 2,iM 28 8,iK2 29 130 27 28,iM 26 29,iE 30 26 0,iE 31 26 1,iE 32 26 2,iM 2 30]
def HL:Rg:=[iM 33 1,iK 34 128 33,iC 35 .gtr 34 4096,iM 36 35,gM 37 2 36 false,gK 38 128 37 36 false,gC 39 .gtr 38 4096 36 false,iQ 40 36 39]
def wV:Rg:=[iA 41 (.build [zB,.aB,.aB] []),iS 3 6 41,iI 7 2]
def HM:Rg:=[iM 42 0,iM 43 42,gM 44 1 43 true,gK 45 128 44 43 true,gC 46 .gtr 45 0 43 true,iP 47 43 46,iM 48 1,iK 49 135 48,iM 50 2,iK 51 135 50,iA 52 (.build [zB,.aB,.aB] [(0,1,(Tm 47)),(1,1,(Tm 49)),(2,1,(Tm 51))]),iS 3 6 52,iI 7 0]
def zE:aC:=(sq it (.seq (sq iu (sq iv (.cond (Tm 18) (sq iw (.region ix)) .skip))) (.seq (sq HL (.cond (Tm 40) (sq wV .ret) .skip)) (sq HM .ret))))
def ajJ:List Nat:=[]
def rO:aS:=⟨3,53,zE,[.cell 6 (some 3),.tmp 7]⟩
def yy:Rg:=[iZ 4]
def yz:Rg:=[iM 8 0,iM 9 1,iK2 10 133 8 9,iM 7 10,iE 11 7 0,iE 12 7 1,iM 5 11,iM 6 12]
def y6:Rg:=[iM 13 5,iM 4 13]
def CK:aC:=(sq yy (sq yz (sq y6 .ret)))
def arQ:List Nat:=[]
def jb:aS:=⟨2,14,CK,[.tmp 4]⟩
def Ko:Rg:=[iA 1 (.box true (Tm 0)),iT 2 false]
def Kp:Rg:=[iF 3 1 1,iL 4 3,iK 5 128 4,iC 6 .eql 5 0,iM 2 6]
def HQ:aC:=(sq Ko (sq Kp .ret))
def aEM:List Nat:=[1]
def Gp:aS:=⟨1,7,HQ,[.tmp 2]⟩
def Kf:Rg:=[iA 4 (.alloc [zB,.aB,.aB]),iI 5 0]
def Kg:Rg:=[iM 6 1,iC 7 .eql 6 0]
def Kh:Rg:=[iA 8 (.build [zB,.aB,.aB] []),iS 3 4 8,iI 5 3]
def Ki:Rg:=[iM 9 0,iC 10 .lss 9 0,iM 11 1,iC 12 .lss 11 0,iA 13 (.eqb true (Tm 10) (Tm 12)),iM 14 0,iK 15 119 14,iM 16 1,iK 17 119 16,iA 18 (.call 120 [(Tm 13),(Tm 15),(Tm 17)]),iE 19 18 0,iE 20 18 1,iS 3 4 19,iM 5 20]
def HN:aC:=(sq Kf (.seq (sq Kg (.cond (Tm 7) (sq Kh .ret) .skip)) (sq Ki .ret)))
def aEK:List Nat:=[]
def iy:aS:=⟨2,21,HN,[.cell 4 (some 3),.tmp 5]⟩
def Xu:Rg:=[iZ 2]
def Xv:Rg:=[iM 3 0,iC 4 .lss 3 0]
def Xw:Rg:=[iM 5 0,iA 6 (.conv .u64 (Tm 5)),iA 7 (.un .neg (Tm 6)),iK 8 132 7,iM 2 8]
def Xx:Rg:=[iM 9 0,iA 10 (.conv .u64 (Tm 9)),iK 11 132 10,iM 2 11]
def PC:aC:=(sq Xu (.seq (sq Xv (.cond (Tm 4) (sq Xw .ret) .skip)) (sq Xx .ret)))
def aOB:List Nat:=[]
def ajE:aS:=⟨1,12,PC,[.tmp 2]⟩
def y8:Rg:=[iA 1 (.box true (Tm 0)),iT 2 false]
def y9:Rg:=[iF 4 2 1,iL 5 4,iK 6 128 5,iM 3 6]
def BD:Rg:=[iM 7 3,iC 8 .gtr 7 0,iM 9 8,gM 10 3 9 true,gC 11 .leq 10 4096 9 true,iP 12 9 11,iM 13 12,gF 14 1 1 13 true,gL 15 14 13 true,gK 16 128 15 13 true,gC 17 .leq 16 4096 13 true,iP 18 13 17,iM 2 18]
def CL:aC:=(sq y8 (sq y9 (sq BD .ret)))
def arR:List Nat:=[1]
def jc:aS:=⟨1,19,CL,[.tmp 2]⟩
def i5:Rg:=[iA 1 (.box true (Tm 0)),iA 2 (.alloc [zB,.aB,.aB]),iI 3 0]
def i6:Rg:=[iO 4 3 1,iK 5 118 4,iA 6 (.un .not (Tm 5))]
def i7:Rg:=[iA 7 (.build [zB,.aB,.aB] []),iS 3 2 7,iI 3 1]
def i8:Rg:=[iF 8 0 1,iL 9 8,iF 10 1 1,iL 11 10,iF 12 2 1,iL 13 12,iA 14 (.call 120 [(Tm 9),(Tm 11),(Tm 13)]),iE 15 14 0,iE 16 14 1,iS 3 2 15,iM 3 16]
def zF:aC:=(sq i5 (.seq (sq i6 (.cond (Tm 6) (sq i7 .ret) .skip)) (sq i8 .ret)))
def ajL:List Nat:=[1]
def FI:aS:=⟨1,17,zF,[.cell 2 (some 3),.tmp 3]⟩
def X9:Rg:=[iA 2 (.box true (Tm 0)),iA 3 (.box true (Tm 1)),iI 4 0,iI 5 0]
def Ya:Rg:=[iO 9 3 2,iK 10 118 9,iA 11 (.un .not (Tm 10)),iM 12 11,gO 13 3 3 12 false,gK 14 118 13 12 false,iG 15 (.un .not (Tm 14)) 12 false,iQ 16 12 15]
def tq:Rg:=[iI 4 0,iI 5 1]
def Yb:Rd:=[(iF 17 1 2,false),(iL 18 17,false),(iF 19 2 3,false),(iL 20 19,false),(iK2 21 121 18 20,true),(iF 22 1 3,true),(iL 23 22,true),(iF 24 2 2,true),(iL 25 24,true),(iK2 26 121 23 25,true),(iK2 27 129 21 26,true),(iM 6 27,false)]
def Yc:Rd:=[(iF 28 0 2,false),(iL 29 28,false),(iM 30 29,false),(gO 31 3 2 30 true,false),(gK 32 122 31 30 true,true),(iG 33 (.un .not (Tm 32)) 30 true,true),(iP 34 30 33,true),(iF 35 0 3,true),(iL 36 35,true),(iM 37 36,false),(gO 38 3 3 37 true,false),(gK 39 122 38 37 true,true),(iG 40 (.un .not (Tm 39)) 37 true,false),(iP 41 37 40,false),(iM 7 34,false),(iM 8 41,false)]
def xZ:Rg:=[iM 43 7,iM 44 43,gM 45 8 44 true,iP 46 44 45,iM 42 46]
def tr:Rg:=[iM 47 6,iA 48 (.un .neg (Tm 47)),iM 4 48,iI 5 0]
def FF:Rg:=[iM 50 7,iM 49 50]
def tt:Rg:=[iI 4 (-1),iI 5 0]
def UJ:Rg:=[iM 52 8,iM 51 52]
def ZA:Rg:=[iI 4 1,iI 5 0]
def ZB:Rg:=[iM 53 6,iM 4 53,iI 5 0]
def PE:aC:=(sq X9 (.seq (sq Ya (.cond (Tm 16) (sq tq .ret) .skip)) (dq Yb (dq Yc (.seq (.block 0 (sq xZ (.cond (Tm 42) (sq tr .ret) (sq FF (.cond (Tm 49) (sq tt .ret) (sq UJ (.cond (Tm 51) (sq ZA .ret) .skip))))))) (sq ZB .ret))))))
def aOD:List Nat:=[2,3]
def ajF:aS:=⟨2,54,PE,[.tmp 4,.tmp 5]⟩
def Xz:Rg:=[iA 2 (.box true (Tm 0)),iA 3 (.box true (Tm 1)),iA 4 (.alloc [zB,.aB,.aB]),iI 5 0]
def X0:Rg:=[iO 15 3 2,iK 16 118 15,iA 17 (.un .not (Tm 16)),iM 18 17,gO 19 3 3 18 false,gK 20 118 19 18 false,iG 21 (.un .not (Tm 20)) 18 false,iQ 22 18 21]
def tp:Rg:=[iA 23 (.build [zB,.aB,.aB] []),iS 3 4 23,iI 5 1]
def X1:Rd:=[(iF 24 1 2,false),(iL 25 24,false),(iF 26 2 3,false),(iL 27 26,false),(iK2 28 121 25 27,true),(iF 29 1 3,true),(iL 30 29,true),(iF 31 2 2,true),(iL 32 31,true),(iK2 33 121 30 32,true),(iF 34 2 2,true),(iL 35 34,true),(iF 36 2 3,true),(iL 37 36,true),(iK2 38 121 35 37,true),(iM 6 28,false),(iM 7 33,false),(iM 8 38,false)]
def X2:Rg:=[iF 39 0 2,iL 40 39,iF 41 0 3,iL 42 41,iA 43 (.eqb false (Tm 40) (Tm 42))]
def X3:Rg:=[iM 45 6,iM 46 7,iK2 47 127 45 46,iM 44 47,iE 48 44 0,iE 49 44 1,iM 9 48,iM 10 49]
def X4:Rg:=[iF 50 0 2,iL 51 50,iM 52 9,iM 53 8,iA 54 (.call 120 [(Tm 51),(Tm 52),(Tm 53)]),iE 55 54 0,iE 56 54 1,iS 3 4 55,iM 5 56]
def X5:Rg:=[iM 57 6,iM 58 7,iK2 59 129 57 58,iC 60 .geq 59 0]
def X6:Rg:=[iM 62 6,iM 63 7,iK2 64 134 62 63,iM 61 64,iE 65 61 0,iE 66 61 1,iM 11 65,iM 12 66]
def X7:Rg:=[iF 67 0 2,iL 68 67,iM 69 11,iM 70 8,iA 71 (.call 120 [(Tm 68),(Tm 69),(Tm 70)]),iE 72 71 0,iE 73 71 1,iS 3 4 72,iM 5 73]
def J7:Rg:=[iM 75 7,iM 76 6,iK2 77 134 75 76,iM 74 77,iE 78 74 0,iE 79 74 1,iM 13 78,iM 14 79]
def J8:Rg:=[iF 80 0 3,iL 81 80,iM 82 13,iM 83 8,iA 84 (.call 120 [(Tm 81),(Tm 82),(Tm 83)]),iE 85 84 0,iE 86 84 1,iS 3 4 85,iM 5 86]
def PD:aC:=(sq Xz (.seq (sq X0 (.cond (Tm 22) (sq tp .ret) .skip)) (dq X1 (.seq (sq X2 (.cond (Tm 43) (sq X3 (sq X4 .ret)) .skip)) (.seq (sq X5 (.cond (Tm 60) (sq X6 (sq X7 .ret)) .skip)) (sq J7 (sq J8 .ret)))))))
def aOC:List Nat:=[2,3]
def YZ:aS:=⟨2,87,PD,[.cell 4 (some 3),.tmp 5]⟩
def Yf:Rg:=[iA 2 (.alloc [zB,.aB,.aB]),iI 3 0]
def Yg:Rg:=[iA 9 (.call 132 [(.const (.int .u64 1))]),iA 10 (.build [zB,.aB,.aB] [(2,1,(Tm 9))]),iA 4 (.alloc [zB,.aB,.aB]),iS 3 4 10]
def Yh:Rg:=[iM 11 0,iN 12 11,iI 13 0]
def Yi:Rg:=[iB 14 .lss 13 12]
def Yj:Rg:=[iX 15 3 11 13,iO 16 3 15,iA 6 (.alloc [zB,.aB,.aB]),iS 3 6 16]
def Yk:Rg:=[iO 18 3 4,iO 19 3 6,iK2 20 113 18 19,iM 17 20,iE 21 17 0,iE 22 17 1,iA 7 (.alloc [zB,.aB,.aB]),iS 3 7 21,iM 8 22]
def tx:Rg:=[iM 23 8,iC 24 .neq 23 0]
def Yl:Rg:=[iA 25 (.build [zB,.aB,.aB] []),iM 26 8,iS 3 2 25,iM 3 26]
def Ym:Rg:=[iO 27 3 7,iS 3 4 27]
def Yn:Rg:=[iC 28 .add 13 1,iM 13 28]
def Kl:aC:=(sq Yi (.seq (.cond (Tm 14) .skip (.exit 0)) (.seq (.block 1 (sq Yj (sq Yk (.seq (sq tx (.cond (Tm 24) (sq Yl .ret) .skip)) (.region Ym))))) (.region Yn))))
def ZE:Rg:=[iO 29 3 4,iS 3 2 29,iI 3 0]
def PN:aC:=(sq Yf (sq Yg (.seq (sq Yh (.block 0 (.loop Kl))) (sq ZE .ret))))
def aOJ:List Nat:=[]
def tw:aS:=⟨1,30,PN,[.cell 2 (some 3),.tmp 3]⟩
theorem CoL.nil:CoL [] []:=.refl _
theorem CoL.cons {p q:PV} {ps i:List PV} (h:Co p q) (e:CoL ps i):CoL (p::ps) (q::i) :=
 ⟨by simp[e.len],fun j a b c d=>by
  cases j with
  | zero=>simp at c d; subst c; subst d; exact h
  | succ j=>exact e.at_ j a b (by simpa using c) (by simpa using d)⟩
theorem CoL.agg {ps c:List PV} (h:CoL ps c):Co (.agg ps) (.agg c):=.agg h.len h.at_
theorem CoL.tup {ps c:List PV} (h:CoL ps c):Co (.tup ps) (.tup c):=.tup h.len h.at_
structure qO (C:Ctx):Prop extends pN C where
 bits:∀ xs,Lim xs→xs.length≤35184372087808→aG C 128 [aI xs] .nil (aF (.int .i64 (cJ (val xs):Nat)))
 add:∀ xs ys,Lim xs→Lim ys→xs.length≤35184372087808→ys.length≤35184372087808→aG C 127 [aI xs,aI ys] .nil (aF (opV (dU (val xs) (val ys)) (val xs+val ys)))
 sub:∀ xs ys,Lim xs→Lim ys→xs.length≤35184372087808→ys.length≤35184372087808→aG C 134 [aI xs,aI ys] .nil (aF (rK (val xs) (val ys)))
 mul:∀ xs ys,Lim xs→Lim ys→xs.length≤35184372087808→ys.length≤35184372087808→aG C 133 [aI xs,aI ys] .nil (aF (opV (dU (val xs) (val ys)) (val xs*val ys)))
 gcd:∀ xs ys,Lim xs→Lim ys→xs.length≤35184372087808→ys.length≤35184372087808→aG C 131 [aI xs,aI ys] .nil (aF (if dU (val xs) (val ys) then .tup [aI [],.int .i64 2] else .tup [aI (aH (a6O (val xs) (val ys))),.int .i64 0]))
 div:∀ xs ys,Lim xs→Lim ys→xs.length≤35184372087808→ys.length≤35184372087808→aG C 130 [aI xs,aI ys] .nil (aF (mM (val xs) (val ys)))
theorem gR {a b:Nat} (c:nl a≤512) (d:nl b≤512):dU a b=false:=by
 simp[dU]; omega
theorem kY {a b m n:Nat} (c:nl a≤m) (d:nl b≤n):nl (a*b)≤m+n:=by
 rw[iJ] at c d ⊢;rw[Nat.pow_add];by_cases h:b=0
 ·subst h; exact Nat.mul_pos (a9E (by decide)) (a9E (by decide))
 ·calc a*b<4294967296 ^ m*b:=Nat.mul_lt_mul_of_pos_right c (a8U h)
   _≤4294967296 ^ m*4294967296 ^ n:=a8T _ (Nat.le_of_lt d)
theorem AE {n:Nat} (h:nl n≤512):szV n=.tup [aI (aH n),.int .i64 0]:=by
 have:¬ nl n>512:=Om;simp[szV,szL,szE,this]
theorem yx {C:Ctx} (L:qO C) (a b:List Nat) (c:Lim a) (d:Lim b) (e:a.length≤35184372087808) (i:b.length≤35184372087808) (l:nl (val a)≤256) (p:nl (val b)≤256) :
  CK.wp C (aV jb.res (aF (aI (aH (val a*val b))))) (PF.args [aI a,aI b]) .nil:=by
 simp only[go_sem,CK,yy,yz,jb];refine aA (L.mul a b c d e i) rfl ?_;have:=kY l p;rw[gR Om Om,opV,AE Om];simp only[go_sem,y6];refine aQ (.inr rfl) rfl ?_;rfl
abbrev eD (neg:Bool) (a b:List Nat):List PV:=[.bool neg,aI a,aI b]
theorem Km {C:Ctx} (L:qO C) (neg:Bool) (a b:List Nat) (d:Lim a) (e:a.length≤35184372087808) :
  HQ.wp C (aV Gp.res (aF (.bool (decide (val a=0))))) (PF.args [.agg (eD neg a b)]) .nil:=by
 simp only[go_sem,HQ,Ko,Kp,Gp];refine aA (L.bits a d e) rfl ?_;simp only[go_sem];refine aQ (.inr rfl) rfl ?_;have:=@jO (val a);by_cases c:val a=0
 ·rw[bH Om,decide_eq_true c]; rfl
 ·rw[bF Om,decide_eq_false c]; rfl
def cR (a b:Nat):Bool:=decide (0<cJ b)&&decide (cJ b≤4096)&&decide (cJ a≤4096)
theorem y7 {C:Ctx} (L:qO C) (neg:Bool) (a b:List Nat) (l:Lim a) (p:Lim b) (q:a.length≤35184372087808) (u:b.length≤35184372087808) :
  CL.wp C (aV jc.res (aF (.bool (cR (val a) (val b))))) (PF.args [.agg (eD neg a b)]) .nil:=by
 simp only[go_sem,CL,y8,y9,jc];refine aA (L.bits b p u) rfl ?_;by_cases e:0<cJ (val b)
 ·have c:((cJ (val b):Nat):Int)>0:=Om;by_cases i:cJ (val b)≤4096
  ·have d:((cJ (val b):Nat):Int)≤4096:=Om;simp only[go_sem,BD,c,d];refine aA (L.bits a l q) rfl ?_;simp only[go_sem];refine aQ (.inr rfl) rfl ?_;show PV.bool (decide _)=_;rw[cR,decide_eq_true e,decide_eq_true i,a6W,a6W];congr 1;rw[decide_eq_decide];omega
  ·have d:¬ ((cJ (val b):Nat):Int)≤4096:=Om;simp only[go_sem,BD,c,d];refine aQ (.inr rfl) rfl ?_;show PV.bool _=_;simp[cR,e,i]
 ·have c:¬ ((cJ (val b):Nat):Int)>0:=Om;simp only[go_sem,BD,c];refine aQ (.inr rfl) rfl ?_;show PV.bool _=_;simp[cR,e]
theorem Xt {C:Ctx} (L:qO C) (v:Int) (d:-9223372036854775808≤v) (i:v≤9223372036854775807) :
  PC.wp C (aV ajE.res (aF (aI (aH v.natAbs)))) (PF.args [.int .i64 v]) .nil:=by
 simp only[go_sem,PC,Xu,Xv,ajE];by_cases c:v<0
 ·have e:IntKind.u64.wrap (0-IntKind.u64.wrap v)=(v.natAbs:Int):=by rw[fM,fM]; omega
  simp only[go_sem,c,Xw,e];refine aA (L.make v.natAbs Om) rfl ?_;simp only[go_sem];refine aQ (.inr rfl) rfl ?_;rfl
 ·have e:IntKind.u64.wrap v=(v.natAbs:Int):=by rw[fM]; omega
  simp only[go_sem,c,Xx,e];refine aA (L.make v.natAbs Om) rfl ?_;simp only[go_sem];refine aQ (.inr rfl) rfl ?_;rfl
abbrev BC (e:Int):PV:=.tup [.agg (eD false [] []),.int .i64 e]
abbrev ajM (neg:Bool) (a b:Nat):PV:=.tup [.agg (eD neg (aH a) (aH b)),.int .i64 0]
def IQ (neg:Bool) (a b:Nat):PV :=
 if cJ (a/a6O a b)>4096∨cJ (b/a6O a b)>4096 then BC 2 else ajM (neg&&decide (a/a6O a b≠0)) (a/a6O a b) (b/a6O a b)
theorem gS {res:List dQ} {F:PF} {H:PH} {e:Int} (h:dQ.evs F H res=some [.agg [.bool false,.aB,.aB],.int .i64 e]):aV res (bX (BC e)) .ret F H :=
 bA (.inr rfl) .nil h a_ ⟨CoL.tup (.cons (CoL.agg (.cons (.refl _) (.cons (.nil 1) (.cons (.nil 1) .nil)))) (.cons (.refl _) .nil)),rfl⟩
theorem Ic {n:Nat}:cJ n>1↔n>1:=by
 have:=lL n 1;omega
theorem lh {a n:Nat} (g:Nat) (h:nl a≤n):nl (a/g)≤n:=a7U (fL (baB _ _)) h
theorem PK {C:Ctx} (L:qO C) (neg:Bool) (a b:List Nat) (l:Lim a) (u:Lim b) (p:a.length≤35184372087808) (w:b.length≤35184372087808) (o:Nat) (F:PF) (H:PH)
  (f0:F 0=some (.bool neg)) (f1:F 1=some (aI a)) (f2:F 2=some (aI b)) (f6:F 6=some (.ptr o 3 0 0)) (f7:F 7=some (.int .i64 0)) (c:H o=some (.rows 3 [[.bool false,.aB,.aB]])) :
  aC.wp C (.seq (.seq (.region HL) (.cond (.tmp 40) (.seq (.region wV) .ret) .skip)) (.seq (.region HM) .ret)) (aV rO.res (bX (if cJ (val a)>4096∨cJ (val b)>4096 then BC 2 else ajM (neg&&decide (val a≠0)) (val a) (val b)))) F H:=by
 have fin:∀ (r:List (List PV)) F H,F 6=some (.ptr o 3 0 0)→F 7=some (.int .i64 2)→H o=some (.rows 3 [[.bool false,.aB,.aB]])→aV rO.res (bX (BC 2)) .ret F H:=by intro r F H A h7 h;refine gS ?_;simp only[go_sem,rO,A,h7,h]
 simp only[go_sem,HL,f1];refine aA (L.bits a l p) rfl ?_;by_cases x:cJ (val a)>4096
 ·have d:((cJ (val a):Nat):Int)>4096:=Om;rw[if_pos (.inl x)];simp only[go_sem,d,wV,f6,c];exact fin [] _ _ (by simp only[go_sem,f6]) rfl Sq
 ·have d:¬ ((cJ (val a):Nat):Int)>4096:=Om;simp only[go_sem,d,f2];refine aA (L.bits b u w) rfl ?_;by_cases y:cJ (val b)>4096
  ·have i:((cJ (val b):Nat):Int)>4096:=Om;rw[if_pos (.inr y)];simp only[go_sem,i,wV,f6,c];exact fin [] _ _ (by simp only[go_sem,f6]) rfl Sq
  ·have i:¬ ((cJ (val b):Nat):Int)>4096:=Om;rw[if_neg Om];have last:∀ F:PF,F 1=some (aI a)→F 2=some (aI b)→F 6=some (.ptr o 3 0 0)→∀ (q:Bool),q=(neg&&decide (val a≠0))→F 47=some (.bool q) →
     True:=fun _ _ _ _ _ _ _=>trivial
   simp only[go_sem,i,HM,f0,f1,f2,f6,c];cases neg with
   | false =>simp only[go_sem,f0,f1,f2,f6,c];refine aA (L.trim a l p) rfl ?_;simp only[go_sem,f0,f1,f2,f6,c];refine aA (L.trim b u w) rfl ?_;simp only[go_sem,f0,f1,f2,f6,c,a6R];refine bA (.inr rfl) .nil (vs:=[.agg (eD false (aH (val a)) (aH (val b))),.int .i64 0]) ?_ a_ ⟨.refl _,rfl⟩;simp only[go_sem,rO,f6,c]
   | true =>
    simp only[go_sem,f0,f1,f2,f6,c];refine aA (L.bits a l p) rfl ?_;have e:decide (((cJ (val a):Nat):Int)>0)=decide (val a≠0):=by have:=@jO (val a);rw[decide_eq_decide]; omega
    simp only[go_sem,f0,f1,f2,f6,c,e];refine aA (L.trim a l p) rfl ?_;simp only[go_sem,f0,f1,f2,f6,c];refine aA (L.trim b u w) rfl ?_;simp only[go_sem,f0,f1,f2,f6,c,a6W];refine bA (.inr rfl) .nil (vs:=[.agg (eD (decide (val a≠0)) (aH (val a)) (aH (val b))),.int .i64 0]) ?_ a_ ⟨.refl _,rfl⟩;simp only[go_sem,rO,f6,c]
theorem ir {C:Ctx} (L:qO C) (neg:Bool) (a b:List Nat) (q:Lim a) (u:Lim b) (w:a.length≤35184372087808) (x:b.length≤35184372087808) (y:nl (val a)≤512) (l:nl (val b)≤512) (A:val b≠0) :
  zE.wp C (aV rO.res (bX (IQ neg (val a) (val b)))) (PF.args [.bool neg,aI a,aI b]) .nil:=by
 simp only[go_sem,zE,it,iu];refine aR fun o E=>?_;simp only[go_sem];refine aA (L.gcd a b q u w x) rfl ?_;rw[gR y l];simp only[go_sem,iv];have e:a6O (val a) (val b)≠0:=by intro h; exact A (Nat.gcd_eq_zero_iff.1 h).2
 have i:nl (a6O (val a) (val b))≤512:=a7U (fL (Nat.gcd_le_right _ (a8U A))) l;have d:(aH (a6O (val a) (val b))).length≤35184372087808:=by rw[bB]; omega
 refine aA (L.bits _ (aX _) d) rfl ?_;rw[aW];by_cases c:a6O (val a) (val b)>1
 ·have p:((cJ (a6O (val a) (val b)):Nat):Int)>1:=by have:=Ic.2 c; omega
  simp only[go_sem,p,iw];refine aA (L.div a _ q (aX _) w d) rfl ?_;rw[aW,mM,gR y i,if_neg (by decide),if_neg e];simp only[go_sem,ix];refine aA (L.div b _ u (aX _) x d) rfl ?_;rw[aW,mM,gR l i,if_neg (by decide),if_neg e];simp only[go_sem];have:=PK L neg (aH (val a/a6O (val a) (val b))) (aH (val b/a6O (val a) (val b))) (aX _) (aX _) (by rw[bB]; have:=lh (a6O (val a) (val b)) y; omega) (by rw[bB]; have:=lh (a6O (val a) (val b)) l; omega) o;rw[aW,aW] at this;have:=fun F H=>this F H;simp only[aC.wp,go_sem] at this;exact this _ _ rfl rfl rfl rfl rfl Sq
 ·have p:¬ ((cJ (a6O (val a) (val b)):Nat):Int)>1:=by have:=(@Ic (a6O (val a) (val b))); omega
  have B:a6O (val a) (val b)=1:=Om;simp only[go_sem,p];rw[IQ,B,Nat.div_one,Nat.div_one];have:=PK L neg a b q u w x o;simp only[aC.wp,go_sem] at this;exact this _ _ rfl rfl rfl rfl rfl Sq
structure AP (C:Ctx):Prop extends qO C where
 times:∀ a b,Lim a→Lim b→a.length≤35184372087808→b.length≤35184372087808→nl (val a)≤256→nl (val b)≤256→aG C 121 [aI a,aI b] .nil (aF (aI (aH (val a*val b))))
 zero:∀ neg a b,Lim a→a.length≤35184372087808→aG C 122 [.agg (eD neg a b)] .nil (aF (.bool (decide (val a=0))))
 valid:∀ neg a b,Lim a→Lim b→a.length≤35184372087808→b.length≤35184372087808→aG C 118 [.agg (eD neg a b)] .nil (aF (.bool (cR (val a) (val b))))
 abs:∀ v:Int,-9223372036854775808≤v→v≤9223372036854775807→aG C 119 [.int .i64 v] .nil (aF (aI (aH v.natAbs)))
 lowest:∀ neg a b,Lim a→Lim b→a.length≤35184372087808→b.length≤35184372087808→nl (val a)≤512→nl (val b)≤512→val b≠0→aG C 120 [.bool neg,aI a,aI b] .nil (aF (IQ neg (val a) (val b)))
def jt (n d:Int):PV:=if d=0 then BC 3 else IQ (decide (n<0) != decide (d<0)) n.natAbs d.natAbs
theorem nJ {n k:Nat} (h:n<4294967296 ^ k):nl n≤k:=(iJ _ _).2 h
theorem Nr (neg:Bool) (a b:Nat):∃ c x y e,IQ neg a b=.tup [.agg (eD c x y),.int .i64 e]:=by
 unfold IQ;split
 ·exact⟨_,_,_,_,rfl⟩
 ·exact⟨_,_,_,_,rfl⟩
theorem Ke {C:Ctx} (L:AP C) (n d:Int) (l:-9223372036854775808≤n) (p:n≤9223372036854775807) (q:-9223372036854775808≤d) (u:d≤9223372036854775807) :
  HN.wp C (aV iy.res (bX (jt n d))) (PF.args [.int .i64 n,.int .i64 d]) .nil:=by
 simp only[go_sem,HN,Kf,Kg];refine aR fun o A=>?_;unfold jt;by_cases c:d=0
 ·subst c;simp only[go_sem,Kh];refine gS ?_;simp only[go_sem,iy]
 ·rw[if_neg c];simp only[go_sem,bF c,Ki];refine aA (L.abs n l p) rfl ?_;simp only[go_sem];refine aA (L.abs d q u) rfl ?_;simp only[go_sem];have B:nl n.natAbs≤2:=nJ Om;have E:nl d.natAbs≤2:=nJ Om;have low:=L.lowest (decide (n<0) != decide (d<0)) (aH n.natAbs) (aH d.natAbs) (aX _) (aX _) (by rw[bB]; omega) (by rw[bB]; omega);rw[aW,aW] at low;have low:=low Om Om Om;refine aA low rfl ?_;obtain⟨i,x,y,e,w⟩:=Nr (decide (n<0) != decide (d<0)) n.natAbs d.natAbs;rw[w];simp only[go_sem];exact bA (.inr rfl) .nil (vs:=[.agg (eD i x y),.int .i64 e]) (by simp only[go_sem,iy]) a_ ⟨.refl _,rfl⟩
theorem fJ {a b:Nat}:cR a b=true↔b≠0∧nl b≤128∧nl a≤128:=by
 have c:=lM b 128;have d:=lM a 128;have e:=@jO b;simp only[cR,a7E,decide_eq_true_eq];omega
def UY (neg:Bool) (a b:Nat):PV:=if cR a b then IQ neg a b else BC 1
theorem i4 {C:Ctx} (L:AP C) (neg:Bool) (a b:List Nat) (d:Lim a) (i:Lim b) (l:a.length≤35184372087808) (p:b.length≤35184372087808) :
  zF.wp C (aV FI.res (bX (UY neg (val a) (val b)))) (PF.args [.agg (eD neg a b)]) .nil:=by
 simp only[go_sem,zF,i5,i6];refine aR fun o A=>?_;simp only[go_sem];refine aA (L.valid neg a b d i l p) rfl ?_;unfold UY;cases u:cR (val a) (val b) with
 | false =>simp only[go_sem,i7,a7A];refine gS ?_;simp only[go_sem,FI]
 | true =>obtain⟨w,B,E⟩:=fJ.1 u;simp only[go_sem,i8,a6P];refine aA (L.lowest neg a b d i l p Om Om w) rfl ?_;obtain⟨c,x,y,e,q⟩:=Nr neg (val a) (val b);rw[q];simp only[go_sem];exact bA (.inr rfl) .nil (vs:=[.agg (eD c x y),.int .i64 e]) (by simp only[go_sem,FI]) a_ ⟨.refl _,rfl⟩
def rH (c:Bool) (a1 b1:Nat) (d:Bool) (a2 b2:Nat):Int :=
 match c&&decide (a1≠0),d&&decide (a2≠0) with
 | true,true=>- dM (a1*b2) (a2*b1)
 | true,false=>-1
 | false,true=>1
 | false,false=>dM (a1*b2) (a2*b1)
def BB (c:Bool) (a1 b1:Nat) (d:Bool) (a2 b2:Nat):PV :=
 if cR a1 b1&&cR a2 b2 then .tup [.int .i64 (rH c a1 b1 d a2 b2),.int .i64 0] else .tup [.int .i64 0,.int .i64 1]
def fr1:PV→List Nat
 | .agg [_,a,_]=>iV a
 | _=>[]
def frS:Spec:=fun name vs=>match name,vs with
 | 121,[x,y]=>some ([],fun _=>aF (aI (aH (val (iV x)*val (iV y)))))
 | 129,[x,y]=>some ([],fun _=>aF (.int .i64 (dM (val (iV x)) (val (iV y)))))
 | 122,[x]=>some ([],fun _=>aF (.bool (decide (val (fr1 x)=0))))
 | _,_=>none
theorem vM (a b:List Nat):frS 121 [aI a,aI b]=some ([],fun _=>aF (aI (aH (val a*val b)))):=by
 show some _=_; rw[eC,eC]
theorem aOG (a b:List Nat):frS 129 [aI a,aI b]=some ([],fun _=>aF (.int .i64 (dM (val a) (val b)))):=by
 show some _=_; rw[eC,eC]
theorem ZC (neg:Bool) (a b:List Nat):frS 122 [.agg (eD neg a b)]=some ([],fun _=>aF (.bool (decide (val a=0)))):=by
 show some _=_; rw[fr1,eC]
theorem aDJ (a b:Nat):IntKind.i64.wrap (0-dM a b)=- dM a b:=by
 unfold dM; split
 ·rfl
 ·split<;>rfl
theorem X8 {C:Ctx} (L:AP C) (p l:Bool) (a1 b1 a2 b2:List Nat) (e:Lim a1) (q:Lim b1) (c:Lim a2) (u:Lim b2)
  (i:a1.length≤35184372087808) (w:b1.length≤35184372087808) (d:a2.length≤35184372087808) (x:b2.length≤35184372087808) :
  PE.wp C (aV ajF.res (bX (BB p (val a1) (val b1) l (val a2) (val b2)))) (PF.args [.agg (eD p a1 b1),.agg (eD l a2 b2)]) .nil:=by
 simp only[go_sem,PE,X9,Ya];refine aA (L.valid p a1 b1 e q i w) rfl ?_;unfold BB;cases M:cR (val a1) (val b1) with
 | false =>simp only[go_sem,a7A,tq,a6R];exact bA (.inr rfl) .nil (vs:=[.int .i64 0,.int .i64 1]) rfl a_ ⟨.refl _,rfl⟩
 | true =>
  obtain⟨X,O,Q⟩:=fJ.1 M;simp only[go_sem,a6P];refine aA (L.valid l a2 b2 c u d x) rfl ?_;cases N:cR (val a2) (val b2) with
  | false =>simp only[go_sem,a7A,tq,a7S];exact bA (.inr rfl) .nil (vs:=[.int .i64 0,.int .i64 1]) rfl a_ ⟨.refl _,rfl⟩
  | true =>
   obtain⟨Y,R,S⟩:=fJ.1 N;simp only[go_sem,a6P,a8V];refine bV .nil frS a_ ?_;simp only[go_sem,Yb];refine bM (vM a1 b2) (L.times a1 b2 e u i x Om Om) rfl a_ ?_;simp only[go_sem];refine bM (vM a2 b1) (L.times a2 b1 c q d w Om Om) rfl a_ ?_;simp only[go_sem];have V:=kY Q R;have W:=kY S O;have E:=L.cmp (aH (val a1*val b2)) (aH (val a2*val b1)) (aX _) (aX _) (by rw[bB]; omega) (by rw[bB]; omega);have H:=aOG (aH (val a1*val b2)) (aH (val a2*val b1));rw[aW,aW] at E H;refine bM H E rfl a_ ?_;simp only[go_sem];refine bV .nil frS a_ ?_;have U:(!decide (val a1=0))=decide (val a1≠0):=by by_cases h:val a1=0<;>simp[h]
   have J:(!decide (val a2=0))=decide (val a2≠0):=by by_cases h:val a2=0<;>simp[h]
   have fin:∀ (F:PF) (A B:Bool),F 6=some (.int .i64 (dM (val a1*val b2) (val a2*val b1)))→F 7=some (.bool A)→F 8=some (.bool B)→A=(p&&decide (val a1≠0))→B=(l&&decide (val a2≠0)) →
     aC.wp C (.seq (.block 0 (.seq (.region xZ) (.cond (.tmp 42) (.seq (.region tr) .ret) (.seq (.region FF) (.cond (.tmp 49) (.seq (.region tt) .ret) (.seq (.region UJ) (.cond (.tmp 51) (.seq (.region ZA) .ret) .skip))))))) (.seq (.region ZB) .ret)) (aV ajF.res (bX (.tup [.int .i64 (rH p (val a1) (val b1) l (val a2) (val b2)),.int .i64 0]))) F .nil:=by
    intro F A B f6 f7 y K hB;rw[rH,← K,← hB];cases A<;>cases B
    ·simp only[go_sem,xZ,FF,UJ,ZB,f6,f7,y];exact bA (.inr rfl) .nil rfl a_ ⟨.refl _,rfl⟩
    ·simp only[go_sem,xZ,FF,UJ,ZA,f6,f7,y];exact bA (.inr rfl) .nil rfl a_ ⟨.refl _,rfl⟩
    ·simp only[go_sem,xZ,FF,tt,f6,f7,y];exact bA (.inr rfl) .nil rfl a_ ⟨.refl _,rfl⟩
    ·simp only[go_sem,xZ,tr,f6,f7,y,aDJ];exact bA (.inr rfl) .nil rfl a_ ⟨.refl _,rfl⟩
   simp only[aC.wp,go_sem] at fin;simp only[go_sem,Yc];cases p with
   | false =>
    simp only[go_sem];cases l with
    | false =>simp only[go_sem];exact fin _ false false rfl rfl rfl rfl rfl
    | true =>simp only[go_sem];refine bM (ZC true a2 b2) (L.zero true a2 b2 c d) rfl a_ ?_;simp only[go_sem,J];exact fin _ false (decide (val a2≠0)) rfl rfl rfl rfl (by rw[a6W])
   | true =>
    simp only[go_sem];refine bM (ZC true a1 b1) (L.zero true a1 b1 e i) rfl a_ ?_;simp only[go_sem,U];cases l with
    | false =>simp only[go_sem];exact fin _ (decide (val a1≠0)) false rfl rfl rfl (by rw[a6W]) rfl
    | true =>simp only[go_sem];refine bM (ZC true a2 b2) (L.zero true a2 b2 c d) rfl a_ ?_;simp only[go_sem,J];exact fin _ (decide (val a1≠0)) (decide (val a2≠0)) rfl rfl rfl (by rw[a6W]) (by rw[a6W])
abbrev FV:=Bool × Nat × Nat
abbrev FR:=Except Int FV
def gW (neg:Bool) (a b:Nat):FR :=
 if cJ (a/a6O a b)>4096∨cJ (b/a6O a b)>4096 then .error 2 else .ok (neg&&decide (a/a6O a b≠0),a/a6O a b,b/a6O a b)
def frV:FR→PV
 | .ok (n,a,b)=>ajM n a b
 | .error e=>BC e
theorem ui (neg:Bool) (a b:Nat):IQ neg a b=frV (gW neg a b):=by
 unfold IQ gW;split<;>rfl
def gU:FV→FV→FR
 | (c,a1,b1),(d,a2,b2)=>if cR a1 b1&&cR a2 b2 then
   (if c=d then gW c (a1*b2+a2*b1) (b1*b2) else if a2*b1≤a1*b2 then gW c (a1*b2-a2*b1) (b1*b2) else gW d (a2*b1-a1*b2) (b1*b2))
  else .error 1
theorem Pn {a b m:Nat} (c:nl a≤m) (d:nl b≤m):nl (a+b)≤m+1:=by
 rw[iJ] at c d ⊢;rw[a8C]; omega
theorem UE (a b:Nat):(dM a b≥0)↔b≤a:=by
 unfold dM;split
 ·constructor
  ·intro h; exact absurd h (by decide)
  ·intro h; omega
 ·split
  ·constructor
   ·intro h; omega
   ·intro h; decide
  ·constructor
   ·intro h; omega
   ·intro h; decide
theorem tP (r:FR):∃ c x y e,frV r=.tup [.agg (eD c x y),.int .i64 e]:=by
 rcases r with e | ⟨n,a,b⟩
 ·exact⟨_,_,_,_,rfl⟩
 ·exact⟨_,_,_,_,rfl⟩
theorem Xy {C:Ctx} (L:AP C) (i p:Bool) (a1 b1 a2 b2:List Nat) (M:Lim a1) (w:Lim b1) (N:Lim a2) (E:Lim b2)
  (O:a1.length≤35184372087808) (J:b1.length≤35184372087808) (Q:a2.length≤35184372087808) (K:b2.length≤35184372087808) :
  PD.wp C (aV YZ.res (bX (frV (gU (i,val a1,val b1) (p,val a2,val b2))))) (PF.args [.agg (eD i a1 b1),.agg (eD p a2 b2)]) .nil:=by
 simp only[go_sem,PD,Xz];refine aR fun o ho=>?_;simp only[go_sem,X0];refine aA (L.valid i a1 b1 M w O J) rfl ?_;simp only[gU];cases hv:cR (val a1) (val b1) with
 | false =>simp only[go_sem,a7A,tp,a6R];refine gS ?_;simp only[go_sem,YZ]
 | true =>
  obtain⟨v1,v2,v3⟩:=fJ.1 hv;simp only[go_sem,a6P];refine aA (L.valid p a2 b2 N E Q K) rfl ?_;cases hw:cR (val a2) (val b2) with
  | false =>simp only[go_sem,a7A,tp,a7S];refine gS ?_;simp only[go_sem,YZ]
  | true =>
   obtain⟨w1,w2,w3⟩:=fJ.1 hw;simp only[go_sem,a6P,a8V];refine bV .nil frS a_ ?_;simp only[go_sem,X1];refine bM (vM a1 b2) (L.times a1 b2 M E O K Om Om) rfl a_ ?_;simp only[go_sem];refine bM (vM a2 b1) (L.times a2 b1 N w Q J Om Om) rfl a_ ?_;simp only[go_sem];refine bM (vM b1 b2) (L.times b1 b2 w E J K Om Om) rfl a_ ?_;simp only[go_sem];have m1:=kY v3 w2;have m2:=kY w3 v2;have m3:=kY v2 w2;have d0:val b1*val b2≠0:=Nat.mul_ne_zero v1 w1;generalize hA:val a1*val b2=A at *
   generalize hB:val a2*val b1=B at *
   generalize hD:val b1*val b2=D at *
   have fin:∀ (F:PF) (H:PH) (r:FR),(∃ d x y e,frV r=.tup [.agg (eD d x y),.int .i64 e]∧F 4=some (.ptr o 3 0 0)∧F 5=some (.int .i64 e)∧H o=some (.rows 3 [eD d x y]))→aV YZ.res (bX (frV r)) .ret F H:=by rintro F H r ⟨d,x,y,e,he,f4,f5,hH⟩;rw[he];exact bA (.inr rfl) .nil (vs:=[.agg (eD d x y),.int .i64 e]) (by simp only[go_sem,YZ,f4,f5,hH]) a_ ⟨.refl _,rfl⟩
   have U:(i==p)=decide (i=p):=by cases i<;>cases p<;>rfl
   have low:∀ neg x,nl x≤257→aG C 120 [.bool neg,aI (aH x),aI (aH D)] .nil (aF (frV (gW neg x D))):=by
    intro neg x hx;have V:(aH x).length≤35184372087808:=by rw[bB]; omega
    have W:(aH D).length≤35184372087808:=by rw[bB]; omega
    have:=L.lowest neg (aH x) (aH D) (aX _) (aX _) V W;rw[aW,aW,ui] at this;exact this Om Om d0
   have lA:(aH A).length≤35184372087808:=by rw[bB]; omega
   have lB:(aH B).length≤35184372087808:=by rw[bB]; omega
   simp only[go_sem,X2];by_cases c:i=p
   ·rw[if_pos c];have R:(i==p)=true:=by rw[U,decide_eq_true c]
    simp only[go_sem,R,X3];have q:=L.add (aH A) (aH B) (aX _) (aX _) lA lB;have α:=Pn m1 m2;rw[aW,aW,gR Om Om,opV,AE Om] at q;refine aA q rfl ?_;simp only[go_sem,X4];refine aA (low i _ Om) rfl ?_;obtain⟨d,x,y,e,l⟩:=tP (gW i (A+B) D);rw[l];simp only[go_sem];rw[← l];exact fin _ _ _ ⟨d,x,y,e,l,by simp only[go_sem],by simp only[go_sem],by simp only[go_sem]⟩
   ·rw[if_neg c];have R:(i==p)=false:=by rw[U,decide_eq_false c]
    simp only[go_sem,R,X5];have hc:=L.cmp (aH A) (aH B) (aX _) (aX _) lA lB;rw[aW,aW] at hc;refine aA hc rfl ?_;have u:∀ X Y:Nat,nl X≤256→nl Y≤256→Y≤X→aG C 134 [aI (aH X),aI (aH Y)] .nil (aF (.tup [aI (aH (X-Y)),.int .i64 0])):=by intro X Y V W h;have:=L.sub (aH X) (aH Y) (aX _) (aX _) (by rw[bB]; omega) (by rw[bB]; omega);have Z:=fL (Om:X-Y≤X);rw[aW,aW,rK,gR Om Om,if_neg (by decide),if_neg Om,AE Om] at this;exact this
    by_cases g:B≤A
    ·have S:dM A B≥0:=(UE A B).2 g;rw[if_pos g];simp only[go_sem,S,X6];refine aA (u A B Om Om g) rfl ?_;simp only[go_sem,X7];have Z:=fL (Om:A-B≤A);refine aA (low i (A-B) Om) rfl ?_;obtain⟨d,x,y,e,l⟩:=tP (gW i (A-B) D);rw[l];simp only[go_sem];rw[← l];exact fin _ _ _ ⟨d,x,y,e,l,by simp only[go_sem],by simp only[go_sem],by simp only[go_sem]⟩
    ·have S:¬ dM A B≥0:=fun h=>g ((UE A B).1 h);rw[if_neg g];simp only[go_sem,S,J7];refine aA (u B A Om Om Om) rfl ?_;simp only[go_sem,J8];have Z:=fL (Om:B-A≤B);refine aA (low p (B-A) Om) rfl ?_;obtain⟨d,x,y,e,l⟩:=tP (gW p (B-A) D);rw[l];simp only[go_sem];rw[← l];exact fin _ _ _ ⟨d,x,y,e,l,by simp only[go_sem],by simp only[go_sem],by simp only[go_sem]⟩
structure RF where
 neg:Bool
 num:List Nat
 den:List Nat
abbrev RF.cells (x:RF):List PV:=eD x.neg x.num x.den
def RF.Ok (x:RF):Prop:=Lim x.num∧Lim x.den∧x.num.length≤35184372087808∧x.den.length≤35184372087808
def RF.v (x:RF):FV:=(x.neg,val x.num,val x.den)
abbrev frs (l:List RF):PV:=.sl 3 (l.map RF.cells)
def FV.rf:FV→RF
 | (n,a,b)=>⟨n,aH a,aH b⟩
def FV.Small:FV→Prop
 | (_,a,b)=>nl a≤900000∧nl b≤900000
theorem FV.aVJ (x:FV):x.rf.v=x:=by
 obtain⟨n,a,b⟩:=x;show (n,val (aH a),val (aH b))=_;rw[aW,aW]
def pM (l:List FV):FR:=l.foldlM gU (false,0,1)
theorem sO {neg:Bool} {a b:Nat} {r:FV} (h:gW neg a b=.ok r):r.Small∧r.rf.Ok:=by
 unfold gW at h;split at h
 ·cases h
 ·rename_i e;have c:=(lM (a/a6O a b) 128).1 Om;have d:=(lM (b/a6O a b) 128).1 Om;injection h with h
  subst h;refine⟨⟨by omega,by omega⟩,aX _,aX _,?_,?_⟩
  ·show (aH _).length≤_;rw[bB]; omega
  ·show (aH _).length≤_;rw[bB]; omega
theorem tc {x y r:FV} (h:gU x y=.ok r):r.rf.Ok:=by
 obtain⟨c,a1,b1⟩:=x;obtain⟨d,a2,b2⟩:=y;simp only[gU] at h;split at h
 ·split at h
  ·exact (sO h).2
  ·split at h
   ·exact (sO h).2
   ·exact (sO h).2
 ·cases h
theorem VT {α β:Type} {f:β→α→Except Int β} (l:List α) (b:β) {k:Nat} (h:k<l.length):(l.take (k+1)).foldlM f b=((l.take k).foldlM f b).bind fun x=>f x l[k]:=by
 rw[a8E h,List.foldlM_append];cases (l.take k).foldlM f b with
 | error e=>rfl
 | ok x =>show ([l[k]]:List α).foldlM f x=f x l[k];rw[List.foldlM_cons];cases f x l[k]<;>rfl
theorem iz {α β:Type} {f:β→α→Except Int β} (l:List α) (b:β) {k:Nat} {e:Int} (h:(l.take k).foldlM f b=.error e):l.foldlM f b=.error e:=by
 conv=>lhs; rw[← a9I k l,List.foldlM_append,h]
 rfl
def aJR (l:List RF) (o2 o4:Nat) (k:Nat):PF:=((((((PF.nil.set 2 (.ptr o2 3 0 0)).set 3 (.int .i64 0)).set 4 (.ptr o4 3 0 0)).set 11 (frs l)).set 12 (.int .i64 (l.length:Nat))).set 13 (.int .i64 k))
def cz (o2 o4:Nat) (c:List PV):PH:=(PH.nil.set o2 (.rows 3 [[.bool false,.aB,.aB]])).set o4 (.rows 3 [c])
theorem Ye {C:Ctx} (L:AP C) (O:∀ x y:RF,x.Ok→y.Ok→aG C 113 [.agg x.cells,.agg y.cells] .nil (aF (frV (gU x.v y.v)))) (l:List RF) (hl:∀ x∈l,x.Ok) (X:l.length≤9223372036854775807) :
  PN.wp C (aV tw.res (bX (frV (pM (l.map RF.v))))) (PF.args [frs l]) .nil:=by
 simp only[go_sem,PN,Yf];refine aR fun o2 β=>?_;simp only[go_sem,Yg];refine aA (L.make 1 (by decide)) rfl ?_;simp only[go_sem];refine aR fun o4 Q=>?_;have i:o4≠o2:=by rintro rfl; simp only[aT,if_true] at Q; cases Q
 have c:o2≠o4:=Ne.symm i;simp only[go_sem,Yh];refine wp_loop (α:=Nat × FV × PV) (fun t=>aJR l o2 o4 t.1) (fun t=>cz o2 o4 [.bool t.2.1.1,t.2.2,aI (aH t.2.1.2.2)]) (fun t=>t.1≤l.length∧((l.map RF.v).take t.1).foldlM gU (false,0,1)=.ok t.2.1∧(t.2.2=.aB∧t.2.1.2.1=0∨t.2.2=aI (aH t.2.1.2.1))∧(FV.rf t.2.1).Ok) (fun t=>l.length-t.1)
  (0,(false,0,1),.aB) ⟨a6Q _,rfl,.inl ⟨rfl,rfl⟩,⟨aX _,aX _,?_,?_⟩⟩ ?_ ?_ ?_
 ·show (aH 0).length≤_;rw[fG]; simp
 ·show (aH 1).length≤_;rw[oE (by decide) (by decide)]; simp
 ·unfold aJR
  (repeat' (first|exact c_|refine d_ ?_ ?_))<;>first|(simp only[go_sem,a6K]<;>rfl)|rfl
 ·unfold cz;exact PH.aJ (PH.aJ a_ (by simp only[go_sem,c,i])) (by simp only[go_sem,c,i])
 rintro⟨k,⟨N,R,M⟩,W⟩ ⟨Z,U,K,F⟩;simp only at Z U K F ⊢;have H:CoL [.bool N,W,aI (aH M)] (FV.rf (N,R,M)).cells:=by
  refine .cons (.refl _) (.cons ?_ (.cons (.refl _) .nil));rcases K with ⟨rfl,rfl⟩ | rfl
  ·show Co .aB (aI (aH 0));rw[fG]; exact .nil 1
  ·exact .refl _
 simp only[go_sem,Kl,Yi,aJR];by_cases hlt:k<l.length
 ·have u:(k:Int)<(l.length:Nat):=Om;have hr:(l.map RF.cells)[k]?=some (l[k]).cells:=by simp[hlt]
  simp only[go_sem,u,Yj,hr];refine aR fun o6 B=>?_;have w:o4≠o6:=by rintro rfl; simp only[cz,aT,if_true] at B; cases B
  have q:o2≠o6:=by rintro rfl; simp only[cz,aT,if_true,if_neg c] at B; cases B
  simp only[go_sem,Yk,cz,w,q,i,c];refine aA ((O (FV.rf (N,R,M)) l[k] F (hl _ (a6M hlt))).args (.cons (CoL.agg H) (.cons (.refl _) .nil))) rfl ?_;rw[FV.aVJ];have d:=VT (f:=gU) (l.map RF.v) (false,0,1) (k:=k) (by simpa using hlt);rw[U] at d;simp only[Except.bind,a8P] at d;cases S:gU (N,R,M) (l[k]).v with
  | error e =>
   simp only[go_sem,frV];refine aR fun o7 p=>?_;have V:e≠0:=by
    revert S;obtain⟨n2,a2,b2⟩:=(l[k]).v;simp only[gU,gW]
    repeat' split
    all_goals (intro h; first | (injection h with h; subst h; decide) | cases h)
   have A:o2≠o7:=by rintro rfl; simp only[aT,q,c,if_true,if_false] at p; cases p
   simp only[go_sem,tx,dK V,Yl,A,q,c];rw[S] at d;rw[pM,iz _ _ d];refine gS ?_;simp only[go_sem,tw]
  | ok r =>
   obtain⟨rn,Y,rb⟩:=r;simp only[go_sem,frV];refine aR fun o7 p=>?_;have E:o4≠o7:=by rintro rfl; simp only[aT,w,if_true,if_false] at p; cases p
   have A:o2≠o7:=by rintro rfl; simp only[aT,q,c,if_true,if_false] at p; cases p
   simp only[go_sem,tx,Ym,E,A,w,q,i,c,Ne.symm E,Yn,wZz k];rw[S] at d;refine aD (k+1,(rn,Y,rb),aI (aH Y)) ⟨hlt,d,.inr rfl,tc S⟩ (by simp only; omega) ?_ ?_
   ·exact Lq
   ·refine PH.aJ (PH.aJ a_ ?_) ?_
    ·simp only[go_sem,c,i,E,A,w,q]
    ·simp only[go_sem,c,i,E,A,w,q]
 ·have u:¬ (k:Int)<(l.length:Nat):=Om;have:k=l.length:=Om;subst this;rw[a7F (by simp)] at U;rw[pM,U];have J:bX (frV (.ok (N,R,M))) (bO [.agg [.bool N,W,aI (aH M)],.int .i64 0]) .nil:=⟨CoL.tup (.cons (CoL.agg H) (.cons (.refl _) .nil)),rfl⟩;rcases K with ⟨rfl,rfl⟩ | rfl
  ·simp only[go_sem,u,ZE,cz,i,c];refine bA (.inr rfl) .nil ?_ a_ J;simp only[go_sem,tw,i,c]
  ·simp only[go_sem,u,ZE,cz,i,c];refine bA (.inr rfl) .nil ?_ a_ J;simp only[go_sem,tw,i,c]
def pZ:Rg:=[iT 2 false]
def qA:Rg:=[iM 3 0,iA 4 (.bin .geq (Tm 3) (.const (.int .u8 97))),iM 5 4,gM 6 0 5 true,iG 7 (.bin .leq (Tm 6) (.const (.int .u8 122))) 5 true,iP 8 5 7,iM 9 8,gM 10 0 9 false,iG 11 (.bin .geq (Tm 10) (.const (.int .u8 65))) 9 false,gM 12 11 9 false,gM 13 0 12 true,iG 14 (.bin .leq (Tm 13) (.const (.int .u8 90))) 12 true,iG 15 (.pick (Tm 12) (Tm 14) (.const zB)) 9 false,iQ 16 9 15,iM 2 16]
def kV:aC:=(sq pZ (sq qA .ret))
def akM:List Nat:=[]
def FL:aS:=⟨1,17,kV,[.tmp 2]⟩
def BI:Rg:=[iT 2 false]
def BJ:Rg:=[iM 3 0,iA 4 (.bin .geq (Tm 3) (.const (.int .u8 48))),iM 5 4,gM 6 0 5 true,iG 7 (.bin .leq (Tm 6) (.const (.int .u8 57))) 5 true,iP 8 5 7,iM 2 8]
def qS:aC:=(sq BI (sq BJ .ret))
def asH:List Nat:=[]
def PY:aS:=⟨1,9,qS,[.tmp 2]⟩
def zw:Rg:=[iT 2 false]
def zx:Rg:=[iM 3 0,iK 4 126 3,iM 5 4,gM 6 0 5 false,gK 7 124 6 5 false,iQ 8 5 7,iM 9 8,gM 10 0 9 false,iG 11 (.bin .eql (Tm 10) (.const (.int .u8 45))) 9 false,iQ 12 9 11,iM 13 12,gM 14 0 13 false,iG 15 (.bin .eql (Tm 14) (.const (.int .u8 46))) 13 false,iQ 16 13 15,iM 2 16]
def CP:aC:=(sq zw (sq zx .ret))
def asT:List Nat:=[]
def QA:aS:=⟨1,17,CP,[.tmp 2]⟩
def IK:Rg:=[iT 2 false]
def IL:Rg:=[iM 4 0,iA 5 (.bin .eql (Tm 4) (.const (.str []))),iM 6 5,gM 7 0 6 false,iG 8 (.a5Z (Tm 7)) 6 false,gC 9 .gtr 8 16 6 false,iQ 10 6 9,iM 11 10,gM 12 0 11 false,iG 13 (.a6A (Tm 12) (Ci 0)) 11 false,gK 14 126 13 11 false,iG 15 (.un .not (Tm 14)) 11 false,iQ 16 11 15]
def IM:Rg:=[iT 2 false]
def Ni:Rg:=[iI 3 0]
def Nj:Rg:=[iM 17 3,iM 18 0,iA 19 (.a5Z (Tm 18)),iB 20 .lss 17 19]
def Nk:Rg:=[iM 23 0,iM 24 3,iA 25 (.a6A (Tm 23) (Tm 24)),iK 26 125 25,iA 27 (.un .not (Tm 26))]
def Nl:Rg:=[iT 2 false]
def Nm:Rg:=[iM 21 3,iC 22 .add 21 1,iM 3 22]
def Ng:aC:=(.seq (sq Nj (.cond (Tm 20) .skip (.exit 0))) (.seq (.block 1 (sq Nk (.cond (Tm 27) (sq Nl .ret) .skip))) (.region Nm)))
def Nn:Rg:=[iT 2 true]
def sM:aC:=(sq IK (.seq (sq IL (.cond (Tm 16) (sq IM .ret) .skip)) (.seq (sq Ni (.block 0 (.loop Ng))) (sq Nn .ret))))
def aFS:List Nat:=[]
def jp:aS:=⟨1,28,sM,[.tmp 2]⟩
def jf:Rg:=[iT 6 false]
def jg:Rg:=[iM 7 0,iM 8 1,iB 9 .geq 7 8,iM 10 9,gM 11 0 10 true,gM 12 2 10 true,gB 13 .leq 11 12 10 true,iP 14 10 13,iM 6 14]
def zG:aC:=(sq jf (sq jg .ret))
def aUG:List Nat:=[]
def gin:aS:=⟨3,15,zG,[.tmp 6]⟩
def zb:Rg:=[iA 1 (.box true (Tm 0)),iT 2 false]
def zc:Rg:=[iF 3 1 1,iL 4 3,iK 5 128 4,iC 6 .gtr 5 0,iM 2 6]
def CM:aC:=(sq zb (sq zc .ret))
def arS:List Nat:=[1]
def jd:aS:=⟨1,7,CM,[.tmp 2]⟩
def Y5:Rg:=[iA 1 (.box true (Tm 0)),iT 2 false]
def Y6:Rg:=[iO 6 3 1,iK 7 116 6,iM 5 7,iE 8 5 0,iE 9 5 1,iA 3 (.alloc [zB,.aB,.aB]),iS 3 3 8,iM 4 9]
def UN:Rg:=[iM 10 4,iC 11 .eql 10 0,iM 12 11,gF 13 0 3 12 true,gL 14 13 12 true,iG 15 (.un .not (Tm 14)) 12 true,iP 16 12 15,iM 17 16,gF 18 1 3 17 true,gL 19 18 17 true,gK 20 128 19 17 true,gC 21 .leq 20 32 17 true,iP 22 17 21,iM 23 22,gF 24 2 3 23 true,gL 25 24 23 true,gK 26 128 25 23 true,gC 27 .leq 26 32 23 true,iP 28 23 27,iM 2 28]
def PR:aC:=(sq Y5 (sq Y6 (sq UN .ret)))
def aOM:List Nat:=[1]
def ajS:aS:=⟨1,29,PR,[.tmp 2]⟩
def Zc:Rg:=[iA 1 (.box true (Tm 0)),iT 2 false]
def Zd:Rg:=[iA 8 (.call 115 [(Ci 1),(Ci 1)]),iM 7 8,iE 9 7 0,iE 10 7 1,iA 3 (.alloc [zB,.aB,.aB]),iS 3 3 9,iM 4 10]
def Ze:Rg:=[iO 12 3 1,iO 13 3 3,iK2 14 114 12 13,iM 11 14,iE 15 11 0,iE 16 11 1,iM 5 15,iM 6 16]
def t7:Rg:=[iM 17 6,iC 18 .eql 17 0,iM 19 18,gM 20 5 19 true,gC 21 .leq 20 0 19 true,iP 22 19 21,iM 2 22]
def PT:aC:=(sq Zc (sq Zd (sq Ze (sq t7 .ret))))
def aOO:List Nat:=[1]
def gone:aS:=⟨1,23,PT,[.tmp 2]⟩
def K4:Rg:=[iT 4 false]
def K5:Rg:=[iM 7 0,iN 8 7,iI 9 0]
def K6:Rg:=[iB 10 .lss 9 8]
def K7:Rg:=[iX 11 3 7 9,iO 12 3 11,iA 6 (.alloc [zB,.aB,.aB]),iS 3 6 12]
def K8:Rg:=[iM 13 1,iO 14 3 6,iA 15 (.a6B (Tm 13) [(Tm 14)]),iA 16 (.un .not (Tm 15))]
def K9:Rg:=[iT 4 false]
def La:Rg:=[iC 17 .add 9 1,iM 9 17]
def K0:aC:=(sq K6 (.seq (.cond (Tm 10) .skip (.exit 0)) (.seq (.block 1 (sq K7 (sq K8 (.cond (Tm 16) (sq K9 .ret) .skip)))) (.region La))))
def Lc:Rg:=[iT 4 true]
def HS:aC:=(sq K4 (.seq (sq K5 (.block 0 (.loop K0))) (sq Lc .ret)))
def aEO:List Nat:=[]
def Gr:aS:=⟨2,18,HS,[.tmp 4]⟩
def Lf:Rg:=[iT 4 false]
def Lg:Rg:=[iM 7 0,iN 8 7,iI 9 0]
def Lh:Rg:=[iB 10 .lss 9 8]
def Li:Rg:=[iX 11 1 7 9,iL 12 11,iM 6 12]
def Lj:Rg:=[iM 13 1,iM 14 6,iA 15 (.a6B (Tm 13) [(Tm 14)]),iA 16 (.un .not (Tm 15))]
def Lk:Rg:=[iT 4 false]
def Ll:Rg:=[iC 17 .add 9 1,iM 9 17]
def Ld:aC:=(sq Lh (.seq (.cond (Tm 10) .skip (.exit 0)) (.seq (.block 1 (sq Li (sq Lj (.cond (Tm 16) (sq Lk .ret) .skip)))) (.region Ll))))
def Lm:Rg:=[iT 4 true]
def HT:aC:=(sq Lf (.seq (sq Lg (.block 0 (.loop Ld))) (sq Lm .ret)))
def aEP:List Nat:=[]
def Gs:aS:=⟨2,18,HT,[.tmp 4]⟩
def Ks:Rg:=[iT 4 false]
def Kt:Rg:=[iM 7 0,iN 8 7,iI 9 0]
def Ku:Rg:=[iB 10 .lss 9 8]
def Kv:Rg:=[iX 11 1 7 9,iL 12 11,iM 6 12]
def Kw:Rg:=[iM 13 1,iM 14 6,iA 15 (.a6B (Tm 13) [(Tm 14)]),iA 16 (.un .not (Tm 15))]
def Kx:Rg:=[iT 4 false]
def Ky:Rg:=[iC 17 .add 9 1,iM 9 17]
def Kq:aC:=(sq Ku (.seq (.cond (Tm 10) .skip (.exit 0)) (.seq (.block 1 (sq Kv (sq Kw (.cond (Tm 16) (sq Kx .ret) .skip)))) (.region Ky))))
def Kz:Rg:=[iT 4 true]
def HR:aC:=(sq Ks (.seq (sq Kt (.block 0 (.loop Kq))) (sq Kz .ret)))
def aEN:List Nat:=[]
def Gq:aS:=⟨2,18,HR,[.tmp 4]⟩
def ze:Rg:=[iT 2 false]
def zf:Rg:=[iM 3 0,iM 2 3]
def CN:aC:=(sq ze (sq zf .ret))
def arT:List Nat:=[]
def je:aS:=⟨1,4,CN,[.tmp 2]⟩
def Lu:Rg:=[iA 1 (.box true (Tm 0)),iT 2 false]
def Lw:Rg:=[iF 8 3 1,iL 9 8,iN 10 9,iA 11 (.a5H 1 1 [zB] (Tm 10) (Tm 10)),iM 3 11]
def Lx:Rg:=[iI 4 0]
def Ly:Rg:=[iM 12 4,iM 13 3,iN 14 13,iB 15 .leq 12 14]
def Lz:Rg:=[iM 18 3,iN 19 18,iI 20 0]
def ZF:Rg:=[iB 21 .lss 20 19]
def L0:Rg:=[iM 22 20,iM 5 22]
def ZG:Rg:=[iM 23 3,iM 24 5,iM 25 3,iM 26 5,iX 27 1 25 26,iL 28 27,iM 29 28,gF 30 3 1 29 false,gL 31 30 29 false,gM 32 5 29 false,iG 33 (.a5Q 3 (Tm 31) (Tm 32)) 29 false,gO 34 3 33 29 false,gK 35 97 34 29 false,iQ 36 29 35,iX 37 1 23 24,iS 1 37 36]
def ZH:Rg:=[iF 38 2 1,iL 39 38,iM 40 5,iX 41 1 39 40,iL 42 41,iN 43 42,iI 44 0]
def L3:Rg:=[iB 45 .lss 44 43]
def zh:Rg:=[iM 46 44,iX 47 3 42 44,iO 48 3 47,iA 7 (.alloc [zB,.aB,.aB]),iM 6 46,iS 3 7 48]
def PO:Rg:=[iM 49 3,iM 50 5,iM 51 3,iM 52 5,iX 53 1 51 52,iL 54 53,iM 55 54,gO 56 3 7 55 false,gK 57 97 56 55 false,gM 58 57 55 false,gM 59 3 58 true,gM 60 6 58 true,iG 61 (.a5Q 1 (Tm 59) (Tm 60)) 58 true,gL 62 61 58 true,iG 63 (.pick (Tm 58) (Tm 62) (.const zB)) 55 false,iQ 64 55 63,iX 65 1 49 50,iS 1 65 64]
def BH:Rg:=[iC 66 .add 44 1,iM 44 66]
def BF:aC:=(sq L3 (.seq (.cond (Tm 45) .skip (.exit 4)) (.seq (.block 5 (sq zh (.region PO))) (.region BH))))
def PP:Rg:=[iC 67 .add 20 1,iM 20 67]
def BG:aC:=(sq ZF (.seq (.cond (Tm 21) .skip (.exit 2)) (.seq (.block 3 (sq L0 (sq ZG (sq ZH (.block 4 (.loop BF)))))) (.region PP))))
def zi:Rg:=[iM 16 4,iC 17 .add 16 1,iM 4 17]
def zg:aC:=(.seq (sq Ly (.cond (Tm 15) .skip (.exit 0))) (.seq (.block 1 (sq Lz (.block 2 (.loop BG)))) (.region zi)))
def zj:Rg:=[iM 68 3,iA 69 (.call 98 [(Tm 68),(.const (.fn 103 []))]),iM 2 69]
def HU:aC:=(sq Lu (sq Lw (.seq (sq Lx (.block 0 (.loop zg))) (sq zj .ret))))
def aER:List Nat:=[1]
def Gt:aS:=⟨1,70,HU,[.tmp 2]⟩
def Yw:Rg:=[iA 1 (.box true (Tm 0)),iT 2 false]
def Yx:Rg:=[iF 12 1 1,iL 13 12,iN 14 13,iM 3 14]
def Yy:Rg:=[iM 15 3,iA 16 (.call 104 [(Tm 15),(Ci 1),(Ci 4)]),iA 17 (.un .not (Tm 16)),iM 18 17,gF 19 3 1 18 false,gL 20 19 18 false,gN 21 20 18 false,gM 22 3 18 false,gB 23 .neq 21 22 18 false,iQ 24 18 23,iM 25 24,gF 26 2 1 25 false,gL 27 26 25 false,gN 28 27 25 false,gM 29 3 25 false,gB 30 .neq 28 29 25 false,iQ 31 25 30,iM 32 31,gF 33 1 1 32 false,gL 34 33 32 false,iG 35 (.call 99 [(Tm 34),(.const (.fn 105 []))]) 32 false,iG 36 (.un .not (Tm 35)) 32 false,iQ 37 32 36,iM 38 37,gF 39 3 1 38 false,gL 40 39 38 false,iG 41 (.call 99 [(Tm 40),(.const (.fn 105 []))]) 38 false,iG 42 (.un .not (Tm 41)) 38 false,iQ 43 38 42]
def yB:Rg:=[iT 2 false]
def Yz:Rg:=[iF 44 2 1,iL 45 44,iN 46 45,iI 47 0]
def Y0:Rg:=[iB 48 .lss 47 46]
def Y1:Rg:=[iM 49 47,iX 50 1 45 47,iL 51 50,iM 4 49,iM 5 51]
def Y2:Rg:=[iM 52 5,iN 53 52,iM 54 3,iB 55 .neq 53 54,iM 56 55,gM 57 5 56 false,iG 58 (.call 99 [(Tm 57),(.const (.fn 105 []))]) 56 false,iG 59 (.un .not (Tm 58)) 56 false,iQ 60 56 59,iM 61 60,gM 62 5 61 false,gM 63 4 61 false,iG 64 (.a5Q 3 (Tm 62) (Tm 63)) 61 false,gO 65 3 64 61 false,gK 66 97 65 61 false,iQ 67 61 66]
def UM:Rg:=[iT 2 false]
def Y3:Rg:=[iC 68 .add 47 1,iM 47 68]
def L4:aC:=(sq Y0 (.seq (.cond (Tm 48) .skip (.exit 0)) (.seq (.block 1 (sq Y1 (sq Y2 (.cond (Tm 67) (sq UM .ret) .skip)))) (.region Y3))))
def ZI:Rg:=[iF 70 1 1,iL 71 70,iK 72 117 71,iM 69 72,iE 73 69 0,iE 74 69 1,iA 6 (.alloc [zB,.aB,.aB]),iS 3 6 73,iM 7 74]
def HV:Rg:=[iA 76 (.call 115 [(Ci 1),(Ci 1)]),iM 75 76,iE 77 75 0,iE 78 75 1,iA 8 (.alloc [zB,.aB,.aB]),iS 3 8 77,iM 9 78]
def HW:Rg:=[iO 80 3 6,iO 81 3 8,iK2 82 114 80 81,iM 79 82,iE 83 79 0,iE 84 79 1,iM 10 83,iM 11 84]
def tV:Rg:=[iM 85 7,iC 86 .eql 85 0,iM 87 86,gM 88 10 87 true,gC 89 .eql 88 0 87 true,iP 90 87 89,iM 91 90,gO 92 4 1 91 true,gK 93 102 92 91 true,iP 94 91 93,iM 2 94]
def PQ:aC:=(sq Yw (sq Yx (.seq (sq Yy (.cond (Tm 43) (sq yB .ret) .skip)) (.seq (sq Yz (.block 0 (.loop L4))) (sq ZI (sq HV (sq HW (sq tV .ret))))))))
def aOL:List Nat:=[1]
def ajR:aS:=⟨1,95,PQ,[.tmp 2]⟩
def Mg:Rg:=[iT 2 false]
def Mh:Rg:=[iA 6 (.a6F (false,[.str])),iM 3 6]
def Mi:Rg:=[iM 7 0,iN 8 7,iI 9 0]
def Mj:Rg:=[iB 10 .lss 9 8]
def Mk:Rg:=[iX 11 1 7 9,iL 12 11,iM 5 12]
def Ml:Rg:=[iM 13 5,iK 14 123 13,iA 15 (.un .not (Tm 14)),iM 16 15,gM 17 3 16 false,gM 18 5 16 false,iG 19 (.lookup (false,[.str]) zB (Tm 17) (Tm 18) false) 16 false,iQ 20 16 19]
def ZN:Rg:=[iT 2 false]
def Mm:Rg:=[iM 21 3,iM 22 5,⟨none,.a5R (false,[.str]) (Tm 21) (Tm 22) (.const (.bool true)),none⟩]
def Mn:Rg:=[iC 23 .add 9 1,iM 9 23]
def Me:aC:=(sq Mj (.seq (.cond (Tm 10) .skip (.exit 0)) (.seq (.block 1 (sq Mk (.seq (sq Ml (.cond (Tm 20) (sq ZN .ret) .skip)) (.region Mm)))) (.region Mn))))
def zn:Rg:=[iT 2 true]
def HZ:aC:=(sq Mg (sq Mh (.seq (sq Mi (.block 0 (.loop Me))) (sq zn .ret))))
def aEV:List Nat:=[]
def Gw:aS:=⟨1,24,HZ,[.tmp 2]⟩
def tz:Rg:=[iA 1 (.box true (Tm 0)),iT 2 false]
def t6:Rg:=[iF 6 3 1,iL 7 6,iN 8 7,iC 9 .eql 8 0]
def Yp:Rg:=[iT 2 false]
def Yq:Rg:=[iF 10 3 1,iL 11 10,iA 12 (.a5Q 7 (Tm 11) (Ci 0)),iO 13 7 12,iA 3 (.alloc [(.str []),zI,zI,zI,zB,.aB,.aB]),iS 7 3 13]
def yA:Rg:=[iF 14 0 3,iL 15 14,iA 16 (.bin .neq (Tm 15) (.const (.str []))),iM 17 16,gF 18 1 3 17 false,gL 19 18 17 false,gC 20 .neq 19 0 17 false,iQ 21 17 20,iM 22 21,gF 23 2 3 22 false,gL 24 23 22 false,gC 25 .neq 24 (-1) 22 false,iQ 26 22 25,iM 27 26,gF 28 3 3 27 false,gL 29 28 27 false,gC 30 .neq 29 0 27 false,iQ 31 27 30,iM 32 31,gF 33 4 3 32 false,gO 34 3 33 32 false,gK 35 105 34 32 false,iG 36 (.un .not (Tm 35)) 32 false,iQ 37 32 36,iM 38 37,gF 39 4 3 38 false,gO 40 3 39 38 false,gK 41 97 40 38 false,iQ 42 38 41]
def tU:Rg:=[iT 2 false]
def Yr:Rg:=[iF 43 3 1,iL 44 43,iA 45 (.slice 7 (Tm 44) (some (Ci 1)) none none),iN 46 45,iI 47 0]
def Ys:Rg:=[iB 48 .lss 47 46]
def Yt:Rg:=[iM 49 47,iX 50 7 45 47,iO 51 7 50,iA 5 (.alloc [(.str []),zI,zI,zI,zB,.aB,.aB]),iM 4 49,iS 7 5 51]
def Yu:Rd:=[(iF 52 2 5,false),(iL 53 52,false),(iM 54 4,false),(iA 55 (.call 104 [(Tm 53),(Ci 0),(Tm 54)]),true),(iA 56 (.un .not (Tm 55)),false),(iM 57 56,false),(gF 58 3 1 57 false,false),(gL 59 58 57 false,false),(gF 60 2 5 57 false,false),(gL 61 60 57 false,false),(iG 62 (.a5Q 7 (Tm 59) (Tm 61)) 57 false,false),(gF 63 1 62 57 false,false),(gL 64 63 57 false,false),(gF 65 1 5 57 false,false),(gL 66 65 57 false,false),(gC 67 .sub 66 1 57 false,false),(gB 68 .neq 64 67 57 false,false),(iQ 69 57 68,false),(iM 70 69,false),(gF 71 1 5 70 false,false),(gL 72 71 70 false,false),(iG 73 (.call 104 [(Tm 72),(Ci 1),(Ci 4)]) 70 false,true),(iG 74 (.un .not (Tm 73)) 70 false,false),(iQ 75 70 74,false),(iM 76 75,false),(gF 77 3 5 76 false,false),(gL 78 77 76 false,false),(iG 79 (.call 104 [(Tm 78),(Ci 1),(Ci 64)]) 76 false,true),(iG 80 (.un .not (Tm 79)) 76 false,false),(iQ 81 76 80,false),(iM 82 81,false),(gF 83 4 5 82 false,false),(gO 84 3 83 82 false,false),(gK 85 105 84 82 false,true),(iG 86 (.un .not (Tm 85)) 82 false,false),(iQ 87 82 86,false)]
def tT:Rg:=[iT 2 false]
def Lp:Rg:=[iC 88 .add 47 1,iM 47 88]
def Lo:aC:=(sq Ys (.seq (.cond (Tm 48) .skip (.exit 0)) (.seq (.block 1 (sq Yt (dq Yu (.cond (Tm 87) (sq tT .ret) .skip)))) (.region Lp))))
def Lr:Rg:=[iT 2 true]
def BE:aC:=(sq tz (.seq (sq t6 (.cond (Tm 9) (sq Yp .ret) .skip)) (sq Yq (.seq (sq yA (.cond (Tm 42) (sq tU .ret) .skip)) (.seq (sq Yr (.block 0 (.loop Lo))) (sq Lr .ret))))))
def aOK:List Nat:=[1]
def Ln:aS:=⟨1,89,BE,[.tmp 2]⟩
def L6:Rg:=[iT 2 false]
def L7:Rg:=[iM 3 0,iA 4 (.call 104 [(Tm 3),(Ci 0),(Ci 8)]),iM 2 4]
def HX:aC:=(sq L6 (sq L7 .ret))
def aES:List Nat:=[]
def Gu:aS:=⟨1,5,HX,[.tmp 2]⟩
def Y8:Rg:=[iA 7 (.box true (Tm 3)),iT 8 false]
def Y9:Rg:=[iM 9 0,iA 10 (.call 104 [(Tm 9),(Ci 1),(Ci 6)]),iA 11 (.un .not (Tm 10)),iM 12 11,gM 13 1 12 false,iG 14 (.call 104 [(Tm 13),(Ci 0),(Ci 4)]) 12 false,iG 15 (.un .not (Tm 14)) 12 false,iQ 16 12 15,iM 17 16,gM 18 0 17 false,gM 19 1 17 false,gB 20 .add 18 19 17 false,gC 21 .gtr 20 8 17 false,iQ 22 17 21,iM 23 22,gM 24 2 23 false,gM 25 0 23 false,gM 26 0 23 false,gM 27 1 23 false,gB 28 .add 26 27 23 false,iG 29 (.call 104 [(Tm 24),(Tm 25),(Tm 28)]) 23 false,iG 30 (.un .not (Tm 29)) 23 false,iQ 31 23 30,iM 32 31,iG 33 (.idxA 5 1 (Tm 7) (Ci 0)) 32 false,gL 34 33 32 false,gC 35 .neq 34 0 32 false,iQ 36 32 35]
def yC:Rg:=[iT 8 false]
def Za:Rg:=[iA 37 (.sliceA 5 1 (Tm 7) none none none),iA 38 (.call 100 [(Tm 37),(.const (.fn 107 []))]),iM 8 38]
def PS:aC:=(sq Y8 (.seq (sq Y9 (.cond (Tm 36) (sq yC .ret) .skip)) (sq Za .ret)))
def aON:List Nat:=[7]
def ajT:aS:=⟨4,39,PS,[.tmp 8]⟩
def zl:Rg:=[iA 1 (.box true (Tm 0)),iT 2 false]
def zm:Rg:=[iO 3 3 1,iK 4 105 3,iM 5 4,gO 6 3 1 5 true,gK 7 97 6 5 true,iP 8 5 7,iM 2 8]
def CO:aC:=(sq zl (sq zm .ret))
def arW:List Nat:=[1]
def jh:aS:=⟨1,9,CO,[.tmp 2]⟩
def Mc:Rg:=[iA 6 (.box true (Tm 2)),iA 7 (.box true (Tm 3)),iT 8 false]
def Md:Rg:=[iM 9 1,iN 10 9,iM 11 0,iA 12 (.a5U true (Tm 11) (Ci 1)),iB 13 .eql 10 12,iM 14 13,gM 15 1 14 true,iG 16 (.call 99 [(Tm 15),(.const (.fn 109 []))]) 14 true,iP 17 14 16,iM 18 17,gO 19 3 6 18 true,gK 20 105 19 18 true,iP 21 18 20,iM 22 21,gO 23 3 6 22 true,gK 24 101 23 22 true,iP 25 22 24,iM 26 25,gO 27 3 7 26 true,gK 28 105 27 26 true,iP 29 26 28,iM 8 29]
def HY:aC:=(sq Mc (sq Md .ret))
def aET:List Nat:=[6,7]
def Gv:aS:=⟨4,30,HY,[.tmp 8]⟩
def Zg:Rg:=[iA 2 (.box true (Tm 0)),iT 4 false]
def Zh:Rg:=[iF 8 1 2,iL 9 8,iF 10 2 2,iL 11 10,iF 12 3 2,iL 13 12,iF 14 4 2,iO 15 5 14,iA 16 (.call 106 [(Tm 9),(Tm 11),(Tm 13),(Tm 15)]),iA 17 (.un .not (Tm 16)),iM 18 17,gF 19 9 2 18 false,gL 20 19 18 false,gN 21 20 18 false,gC 22 .eql 21 0 18 false,iQ 23 18 22,iM 24 23,gF 25 2 2 24 false,gL 26 25 24 false,gF 27 10 2 24 false,gL 28 27 24 false,gF 29 11 2 24 false,gO 30 3 29 24 false,gF 31 14 2 24 false,gO 32 3 31 24 false,iG 33 (.call 108 [(Tm 26),(Tm 28),(Tm 30),(Tm 32)]) 24 false,iG 34 (.un .not (Tm 33)) 24 false,iQ 35 24 34]
def UO:Rg:=[iT 4 false]
def Zi:Rg:=[iM 36 1,iA 37 (.a5H 1 1 [zB] (Tm 36) (Tm 36)),iM 5 37]
def Zj:Rg:=[iF 38 9 2,iL 39 38,iN 40 39,iI 41 0]
def Zk:Rg:=[iB 42 .lss 41 40]
def Zl:Rg:=[iX 43 1 39 41,iL 44 43,iM 7 44]
def Zm:Rg:=[iM 45 7,iM 46 1,iC 47 .sub 46 1,iA 48 (.call 104 [(Tm 45),(Ci 0),(Tm 47)]),iA 49 (.un .not (Tm 48)),iM 50 49,gM 51 5 50 false,gM 52 7 50 false,iG 53 (.a5Q 1 (Tm 51) (Tm 52)) 50 false,gL 54 53 50 false,iQ 55 50 54]
def t8:Rg:=[iT 4 false]
def Zn:Rg:=[iM 56 5,iM 57 7,iX 58 1 56 57,⟨none,.store 1 (Tm 58) (.const (.bool true)),none⟩]
def L9:Rg:=[iC 59 .add 41 1,iM 41 59]
def L8:aC:=(sq Zk (.seq (.cond (Tm 42) .skip (.exit 0)) (.seq (.block 1 (sq Zl (.seq (sq Zm (.cond (Tm 55) (sq t8 .ret) .skip)) (.region Zn)))) (.region L9))))
def Ma:Rg:=[iT 4 true]
def PU:aC:=(sq Zg (.seq (sq Zh (.cond (Tm 35) (sq UO .ret) .skip)) (sq Zi (.seq (sq Zj (.block 0 (.loop L8))) (sq Ma .ret)))))
def aOP:List Nat:=[2]
def ajU:aS:=⟨2,60,PU,[.tmp 4]⟩
def Zp:Rg:=[iA 1 (.box true (Tm 0)),iI 2 0]
def Zq:Rg:=[iF 21 0 1,iL 22 21,iA 23 (.call 104 [(Tm 22),(Ci 1),(Ci 4)]),iA 24 (.un .not (Tm 23)),iM 25 24,gF 26 1 1 25 false,gL 27 26 25 false,gN 28 27 25 false,gC 29 .gtr 28 4 25 false,iQ 30 25 29,iM 31 30,gF 32 2 1 31 false,gL 33 32 31 false,gN 34 33 31 false,gC 35 .gtr 34 4 31 false,iQ 36 31 35,iM 37 36,gF 38 3 1 37 false,gL 39 38 37 false,gN 40 39 37 false,gC 41 .gtr 40 40 37 false,iQ 42 37 41,iM 43 42,gF 44 4 1 43 false,gL 45 44 43 false,gN 46 45 43 false,gC 47 .gtr 46 24 43 false,iQ 48 43 47,iM 49 48,gF 50 5 1 49 false,gL 51 50 49 false,gN 52 51 49 false,gC 53 .gtr 52 4 49 false,iQ 54 49 53,iM 55 54,gF 56 6 1 55 false,gL 57 56 55 false,gN 58 57 55 false,gC 59 .gtr 58 12 55 false,iQ 60 55 59,iM 61 60,gO 62 7 1 61 false,gK 63 111 62 61 false,iG 64 (.un .not (Tm 63)) 61 false,iQ 65 61 64]
def pX:Rg:=[iI 2 1]
def Zr:Rg:=[iZ 3,iZ 4,iZ 5,iZ 6,iZ 7]
def Zs:Rg:=[iT 8 true]
def uc:Rg:=[iF 66 1 1,iL 67 66,iN 68 67,iI 69 0]
def Zt:Rg:=[iB 70 .lss 69 68]
def Zu:Rg:=[iX 71 4 67 69,iO 72 4 71,iA 10 (.alloc [(.str []),.aB,.aB,.aB]),iS 4 10 72]
def Zv:Rg:=[iM 73 3,iF 74 0 10,iL 75 74,iA 76 (.a5F true 1 1 [(.str [])] [(0,(Tm 75))]),iA 77 (.append 1 16 (Tm 73) (Tm 76)),iM 3 77]
def ud:Rg:=[iM 78 8,iM 79 78,gO 80 4 10 79 true,gK 81 95 80 79 true,iP 82 79 81,iM 8 82]
def ZO:Rg:=[iC 83 .add 69 1,iM 69 83]
def IA:aC:=(sq Zt (.seq (.cond (Tm 70) .skip (.exit 0)) (.seq (.block 1 (sq Zu (sq Zv (.region ud)))) (.region ZO))))
def ZP:Rg:=[iF 84 2 1,iL 85 84,iN 86 85,iI 87 0]
def Mo:Rg:=[iB 88 .lss 87 86]
def Mp:Rg:=[iX 89 4 85 87,iO 90 4 89,iA 12 (.alloc [(.str []),zI,zI,zI]),iS 4 12 90]
def Mq:Rg:=[iM 91 4,iF 92 0 12,iL 93 92,iA 94 (.a5F true 1 1 [(.str [])] [(0,(Tm 93))]),iA 95 (.append 1 16 (Tm 91) (Tm 94)),iM 4 95]
def ZQ:Rg:=[iM 96 8,iM 97 96,gF 98 1 12 97 true,gL 99 98 97 true,iG 100 (.call 104 [(Tm 99),(Ci 1),(Ci 16)]) 97 true,iP 101 97 100,iM 102 101,gF 103 2 12 102 true,gL 104 103 102 true,iG 105 (.call 104 [(Tm 104),(Ci 1),(Ci 64)]) 102 true,iP 106 102 105,iM 107 106,gF 108 3 12 107 true,gL 109 108 107 true,gF 110 1 1 107 true,gL 111 110 107 true,gN 112 111 107 true,gC 113 .sub 112 1 107 true,iG 114 (.call 104 [(Tm 109),(Ci 0),(Tm 113)]) 107 true,iP 115 107 114,iM 8 115]
def zK:Rg:=[iC 116 .add 87 1,iM 87 116]
def IB:aC:=(sq Mo (.seq (.cond (Tm 88) .skip (.exit 2)) (.seq (.block 3 (sq Mp (sq Mq (.region ZQ)))) (.region zK))))
def ZR:Rg:=[iF 117 3 1,iL 118 117,iA 119 (.slice 7 (Tm 118) (some (Ci 1)) none none),iN 120 119,iI 121 0]
def Mr:Rg:=[iB 122 .lss 121 120]
def Ms:Rg:=[iX 123 7 119 121,iO 124 7 123,iA 14 (.alloc [(.str []),zI,zI,zI,zB,.aB,.aB]),iS 7 14 124]
def Mt:Rg:=[iM 125 5,iF 126 0 14,iL 127 126,iA 128 (.a5F true 1 1 [(.str [])] [(0,(Tm 127))]),iA 129 (.append 1 16 (Tm 125) (Tm 128)),iM 5 129]
def Mu:Rg:=[iC 130 .add 121 1,iM 121 130]
def IC:aC:=(sq Mr (.seq (.cond (Tm 122) .skip (.exit 4)) (.seq (.block 5 (sq Ms (.region Mt))) (.region Mu))))
def ZS:Rg:=[iF 131 4 1,iL 132 131,iN 133 132,iI 134 0]
def Mv:Rg:=[iB 135 .lss 134 133]
def Mw:Rg:=[iX 136 3 132 134,iO 137 3 136,iA 16 (.alloc [(.str []),zI,zI]),iS 3 16 137]
def Mx:Rg:=[iM 138 5,iF 139 0 16,iL 140 139,iA 141 (.a5F true 1 1 [(.str [])] [(0,(Tm 140))]),iA 142 (.append 1 16 (Tm 138) (Tm 141)),iM 5 142]
def ZT:Rg:=[iM 143 8,iM 144 143,gF 145 1 16 144 true,gL 146 145 144 true,gF 147 2 1 144 true,gL 148 147 144 true,gN 149 148 144 true,gC 150 .sub 149 1 144 true,iG 151 (.call 104 [(Tm 146),(Ci 0),(Tm 150)]) 144 true,iP 152 144 151,iM 153 152,gF 154 2 16 153 true,gL 155 154 153 true,gF 156 3 1 153 true,gL 157 156 153 true,gN 158 157 153 true,gC 159 .sub 158 1 153 true,iG 160 (.call 104 [(Tm 155),(Ci 0),(Tm 159)]) 153 true,iP 161 153 160,iM 162 161,gF 163 3 1 162 true,gL 164 163 162 true,gF 165 2 16 162 true,gL 166 165 162 true,iG 167 (.a5Q 7 (Tm 164) (Tm 166)) 162 true,gF 168 1 167 162 true,gL 169 168 162 true,gC 170 .eql 169 4 162 true,iP 171 162 170,iM 8 171]
def tW:Rg:=[iC 172 .add 134 1,iM 134 172]
def ID:aC:=(sq Mv (.seq (.cond (Tm 135) .skip (.exit 6)) (.seq (.block 7 (sq Mw (sq Mx (.region ZT)))) (.region tW))))
def ZU:Rg:=[iF 173 5 1,iL 174 173,iN 175 174,iI 176 0]
def My:Rg:=[iB 177 .lss 176 175]
def Mz:Rg:=[iX 178 17 174 176,iO 179 17 178,iA 18 (.alloc [(.str []),zI,zI,zI,zI,zI,zI,zI,zI,.aB,.aB,zB,.aB,.aB,zB,.aB,.aB]),iS 17 18 179]
def M0:Rg:=[iM 180 6,iF 181 0 18,iL 182 181,iA 183 (.a5F true 1 1 [(.str [])] [(0,(Tm 182))]),iA 184 (.append 1 16 (Tm 180) (Tm 183)),iM 6 184]
def ZV:Rg:=[iM 185 8,iM 186 185,gO 187 17 18 186 true,gF 188 2 1 186 true,gL 189 188 186 true,gN 190 189 186 true,gK2 191 112 187 190 186 true,iP 192 186 191,iM 8 192]
def ZW:Rg:=[iC 193 .add 176 1,iM 176 193]
def IE:aC:=(sq My (.seq (.cond (Tm 177) .skip (.exit 8)) (.seq (.block 9 (sq Mz (sq M0 (.region ZV)))) (.region ZW))))
def ZX:Rg:=[iF 194 6 1,iL 195 194,iN 196 195,iI 197 0]
def M1:Rg:=[iB 198 .lss 197 196]
def M2:Rg:=[iX 199 2 195 197,iO 200 2 199,iA 20 (.alloc [(.str []),zI]),iS 2 20 200]
def M3:Rg:=[iM 201 7,iF 202 0 20,iL 203 202,iA 204 (.a5F true 1 1 [(.str [])] [(0,(Tm 203))]),iA 205 (.append 1 16 (Tm 201) (Tm 204)),iM 7 205]
def ZY:Rg:=[iM 206 8,iM 207 206,gF 208 1 20 207 true,gL 209 208 207 true,gF 210 5 1 207 true,gL 211 210 207 true,gN 212 211 207 true,gC 213 .sub 212 1 207 true,iG 214 (.call 104 [(Tm 209),(Ci 0),(Tm 213)]) 207 true,iP 215 207 214,iM 8 215]
def ZZ:Rg:=[iC 216 .add 197 1,iM 197 216]
def IF:aC:=(sq M1 (.seq (.cond (Tm 198) .skip (.exit 10)) (.seq (.block 11 (sq M2 (sq M3 (.region ZY)))) (.region ZZ))))
def zL:Rg:=[iM 217 8,iA 218 (.un .not (Tm 217)),iM 219 218,gM 220 3 219 false,gK 221 110 220 219 false,iG 222 (.un .not (Tm 221)) 219 false,iQ 223 219 222,iM 224 223,gM 225 4 224 false,gK 226 110 225 224 false,iG 227 (.un .not (Tm 226)) 224 false,iQ 228 224 227,iM 229 228,gM 230 5 229 false,gK 231 110 230 229 false,iG 232 (.un .not (Tm 231)) 229 false,iQ 233 229 232,iM 234 233,gM 235 6 234 false,gK 236 110 235 234 false,iG 237 (.un .not (Tm 236)) 234 false,iQ 238 234 237,iM 239 238,gM 240 7 239 false,gK 241 110 240 239 false,iG 242 (.un .not (Tm 241)) 239 false,iQ 243 239 242]
def nG:Rg:=[iI 2 1]
def IG:Rg:=[iI 2 0]
def PW:aC:=(sq Zp (.seq (sq Zq (.cond (Tm 65) (sq pX .ret) .skip)) (sq Zr (sq Zs (.seq (sq uc (.block 0 (.loop IA))) (.seq (sq ZP (.block 2 (.loop IB))) (.seq (sq ZR (.block 4 (.loop IC))) (.seq (sq ZS (.block 6 (.loop ID))) (.seq (sq ZU (.block 8 (.loop IE))) (.seq (sq ZX (.block 10 (.loop IF))) (.seq (sq zL (.cond (Tm 243) (sq nG .ret) .skip)) (sq IG .ret))))))))))))
def aOQ:List Nat:=[1,76,94,128,141,183,204]
def ajX:aS:=⟨1,244,PW,[.tmp 2]⟩
@[go_sem] theorem aYG (a b:List UInt8):NZ .eql a b=some (.bool (a==b)):=(rfl)
@[go_sem] theorem aYH (a b:List UInt8):NZ .neq a b=some (.bool !(a==b)):=(rfl)
@[go_sem] theorem aiF (a b:List UInt8):NZ .add a b=if ((a.length+b.length:Nat):Int)>9223372036854775807 then none else some (.str (a++b)):=(rfl)
@[go_sem] theorem aTO:(([]:List UInt8)==[])=true:=(rfl)
@[go_sem] theorem aNK (c:UInt8) (t:List UInt8):((c::t)==[])=false:=(rfl)
theorem pQ {a b:List UInt8} (h:a=b):(a==b)=true:=by simp[h]
theorem fi {a b:List UInt8} (h:a≠b):(a==b)=false:=by simp[h]
section
variable {C:Ctx} {F:PF} {H:PH}
theorem qT {name o s:Nat} {rs:List (List PV)} {vs:List PV} {v:PV} {args:List aP} {d:Option Nat} {K:PF→PH→Prop} (h:aG C name vs .nil (aF v)) (i:H o=some (.rows s rs))
  (e:aP.evs (F.frz o s rs) args=some vs) (c:K ((F.frz o s rs).put d v) (H.frz o s rs)):hZ C name args [] d K F H:=by
 refine .inr ⟨_,_,.step o i (.refl _ _),vs,.nil,aF v,?_,a_,h,?_⟩
 ·rw[e]; simp
 ·rintro r H' ⟨rfl,rfl⟩ -;rw[PH.zT];exact c
theorem iU.trans {c d e:PF} {i H2 l:PH} (h:iU c i d H2) (k:iU d H2 e l):iU c i e l:=by
 induction h with
 | refl=>exact k
 | step o p h q=>exact .step o p (q k)
theorem qK {c:aC} {K:bQ} {s:Nat} {v:PV} {rows:List (List PV)} (J:bP H s v rows)
  (h:∀ e,Seen s e rows→∀ d l,(∀ t,F t=some v→d t=some e)→(∀ i u,F i=some u→Pure u→d i=some u)→aC.wp C (.loop c) K d l):aC.wp C (.loop c) K F H:=by
 obtain⟨e,M,E⟩:=J.frz;obtain⟨d,l,N,A,B⟩:=E F;obtain⟨α,w,Hs,x,m,y,q,H2,p,rest⟩:=h e M d l A B;exact⟨α,w,Hs,x,m,y,q,H2,N.trans p,rest⟩
theorem aG.amR {name s:Nat} {v:PV} {rows:List (List PV)} {d:PH} {R:PV→PH→Prop} (h:aG C name [.sl s rows] d R) (i:Seen s v rows):aG C name [v] d R:=by
 rcases i with ⟨rfl,rfl⟩ | rfl
 ·refine h.args ⟨rfl,fun j p q c e=>?_⟩;cases j with
  | zero=>simp at c e; subst c; subst e; exact .nil s
  | succ j=>simp at c
 ·exact h
theorem bP.fresh {s:Nat} {v:PV} {rows:List (List PV)} {o:Nat} (h:bP H s v rows) (i:H o=none) (x:cC):bP (H.set o x) s v rows∧∀ l,v≠.osl o s 0 l:=by
 refine⟨h.ext fun q y d=>?_,fun l e=>?_⟩
 ·have:q≠o:=by rintro rfl; rw[i] at d; cases d
  simp only[aT,if_neg this,d]
 ·rcases h with ⟨_,c⟩ | ⟨q,rs,h1,c,_⟩
  ·rw[c] at e; cases e
  ·rw[h1] at e;injection e with p
   subst p;rw[i] at c; cases c
theorem mT {s b:Nat} {v:PV} {rows:List (List PV)} {r:List PV} {o:Nat} {x:cC} {K:PV→PH→Prop} (h:bP H s v rows) (l:H o=none) (q:roomFor rows.length 1 b)
  (i:∀ v' H',bP H' s v' (rows++[r])→H' o=some x→K v' H'):mJ (H.set o x) s b v (.sl s [r]) K:=by
 obtain⟨c,d⟩:=h.fresh l x;refine eZ (src:=[r]) c (by simp[dT]) q fun v' H' e p=>i v' H' e (p o x (by simp only[aT,if_true]) d)
theorem tR {o s k:Nat} {rs:List (List PV)} (c:k≤rs.length):PV.frz o s rs (.osl o s 0 k)=.sl s (rs.take k):=by
 have:0+k≤rs.length:=Om;simp only[PV.frz,PV.sH,PV.dA,if_true,true_and,if_pos this,a7W]
end
def fA (n:Nat):Bool:=decide (97≤n)&&decide (n≤122)||decide (65≤n)&&decide (n≤90)
def jW (n:Nat):Bool:=decide (48≤n)&&decide (n≤57)
def hL (n:Nat):Bool:=fA n||jW n||decide (n=45)||decide (n=46)
theorem jo {C:Ctx} (n:Nat):kV.wp C (aV FL.res (aF (.bool (fA n)))) (PF.args [.int .u8 n]) .nil:=by
 have fin:∀ (F:PF) (b:Bool),F 2=some (.bool b)→b=fA n→aV FL.res (aF (.bool (fA n))) .ret F .nil:=by intro F b h e;subst e;refine aQ (.inr rfl) (vs:=[.bool (fA n)]) (by simp only[go_sem,FL,h]) rfl
 unfold fA at *
 by_cases a:97≤n
 ·have i:(n:Int)≥97:=Om;by_cases b:n≤122
  ·have p:(n:Int)≤122:=Om;simp only[go_sem,kV,pZ,qA,i,p];exact fin _ _ rfl (by simp[a,b])
  ·have p:¬ (n:Int)≤122:=Om;by_cases c:65≤n
   ·have l:(n:Int)≥65:=Om;have d:¬ (n:Int)≤90:=Om;simp only[go_sem,kV,pZ,qA,i,p,l,d];exact fin _ _ rfl (by simp[a,b,c]; omega)
   ·omega
 ·have i:¬ (n:Int)≥97:=Om;by_cases c:65≤n
  ·have l:(n:Int)≥65:=Om;by_cases d:n≤90
   ·have q:(n:Int)≤90:=Om;simp only[go_sem,kV,pZ,qA,i,l,q];exact fin _ _ rfl (by simp[a,c,d])
   ·have q:¬ (n:Int)≤90:=Om;simp only[go_sem,kV,pZ,qA,i,l,q];exact fin _ _ rfl (by simp[a,c,d])
  ·have l:¬ (n:Int)≥65:=Om;simp only[go_sem,kV,pZ,qA,i,l];exact fin _ _ rfl (by simp[a,c])
theorem zt {C:Ctx} (n:Nat):qS.wp C (aV PY.res (aF (.bool (jW n)))) (PF.args [.int .u8 n]) .nil:=by
 have fin:∀ (F:PF) (b:Bool),F 2=some (.bool b)→b=jW n→aV PY.res (aF (.bool (jW n))) .ret F .nil:=by intro F b h e;subst e;refine aQ (.inr rfl) (vs:=[.bool (jW n)]) (by simp only[go_sem,PY,h]) rfl
 unfold jW at *
 by_cases a:48≤n
 ·have c:(n:Int)≥48:=Om;by_cases b:n≤57
  ·have d:(n:Int)≤57:=Om;simp only[go_sem,qS,BI,BJ,c,d];exact fin _ _ rfl (by simp[a,b])
  ·have d:¬ (n:Int)≤57:=Om;simp only[go_sem,qS,BI,BJ,c,d];exact fin _ _ rfl (by simp[a,b])
 ·have c:¬ (n:Int)≥48:=Om;simp only[go_sem,qS,BI,BJ,c];exact fin _ _ rfl (by simp[a])
theorem zu {C:Ctx} (p:∀ n:Nat,aG C 126 [.int .u8 n] .nil (aF (.bool (fA n)))) (q:∀ n:Nat,aG C 124 [.int .u8 n] .nil (aF (.bool (jW n)))) (n:Nat) :
  CP.wp C (aV QA.res (aF (.bool (hL n)))) (PF.args [.int .u8 n]) .nil:=by
 have fin:∀ (F:PF) (b:Bool),F 2=some (.bool b)→b=hL n→aV QA.res (aF (.bool (hL n))) .ret F .nil:=by intro F b h e;subst e;refine aQ (.inr rfl) (vs:=[.bool (hL n)]) (by simp only[go_sem,QA,h]) rfl
 simp only[go_sem,CP,zw,zx];refine aA (p n) rfl ?_;cases l:fA n with
 | true =>simp only[go_sem];exact fin _ _ rfl (by simp[hL,l])
 | false =>
  simp only[go_sem];refine aA (q n) rfl ?_;cases i:jW n with
  | true =>simp only[go_sem];exact fin _ _ rfl (by simp[hL,i])
  | false =>
   by_cases c:n=45
   ·simp only[go_sem,bH (Om:(n:Int)=45)];exact fin _ _ rfl (by simp[hL,c])
   ·by_cases d:n=46
    ·simp only[go_sem,bF (Om:(n:Int)≠45),bH (Om:(n:Int)=46)];exact fin _ _ rfl (by simp[hL,d])
    ·simp only[go_sem,bF (Om:(n:Int)≠45),bF (Om:(n:Int)≠46)];exact fin _ _ rfl (by simp[hL,c,d,l,i])
def isName (s:List UInt8):Bool:=match s with
 | []=>false
 | c::_=>decide (s.length≤16)&&fA c.toNat&&s.all fun c=>hL c.toNat
theorem oX {α:Type} {p:α→Bool} {l:List α} {k:Nat} (c:k<l.length) (h:(l.take k).all p=true) (d:p l[k]=true):(l.take (k+1)).all p=true:=by
 rw[a8E c,a9X,h]; simp[d]
theorem oY {α:Type} {p:α→Bool} {l:List α} {k:Nat} (c:k<l.length) (d:p l[k]=false):l.all p=false:=by
 rw[List.all_eq_false];exact⟨l[k],a6M c,by simp[d]⟩
def Nf (s:List UInt8) (k:Nat):PF:=((PF.nil.set 0 (.str s)).set 3 (.int .i64 k))
theorem Nh {C:Ctx} (x:∀ n:Nat,aG C 126 [.int .u8 n] .nil (aF (.bool (fA n)))) (y:∀ n:Nat,aG C 125 [.int .u8 n] .nil (aF (.bool (hL n)))) (s:List UInt8) :
  sM.wp C (aV jp.res (aF (.bool (isName s)))) (PF.args [.str s]) .nil:=by
 have fin:∀ (F:PF) (b:Bool),F 2=some (.bool b)→b=isName s→aV jp.res (aF (.bool (isName s))) .ret F .nil:=by intro F b h e;subst e;refine aQ (.inr rfl) (vs:=[.bool (isName s)]) (by simp only[go_sem,jp,h]) rfl
 cases s with
 | nil =>simp only[go_sem,sM,IK,IL,IM];exact fin _ _ rfl rfl
 | cons c t =>
  have B:(c::t)[0]?=some c:=rfl;have p:(c::t==[])=false:=rfl;have l:isName (c::t)=(decide ((c::t).length≤16)&&fA c.toNat&&(c::t).all fun c=>hL c.toNat):=rfl;generalize c::t=s at *
  by_cases w:s.length≤16
  ·have i:¬ (s.length:Int)>16:=Om;rw[decide_eq_true w,a6W] at l;simp only[go_sem,sM,IK,IL,p,i,B,a7Y];refine aA (x c.toNat) rfl ?_;cases u:fA c.toNat with
   | false =>simp only[go_sem,a7A,IM];exact fin _ _ rfl (by rw[l,u]; rfl)
   | true =>
    rw[u,a6W] at l;simp only[go_sem,a6P,Ni];refine wp_loop (α:=Nat) (fun k=>Nf s k) (fun _=>.nil) (fun k=>k≤s.length∧(s.take k).all (fun c=>hL c.toNat)=true) (fun k=>s.length-k) 0 ⟨a6Q _,rfl⟩ ?_ a_ ?_
    ·unfold Nf;exact Lq
    rintro k ⟨E,q⟩;simp only[go_sem,Ng,Nj,Nf];by_cases hlt:k<s.length
    ·have d:(k:Int)<(s.length:Nat):=Om;have A:s[k]?=some s[k]:=a6Y hlt;simp only[go_sem,d,Nk,A,a7Y];refine aA (y (s[k]).toNat) rfl ?_;cases hi:hL (s[k]).toNat with
     | false =>simp only[go_sem,a7A,Nl];refine fin _ false rfl ?_;rw[l,oY hlt hi]
     | true =>simp only[go_sem,a6P,Nm,wZz k];refine aD (k+1) ⟨hlt,a7B.1 (oX hlt q hi)⟩ Om ?_ a_;exact Lq
    ·have d:¬ (k:Int)<(s.length:Nat):=Om;simp only[go_sem,d,Nn];have:k=s.length:=Om;subst this;rw[a7F (a6S _)] at q;exact fin _ true rfl (by rw[l,q])
  ·have i:(s.length:Int)>16:=Om;simp only[go_sem,sM,IK,IL,IM,p,i];exact fin _ _ rfl (by rw[l,decide_eq_false w]; rfl)
abbrev dE (x:Int):Prop:=-9223372036854775808≤x∧x≤9223372036854775807
structure cG where
 name:List UInt8
 start:List RF
 a5E:List (List RF)
 exit:List RF
structure cQ where
 name:List UInt8
 a5P:Int
 port:Int
 law:Int
structure cE where
 name:List UInt8
 level:Int
 parent:Int
 a5T:Int
 a5O:RF
structure dN where
 name:List UInt8
 model:Int
 machine:Int
structure bT where
 name:List UInt8
 k:Int
 m:Int
 a5X:Int
 s0:Int
 s1:Int
 s2:Int
 s3:Int
 s4:Int
 a5A:List Int
 repair:List RF
 target:RF
 a5J:RF
structure eO where
 name:List UInt8
 a5L:Int
structure aE where
 a6D:Int
 a5G:List cG
 a5A:List cQ
 a5C:List cE
 a4Z:List dN
 a5D:List bT
 a5B:List eO
abbrev I (x:Int):PV:=.int .i64 x
abbrev amN (l:List (List RF)):PV:=.sl 1 (l.map fun r=>[frs r])
abbrev cG.cells (x:cG):List PV:=[.str x.name,frs x.start,amN x.a5E,frs x.exit]
abbrev cQ.cells (x:cQ):List PV:=[.str x.name,.int .i64 x.a5P,.int .i64 x.port,.int .i64 x.law]
abbrev cE.cells (x:cE):List PV:=[.str x.name,.int .i64 x.level,.int .i64 x.parent,.int .i64 x.a5T,.bool x.a5O.neg,aI x.a5O.num,aI x.a5O.den]
abbrev dN.cells (x:dN):List PV:=[.str x.name,.int .i64 x.model,.int .i64 x.machine]
abbrev bT.cells (x:bT):List PV:=[.str x.name,.int .i64 x.k,.int .i64 x.m,.int .i64 x.a5X,.int .i64 x.s0,.int .i64 x.s1,.int .i64 x.s2,.int .i64 x.s3,.int .i64 x.s4,ints x.a5A,frs x.repair,
 .bool x.target.neg,aI x.target.num,aI x.target.den,.bool x.a5J.neg,aI x.a5J.num,aI x.a5J.den]
abbrev eO.cells (x:eO):List PV:=[.str x.name,.int .i64 x.a5L]
abbrev aE.cells (f:aE):List PV:=[.int .i64 f.a6D,.sl 4 (f.a5G.map cG.cells),.sl 4 (f.a5A.map cQ.cells),.sl 7 (f.a5C.map cE.cells),.sl 3 (f.a4Z.map dN.cells),.sl 17 (f.a5D.map bT.cells),.sl 2 (f.a5B.map eO.cells)]
def bT.spread (p:bT) (level:Nat):Int:=match level with
 | 0=>p.s0
 | 1=>p.s1
 | 2=>p.s2
 | 3=>p.s3
 | _=>p.s4
abbrev Fits {α:Type} (l:List α):Prop:=l.length≤9223372036854775807
structure gY (l:List RF):Prop where
 fits:Fits l
 all:∀ x∈l,x.Ok
structure cG.Ok (x:cG):Prop where
 start:gY x.start
 exit:gY x.exit
 a5E:Fits x.a5E
 row:∀ r∈x.a5E,gY r
structure bT.Ok (x:bT):Prop where
 k:dE x.k
 m:dE x.m
 a5X:dE x.a5X
 a5A:Fits x.a5A
 each:∀ m∈x.a5A,dE m
 repair:gY x.repair
 target:x.target.Ok
 a5J:x.a5J.Ok
structure aE.Ok (f:aE):Prop where
 a5G:Fits f.a5G
 a5A:Fits f.a5A
 a5C:Fits f.a5C
 a4Z:Fits f.a4Z
 a5D:Fits f.a5D
 a5B:Fits f.a5B
 law:∀ x∈f.a5G,x.Ok
 dom:∀ x∈f.a5C,x.a5O.Ok∧dE x.level∧dE x.parent
 drive:∀ x∈f.a4Z,dE x.model∧dE x.machine
 a5L:∀ x∈f.a5D,x.Ok
 volume:∀ x∈f.a5B,dE x.a5L
def oM (x:RF):FR:=if cR (val x.num) (val x.den) then gW x.neg (val x.num) (val x.den) else .error 1
theorem mj (x:RF):UY x.neg (val x.num) (val x.den)=frV (oM x):=by
 unfold UY oM;split
 ·exact ui _ _ _
 ·rfl
def cP (x:RF):Bool:=match oM x with
 | .ok (n,a,b)=>!n&&(decide (cJ a≤32)&&decide (cJ b≤32))
 | .error _=>false
def cH (x:RF):Bool:=decide (val x.num≠0)
def wE (x:RF):Bool:=cR (val x.num) (val x.den)&&decide (rH x.neg (val x.num) (val x.den) false 1 1≤0)
def within (n lo hi:Int):Bool:=decide (lo≤n)&&decide (n≤hi)
def cS (R:List Bool) (i:Nat) (row:List RF):Nat→List Bool
 | 0=>R
 | k+1=>let c:=cS R i row k
  c.set i (c.getD i false||(row.map cH).getD k false&&c.getD k false)
def zZ (l:cG) (R:List Bool) (i:Nat):List Bool :=
 cS (R.set i (R.getD i false||(l.exit.map cH).getD i false)) i (l.a5E.getD i []) (l.a5E.getD i []).length
def dH (l:cG) (R:List Bool):Nat→List Bool
 | 0=>R
 | i+1=>zZ l (dH l R i) i
def dO (l:cG):Nat→List Bool
 | 0=>a6N l.exit.length false
 | r+1=>dH l (dO l r) l.exit.length
def wU (l:cG):Bool:=(dO l (l.exit.length+1)).all id
def lJ (l:cG):Bool :=
 within l.start.length 1 4&&decide (l.exit.length=l.start.length)&&decide (l.a5E.length=l.start.length)&&l.start.all cP&&l.exit.all cP
 && (a6L l.a5E.length).all (fun i=>decide ((l.a5E.getD i []).length=l.start.length)&&(l.a5E.getD i []).all cP&&!((l.a5E.getD i []).map cH).getD i false)
 && (match pM (l.start.map RF.v) with
  | .ok (n,a,b)=>decide (rH n a b false 1 1=0)
  | .error _=>false)&&wU l
def distinct (l:List (List UInt8)):Bool:=(a6L l.length).all fun i=>isName (l.getD i [])&&!(l.take i).contains (l.getD i [])
def YY (f:aE) (i:Nat) (d:cE):Bool :=
 within d.parent 0 i&&decide ((f.a5C.map cE.level).getD d.parent.toNat 0=IntKind.i64.wrap (d.level-1))&&within d.level 1 4&&within d.a5T 1 64&&cP d.a5O
def UG (f:aE) (r:cE) (t:List cE):Bool :=
 decide (r.name=[])&&decide (r.level=0)&&decide (r.parent=-1)&&decide (r.a5T=0)&&cP r.a5O&&!cH r.a5O
  && (a6L t.length).all fun i=>match t[i]? with
   | some d=>YY f i d
   | none=>false
def qW (f:aE):Bool:=match f.a5C with
 | []=>false
 | r::t=>UG f r t
def RK (p:bT):Bool :=
 within p.k 1 6&&within p.m 0 4&&decide (p.k+p.m≤8)&&within p.a5X p.k (p.k+p.m)&&decide (p.s0=0)&&([p.s0,p.s1,p.s2,p.s3,p.s4].all fun n=>within n 0 8)
def KD (p:bT):Bool :=
 decide ((p.repair.length:Int)=max p.m 1)&&(p.repair.all fun x=>cP x&&cH x)&&cP p.target&&wE p.target&&cP p.a5J
def kI (a5A:Nat) (p:bT):Bool :=
 RK p&&decide (p.a5A.length≠0)&&KD p&&(a6L p.a5A.length).all fun j=>within (p.a5A.getD j 0) 0 ((a5A:Int)-1)&&!(p.a5A.take j).contains (p.a5A.getD j 0)
def jX (f:aE) (m:cQ):Bool:=within m.a5P 1 16&&within m.port 1 64&&within m.law 0 ((f.a5G.length:Int)-1)
def iY (f:aE) (d:dN):Bool:=within d.model 0 ((f.a5A.length:Int)-1)&&within d.machine 0 ((f.a5C.length:Int)-1)&&decide ((f.a5C.map cE.level).getD d.machine.toNat 0=4)
def oN (f:aE) (v:eO):Bool:=within v.a5L 0 ((f.a5D.length:Int)-1)
def nS (f:aE):Bool:=within f.a6D 1 4&&decide (f.a5G.length≤4)&&decide (f.a5A.length≤4)&&decide (f.a5C.length≤40)&&decide (f.a4Z.length≤24)&&decide (f.a5D.length≤4)&&decide (f.a5B.length≤12)
def dS (f:aE):Bool :=
 nS f&&qW f&&(f.a5G.all lJ&&f.a5A.all (jX f)&&f.a4Z.all (iY f)&&f.a5D.all (kI f.a5A.length)&&f.a5B.all (oN f))
 && (distinct (f.a5G.map cG.name)&&distinct (f.a5A.map cQ.name)&&distinct ((f.a5C.drop 1).map cE.name++f.a4Z.map dN.name)&&distinct (f.a5D.map bT.name)&&distinct (f.a5B.map eO.name))
end Go.PM
