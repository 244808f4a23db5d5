/-
  Texts of ours, joined: Pm21 Pm22 Pm23 Pm24 Pm25 Pm26 L11Code NaCode Pm27 Pm29 Pm30 Pm31 NaPlain NaW1 NaW2 NaW3 NaW4 NaW5 NaW6 NaW7 NaW8 NaW9 NaKn NaW10 NaW11 Pm32 NaW12 NaW13 NaW14 NaW15 FrCode FrW1 FrW2 FrW3 FrW4 FlCode Pm. No condition.
-/
import Derived.Test.YtnagfjehjbbckaaGreatDoorLe1
import Derived.ProofKit
import Derived.OpenShut
set_option linter.unusedSimpArgs false
set_option linter.unusedVariables false
open Nat renaming reduceEqDiff → γ, reduceAdd → δ, reduceSub → ε, reduceMul → ζ, reduceLT → η, reduceLeDiff → θ, reduceBEq → τ
open Int renaming reduceLT → ι, reduceLE → κ, reduceEq → μ, reduceToNat → ν, reduceAdd → ξ, reduceNeg → ο, reduceBEq → ρ, reduceBNe → σ
open List renaming reduceReplicate → υ
open List renaming length_map → a1K, replicate → a1M, getElem_mem → a1N, length_append → a1P, mem_cons → a1R, range → a1S, length_singleton → a1T, getElem?_eq_getElem → a1V, length_take → a2A, not_mem_nil → a2B, take_of_length_le → a2C, all_eq_true → a2F, mem_map → a2G, getElem?_map → a2K, getD_eq_getElem?_getD → a2L, map_append → a2N, take_length → a2O, getElem?_eq_some_iff → a2P, drop_zero → a2S, append_assoc → a2T, map_cons → a2Y, getElem?_eq_none → a2Z, mem_append → a3A, mem_range → a3B, getElem_of_mem → a3D, length_cons → a3E, range' → a3H, take_succ_eq_append_getElem → a3I, append_nil → a3J, drop_eq_getElem_cons → a3K, getElem_map → a3L, length_drop → a3M, Sublist → a3N, mem_singleton → a3O, map_nil → a3Q, mem_of_getElem? → a3R, length_set → a3U, getElem?_append_left → a3Y, length_nil → a3Z, nodup_append → a4C, getElem?_append_right → a4E, take_append_drop → a4H, ext_getElem → a4O, set_append_right → a4P, set_cons_zero → a4R, getElem?_take → a4U, map_congr_left → a4V, drop_of_length_le → a5C, getElem_append_right → a5D
open Nat renaming gcd → a1L, le_refl → a1O, mul_add → a1U, zero_le → a1X, lt_or_ge → a2D, mul_assoc → a2E, zero_add → a2H, mul_comm → a2M, mul_le_mul_right → a2Q, add_mul → a2R, mod_eq_of_lt → a2U, le_trans → a2X, mod_lt → a3C, pow_succ → a3F, add_zero → a3S, add_assoc → a3V, min_eq_left → a3W, mul_le_mul_left → a3X, pos_of_ne_zero → a4A, eq_zero_or_pos → a4D, pow_pos → a4F, div_le_self → a4I, succ_mul → a4J, div_lt_iff_lt_mul → a4L, mul_le_mul → a4S, div_add_mod → a4W, div_eq_of_lt → a4X, pow_le_pow_right → a4Y
open Option renaming map_eq_some_iff → a1Q, map_some → a2V, some → a3T, getD_some → a4G, bind_eq_some_iff → a4Z, bind_some → a5A
open Bool renaming not_true → a1W, false_and → a1Y, and_eq_true → a1Z, not_false → a2I, true_and → a2J, and_false → a2W, and_true → a4B, false_eq_true → a4K, and_self → a4N
open Array renaming replicate → a3G, length_toList → a4M, getElem?_eq_some_iff → a4Q, getElem?_eq_getElem → a4T, getD_eq_getD_getElem? → a5B
open Int renaming toNat_natCast → a3P
namespace Go.PM
open Go
attribute [go_sem] List.getElem?_cons_succ List.getElem?_cons_zero and_self and_true true_and or_true true_or or_false false_or a1W a2I a2V a5A if_true if_false a3E a3Z List.drop_succ_cons a2S List.take_succ_cons List.take_zero a2Y a3Q a3T.injEq PV.bool.injEq PV.int.injEq aM PV.bin
@[go_sem] theorem aSQ (k:IntKind) (a b:Int):kO .add k a b=some (.int k (k.wrap (a+b))):=(rfl)
@[go_sem] theorem aTA (k:IntKind) (a b:Int):kO .sub k a b=some (.int k (k.wrap (a-b))):=(rfl)
@[go_sem] theorem aSW (k:IntKind) (a b:Int):kO .mul k a b=some (.int k (k.wrap (a*b))):=(rfl)
@[go_sem] theorem aSY (k:IntKind) (a b:Int):kO .quo k a b=if b=0 then none else some (.int k (k.wrap (a.tdiv b))):=(rfl)
@[go_sem] theorem aSZ (k:IntKind) (a b:Int):kO .rem k a b=if b=0 then none else some (.int k (a.tmod b)):=(rfl)
@[go_sem] theorem aSR (k:IntKind) (a b:Int):kO .eql k a b=some (.bool (a==b)):=(rfl)
@[go_sem] theorem aSX (k:IntKind) (a b:Int):kO .neq k a b=some (.bool (a != b)):=(rfl)
@[go_sem] theorem aSV (k:IntKind) (a b:Int):kO .lss k a b=some (.bool (decide (a<b))):=(rfl)
@[go_sem] theorem aSU (k:IntKind) (a b:Int):kO .leq k a b=some (.bool (decide (a≤b))):=(rfl)
@[go_sem] theorem aST (k:IntKind) (a b:Int):kO .gtr k a b=some (.bool (decide (a>b))):=(rfl)
@[go_sem] theorem aSS (k:IntKind) (a b:Int):kO .geq k a b=some (.bool (decide (a≥b))):=(rfl)
section
variable {C:Ctx} {K:bV} {F:PF} {H:PH}
@[go_sem] theorem aXW:aC.wp C .skip K F H=K .normal F H:=(rfl)
@[go_sem] theorem aUX (ops:List aS):aC.wp C (.region ops) K F H=wpOps C ops (K .normal) F H:=(rfl)
@[go_sem] theorem nn (a b:aC):aC.wp C (.seq a b) K F H=a.wp C (gX C (b.wp C) K) F H:=(rfl)
@[go_sem] theorem aWH (id:Nat) (c:aC):aC.wp C (.block id c) K F H=c.wp C (fQ id K) F H:=(rfl)
@[go_sem] theorem aXV (id:Nat):aC.wp C (.exit id) K F H=K (.exit id) F H:=(rfl)
@[go_sem] theorem aYN:aC.wp C .ret K F H=K .ret F H:=(rfl)
def QD (C:Ctx) (v:Option PV) (a b:aC) (K:bV) (F:PF) (H:PH):Prop :=
 match v with
 | some (.bool t)=>if t then a.wp C K F H else b.wp C K F H
 | _=>False
@[go_sem] theorem aEK (c:aN) (a b:aC):aC.wp C (.cond c a b) K F H=QD C (c.ev F) a b K F H:=(rfl)
@[go_sem] theorem aTF (a b:aC):QD C (some (.bool true)) a b K F H=a.wp C K F H:=(rfl)
@[go_sem] theorem aRS (a b:aC):QD C (some (.bool false)) a b K F H=b.wp C K F H:=(rfl)
theorem avZ {t:Bool} {a b:aC} (c:t=true→a.wp C K F H) (d:t=false→b.wp C K F H):QD C (some (.bool t)) a b K F H:=by
 cases t
 ·exact d rfl
 ·exact c rfl
@[go_sem] theorem aSA (w:bV→PF→PH→Prop):gX C w K .normal F H=w K F H:=(rfl)
@[go_sem] theorem aQH (w:bV→PF→PH→Prop):gX C w K .normal=w K:=(rfl)
@[go_sem] theorem aVU (w:bV→PF→PH→Prop) (id:Nat):gX C w K (.exit id)=K (.exit id):=(rfl)
@[go_sem] theorem aXL (w:bV→PF→PH→Prop):gX C w K .ret=K .ret:=(rfl)
@[go_sem] theorem aNR (id:Nat):fQ id K .normal=K .normal:=(rfl)
@[go_sem] theorem aTD (id:Nat):fQ id K .ret=K .ret:=(rfl)
@[go_sem] theorem AB (id c:Nat):fQ id K (.exit c) F H=if c=id then K .normal F H else K (.exit c) F H:=(rfl)
@[go_sem] theorem aUV (K:PF→PH→Prop):wpOps C [] K F H=K F H:=(rfl)
@[go_sem] theorem aUW (d:Option Nat) (op:POp) (rest:List aS) (K:PF→PH→Prop):wpOps C (⟨d,op,none⟩::rest) K F H=wpOp C op d (wpOps C rest K) F H:=(rfl)
def uJ (C:Ctx) (v:Option PV) (c:Bool) (op:POp) (d:Option Nat) (rest:List aS) (K:PF→PH→Prop) (F:PF) (H:PH):Prop :=
 match v with
 | some (.bool b)=>if b=c then wpOp C op d (wpOps C rest K) F H else wpOps C rest K (F.put d (.tup [])) H
 | some (.tup [])=>wpOps C rest K (F.put d (.tup [])) H
 | _=>False
@[go_sem] theorem Pa (d:Option Nat) (op:POp) (t:Nat) (c:Bool) (rest:List aS) (K:PF→PH→Prop) :
  wpOps C (⟨d,op,some (t,c)⟩::rest) K F H=uJ C (F t) c op d rest K F H:=(rfl)
@[go_sem] theorem aVQ (op:POp) (d:Option Nat) (rest:List aS) (K:PF→PH→Prop):uJ C (some (.bool true)) true op d rest K F H=wpOp C op d (wpOps C rest K) F H:=(rfl)
@[go_sem] theorem aVN (op:POp) (d:Option Nat) (rest:List aS) (K:PF→PH→Prop):uJ C (some (.bool false)) false op d rest K F H=wpOp C op d (wpOps C rest K) F H:=(rfl)
@[go_sem] theorem aVP (op:POp) (d:Option Nat) (rest:List aS) (K:PF→PH→Prop):uJ C (some (.bool true)) false op d rest K F H=wpOps C rest K (F.put d (.tup [])) H:=(rfl)
@[go_sem] theorem aVO (op:POp) (d:Option Nat) (rest:List aS) (K:PF→PH→Prop):uJ C (some (.bool false)) true op d rest K F H=wpOps C rest K (F.put d (.tup [])) H:=(rfl)
@[go_sem] theorem aRX (c:Bool) (op:POp) (d:Option Nat) (rest:List aS) (K:PF→PH→Prop):uJ C (some (.tup [])) c op d rest K F H=wpOps C rest K (F.put d (.tup [])) H:=(rfl)
@[go_sem] theorem aXH (d:Nat) (v:PV):F.put (some d) v=F.set d v:=(rfl)
@[go_sem] theorem aXG (v:PV):F.put none v=F:=(rfl)
@[go_sem] theorem kC (i j:Nat) (v:PV):(F.set i v) j=if j=i then some v else F j:=(rfl)
@[go_sem] theorem args_at (vs:List PV) (i:Nat):PF.args vs i=vs[i]?:=(rfl)
@[go_sem] theorem aYS (i:Nat):PF.nil i=none:=(rfl)
@[go_sem] theorem CR (t:Nat):(aN.tmp t).ev F=F t:=(rfl)
@[go_sem] theorem aWW (v:PV):(aN.const v).ev F=some v:=(rfl)
@[go_sem] theorem aV (i j:Nat) (x:bY):(H.set i x) j=if j=i then some x else H j:=(rfl)
@[go_sem] theorem QM (i:Nat):PH.nil i=none:=(rfl)
@[go_sem] theorem CS:aN.evs F []=some []:=(rfl)
@[go_sem] theorem qJ (x:aN) (xs:List aN):aN.evs F (x::xs)=(match x.ev F,aN.evs F xs with | some v,some vs=>some (v::vs) | _,_=>none):=(rfl)
theorem gZ {i j:Nat} {x:bY}:(H.set i x) j=none↔j≠i∧H j=none:=by
 rw[aV];split<;>simp_all
@[go_sem] theorem aSB (v:PV) (d:Option Nat) (K:PF→PH→Prop):bQ (some v) d K F H=K (F.put d v) H:=by
 simp[bQ]
theorem aQ {c:Nat→PV} {x:bY} {d:Option Nat} {K:PF→PH→Prop} (h:∀ o,H o=none→K (F.put d (c o)) (H.set o x)):mG (some (c,x)) d K F H:=⟨c,x,rfl,h⟩
@[go_sem] theorem aYL (x:aN) (d:Option Nat) (K:PF→PH→Prop):wpOp C (.mv x) d K F H=bQ (aM (.mv x) F H) d K F H:=(rfl)
@[go_sem] theorem aWG (x:aN) (d:Option Nat) (K:PF→PH→Prop):wpOp C (.same x) d K F H=bQ (aM (.same x) F H) d K F H:=(rfl)
@[go_sem] theorem aWF (c a b:aN) (d:Option Nat) (K:PF→PH→Prop):wpOp C (.pick c a b) d K F H=bQ (aM (.pick c a b) F H) d K F H:=(rfl)
@[go_sem] theorem aXQ (o:BinOp) (x y:aN) (d:Option Nat) (K:PF→PH→Prop):wpOp C (.bin o x y) d K F H=bQ (aM (.bin o x y) F H) d K F H:=(rfl)
@[go_sem] theorem aXS (n:Bool) (x y:aN) (d:Option Nat) (K:PF→PH→Prop):wpOp C (.eqb n x y) d K F H=bQ (aM (.eqb n x y) F H) d K F H:=(rfl)
@[go_sem] theorem aXT (n:Bool) (c:List Sc) (x y:aN) (d:Option Nat) (K:PF→PH→Prop):wpOp C (.eqs n c x y) d K F H=bQ (aM (.eqs n c x y) F H) d K F H:=(rfl)
@[go_sem] theorem aYM (o:UnOp) (x:aN) (d:Option Nat) (K:PF→PH→Prop):wpOp C (.un o x) d K F H=bQ (aM (.un o x) F H) d K F H:=(rfl)
@[go_sem] theorem aVY (k:IntKind) (x:aN) (d:Option Nat) (K:PF→PH→Prop):wpOp C (.conv k x) d K F H=bQ (aM (.conv k x) F H) d K F H:=(rfl)
@[go_sem] theorem aUO (z:List PV) (ps:List (Nat × Nat × aN)) (d:Option Nat) (K:PF→PH→Prop):wpOp C (.build z ps) d K F H=bQ (aM (.build z ps) F H) d K F H:=(rfl)
@[go_sem] theorem aWD (n:Option Nat) (p:aN) (d:Option Nat) (K:PF→PH→Prop):wpOp C (.load n p) d K F H=bQ (aM (.load n p) F H) d K F H:=(rfl)
@[go_sem] theorem aSM (x:aN) (d:Option Nat) (K:PF→PH→Prop):wpOp C (.a0M x) d K F H=bQ (aM (.a0M x) F H) d K F H:=(rfl)
@[go_sem] theorem aSF (c:Nat) (x:aN) (d:Option Nat) (K:PF→PH→Prop):wpOp C (.a1C c x) d K F H=bQ (aM (.a1C c x) F H) d K F H:=(rfl)
@[go_sem] theorem aUQ (c:Nat) (n:Option Nat) (x:aN) (d:Option Nat) (K:PF→PH→Prop):wpOp C (.field c n x) d K F H=bQ (aM (.field c n x) F H) d K F H:=(rfl)
@[go_sem] theorem aWA (s:Nat) (x i:aN) (d:Option Nat) (K:PF→PH→Prop):wpOp C (.a0Q s x i) d K F H=bQ (aM (.a0Q s x i) F H) d K F H:=(rfl)
@[go_sem] theorem aVZ (n s:Nat) (x i:aN) (d:Option Nat) (K:PF→PH→Prop):wpOp C (.idxA n s x i) d K F H=bQ (aM (.idxA n s x i) F H) d K F H:=(rfl)
@[go_sem] theorem aWB (n s:Nat) (g:Bool) (x i:aN) (d:Option Nat) (K:PF→PH→Prop):wpOp C (.idxV n s g x i) d K F H=bQ (aM (.idxV n s g x i) F H) d K F H:=(rfl)
@[go_sem] theorem aSG (x i:aN) (d:Option Nat) (K:PF→PH→Prop):wpOp C (.a1A x i) d K F H=bQ (aM (.a1A x i) F H) d K F H:=(rfl)
@[go_sem] theorem aUT (s:Nat) (x:aN) (lo hi mx:Option aN) (d:Option Nat) (K:PF→PH→Prop):wpOp C (.slice s x lo hi mx) d K F H=bQ (aM (.slice s x lo hi mx) F H) d K F H:=(rfl)
@[go_sem] theorem aSN (n s:Nat) (x:aN) (lo hi mx:Option aN) (d:Option Nat) (K:PF→PH→Prop):wpOp C (.sliceA n s x lo hi mx) d K F H=bQ (aM (.sliceA n s x lo hi mx) F H) d K F H:=(rfl)
@[go_sem] theorem aNU (x:aN) (lo hi:Option aN) (d:Option Nat) (K:PF→PH→Prop):wpOp C (.a0W x lo hi) d K F H=bQ (aM (.a0W x lo hi) F H) d K F H:=(rfl)
@[go_sem] theorem aVR:PV.rX .aB=some (.int .i64 0):=(rfl)
@[go_sem] theorem aYK (s:Nat) (rows:List (List PV)):PV.rX (.sl s rows)=some (.int .i64 rows.length):=(rfl)
@[go_sem] theorem aXD (o s c n:Nat):PV.rX (.osl o s c n)=some (.int .i64 n):=(rfl)
@[go_sem] theorem aXU (x:aN) (d:Option Nat) (K:PF→PH→Prop):wpOp C (.len x) d K F H=bQ (aM (.len x) F H) d K F H:=(rfl)
@[go_sem] theorem aSI (x:aN) (d:Option Nat) (K:PF→PH→Prop):wpOp C (.a0Z x) d K F H=bQ (aM (.a0Z x) F H) d K F H:=(rfl)
@[go_sem] theorem aWC (x:aN) (d:Option Nat) (K:PF→PH→Prop):wpOp C (.lenM x) d K F H=bQ (aM (.lenM x) F H) d K F H:=(rfl)
@[go_sem] theorem aUR (n:Bool) (x:aN) (d:Option Nat) (K:PF→PH→Prop):wpOp C (.isNil n x) d K F H=bQ (aM (.isNil n x) F H) d K F H:=(rfl)
@[go_sem] theorem aRZ:PV.uL .aB=some true:=(rfl)
@[go_sem] theorem aTU (o s c len:Nat):PV.uL (.osl o s c len)=some false:=(rfl)
@[go_sem] theorem aRY (s:Nat) (r:List PV) (rs:List (List PV)):PV.uL (.sl s (r::rs))=some false:=(rfl)
@[go_sem] theorem aSE (x:aN) (d:Option Nat) (K:PF→PH→Prop):wpOp C (.a1J x) d K F H=bQ (aM (.a1J x) F H) d K F H:=(rfl)
@[go_sem] theorem aRH (x:aN) (i:Nat) (d:Option Nat) (K:PF→PH→Prop):wpOp C (.extract x i) d K F H=bQ (aM (.extract x i) F H) d K F H:=(rfl)
@[go_sem] theorem aSL (m:Bool) (x y:aN) (d:Option Nat) (K:PF→PH→Prop):wpOp C (.a0U m x y) d K F H=bQ (aM (.a0U m x y) F H) d K F H:=(rfl)
@[go_sem] theorem aWE (n:Nat) (cs:List aN) (d:Option Nat) (K:PF→PH→Prop):wpOp C (.mkfn n cs) d K F H=bQ (aM (.mkfn n cs) F H) d K F H:=(rfl)
@[go_sem] theorem aSJ (sh:MSh) (z:PV) (x k:aN) (ok:Bool) (d:Option Nat) (K:PF→PH→Prop):wpOp C (.lookup sh z x k ok) d K F H=bQ (aM (.lookup sh z x k ok) F H) d K F H:=(rfl)
@[go_sem] theorem aMR (x:aN) (d:Option Nat) (K:PF→PH→Prop):wpOp C (.a0N x) d K F H=bQ (aM (.a0N x) F H) d K F H:=(rfl)
@[go_sem] theorem aVW (x:aN) (d:Option Nat) (K:PF→PH→Prop):wpOp C (.box true x) d K F H=bQ (aM (.box true x) F H) d K F H:=(rfl)
@[go_sem] theorem aRG (s l:Nat) (z:List PV) (ps:List (Nat × aN)) (d:Option Nat) (K:PF→PH→Prop):wpOp C (.a0F true s l z ps) d K F H=bQ (aM (.a0F true s l z ps) F H) d K F H:=(rfl)
@[go_sem] theorem aUN (cs:List PV) (d:Option Nat) (K:PF→PH→Prop):wpOp C (.alloc cs) d K F H=mG (cR (.alloc cs) F) d K F H:=(rfl)
@[go_sem] theorem aRI (s b:Nat) (z:List PV) (l c:aN) (d:Option Nat) (K:PF→PH→Prop):wpOp C (.a0H s b z l c) d K F H=mG (cR (.a0H s b z l c) F) d K F H:=(rfl)
@[go_sem] theorem aUS (sh:MSh) (d:Option Nat) (K:PF→PH→Prop):wpOp C (.a1F sh) d K F H=mG (cR (.a1F sh) F) d K F H:=(rfl)
@[go_sem] theorem aXR (x:aN) (d:Option Nat) (K:PF→PH→Prop):wpOp C (.box false x) d K F H=mG (cR (.box false x) F) d K F H:=(rfl)
@[go_sem] theorem aSD (s l:Nat) (z:List PV) (ps:List (Nat × aN)) (d:Option Nat) (K:PF→PH→Prop):wpOp C (.a0F false s l z ps) d K F H=mG (cR (.a0F false s l z ps) F) d K F H:=(rfl)
@[go_sem] theorem aUU (n:Nat) (p x:aN) (d:Option Nat) (K:PF→PH→Prop):wpOp C (.store n p x) d K F H=bW (.store n p x) F H (fun r H'=>K (F.put d r) H'):=(rfl)
@[go_sem] theorem aSC (s b:Nat) (x y:aN) (d:Option Nat) (K:PF→PH→Prop):wpOp C (.append s b x y) d K F H=bW (.append s b x y) F H (fun r H'=>K (F.put d r) H'):=(rfl)
@[go_sem] theorem aSK (sh:MSh) (x k v:aN) (d:Option Nat) (K:PF→PH→Prop):wpOp C (.a0R sh x k v) d K F H=bW (.a0R sh x k v) F H (fun r H'=>K (F.put d r) H'):=(rfl)
@[go_sem] theorem aSH (sh:MSh) (x k v:aN) (d:Option Nat) (K:PF→PH→Prop):wpOp C (.insert sh x k v) d K F H=bW (.insert sh x k v) F H (fun r H'=>K (F.put d r) H'):=(rfl)
@[go_sem] theorem aVX (n:Nat) (c:List aN) (d:Option Nat) (K:PF→PH→Prop):wpOp C (.call n c) d K F H=hL C n c [] d K F H:=(rfl)
@[go_sem] theorem aUP (x:aN) (c:List aN) (d:Option Nat) (K:PF→PH→Prop):wpOp C (.a1B x c) d K F H=tN C (x.ev F) c d K F H:=(rfl)
@[go_sem] theorem aUM (n:Nat) (cs:List PV) (c:List aN) (d:Option Nat) (K:PF→PH→Prop):tN C (some (.fn n cs)) c d K F H=hL C n c cs d K F H:=(rfl)
theorem PF.nil_le:PF.nil.le F:=fun _ _ h=>(by cases h)
abbrev d_:=@PF.nil_le
theorem PF.aL {i:Nat} {v:PV} {G:PF} (d:F.le G) (l:G i=some v):(F.set i v).le G:=by
 intro j u c;rw[kC] at c;split at c
 ·rename_i e; subst e; cases c; exact l
 ·exact d _ _ c
abbrev c_:=@PF.aL
theorem PF.le_refl:F.le F:=fun _ _ h=>h
theorem PH.nil_le:PH.nil.le H:=fun _ _ h=>(by cases h)
abbrev a_:=@PH.nil_le
theorem PH.aL {i:Nat} {x:bY} {G:PH} (d:H.le G) (l:G i=some x):(H.set i x).le G:=by
 intro j u c;rw[aV] at c;split at c
 ·rename_i e; subst e; cases c; exact l
 ·exact d _ _ c
theorem PH.le_refl:H.le H:=fun _ _ h=>h
abbrev b_:=@PH.le_refl
theorem wp_loop {c:aC} {α:Type} (d:α→PF) (Hs:α→PH) (e:α→Prop) (m:α→Nat) (i:α) (l:e i) (p:(d i).le F) (u:(Hs i).le H)
  (w:∀ a,e a→c.wp C (jS d Hs e m (m a) K) (d a) (Hs a)):aC.wp C (.loop c) K F H :=
 ⟨α,d,Hs,e,m,i,F,H,.refl F H,l,p,u,w⟩
theorem aK {α:Type} {c:α→PF} {Hs:α→PH} {d:α→Prop} {m:α→Nat} {n:Nat} (a:α) (e:d a) (p:m a<n) (i:(c a).le F) (l:(Hs a).le H):jS c Hs d m n K .normal F H :=
 ⟨a,F,H,.refl F H,e,p,i,l⟩
@[go_sem] theorem aTX {α:Type} {c:α→PF} {Hs:α→PH} {d:α→Prop} {m:α→Nat} {n:Nat} (id:Nat):jS c Hs d m n K (.exit id)=K (.exit id):=(rfl)
@[go_sem] theorem aVS {α:Type} {c:α→PF} {Hs:α→PH} {d:α→Prop} {m:α→Nat} {n:Nat}:jS c Hs d m n K .ret=K .ret:=(rfl)
def aH (v:PV) (r:PV) (H:PH):Prop:=r=v∧H=PH.nil
theorem PH.tG:H.over .nil .nil=H:=PH.ext fun o=>rfl
theorem O9 {name:Nat} {vs cs:List PV} {v:PV} {args:List aN} {d:Option Nat} {K:PF→PH→Prop} (h:aF C name (vs++cs) .nil (aH v)) (c:aN.evs F args=some vs)
  (e:K (F.put d v) H):hL C name args cs d K F H:=by
 refine .inl ⟨vs++cs,.nil,_,by rw[c]; rfl,a_,h,?_⟩;rintro r H' ⟨rfl,rfl⟩ _;rw[PH.tG];exact e
theorem aA {name:Nat} {vs:List PV} {v:PV} {args:List aN} {d:Option Nat} {K:PF→PH→Prop} (h:aF C name vs .nil (aH v)) (c:aN.evs F args=some vs)
  (e:K (F.put d v) H):hL C name args [] d K F H:=O9 (cs:=[]) (by rw[a3J]; exact h) c e
theorem bE {res:List dH} {vs:List PV} {v:PV} {e:kY} (l:e=.normal∨e=.ret) (h:dH.evs F H res=some vs) (p:cO vs=v):aX res (aH v) e F H:=by
 have c:∃ vs,dH.evs F H res=some vs∧∃ d i H2,iW (PF.nil.set 0 (cO vs)) H d i∧H2.le i∧∃ u,d 0=some u∧aH v u H2 :=
  ⟨vs,h,_,H,.nil,.refl _ _,a_,v,by rw[kC,if_pos rfl,p],rfl,rfl⟩
 rcases l with rfl | rfl<;>exact c
@[go_sem] theorem nK:dH.evs F H []=some []:=(rfl)
@[go_sem] theorem jZ (x:dH) (xs:List dH):dH.evs F H (x::xs)=(match x.ev F H,dH.evs F H xs with | some v,some vs=>some (v::vs) | _,_=>none):=(rfl)
@[go_sem] theorem mM (t:Nat):dH.ev F H (.tmp t)=F t:=(rfl)
@[go_sem] theorem aXJ (t:Nat):dH.ev F H (.cell t none)=(match F t with | some p=>(match loadCells H p 1 with | some [v]=>some v | _=>none) | none=>none):=(rfl)
@[go_sem] theorem aVT (t k:Nat):dH.ev F H (.cell t (some k))=(match F t with | some p=>(loadCells H p k).map .agg | none=>none):=(rfl)
end
section
variable {C:Ctx} {K:bV} {F:PF} {H Hs:PH} {S:Spec}
theorem bX {ops:List (aS × Bool)} (Hs:PH) (S:Spec) (c:Hs.le H) (h:wpD C Hs S ops (K .normal) F H):aC.wp C (.draw ops) K F H:=⟨Hs,S,c,h⟩
def eH:Spec:=fun _ _=>none
def dOp (C:Ctx) (Hs:PH) (S:Spec) (st:Bool) (op:POp) (d:Option Nat) (K:PF→PH→Prop) (F:PF) (H:PH):Prop:=(op.kind F).run C Hs S st (fun v H'=>K (F.put d v) H') H
@[go_sem] theorem aXO (K:PF→PH→Prop):wpD C Hs S [] K F H=K F H:=(rfl)
@[go_sem] theorem aXP (d:Option Nat) (op:POp) (st:Bool) (rest:List (aS × Bool)) (K:PF→PH→Prop):wpD C Hs S ((⟨d,op,none⟩,st)::rest) K F H=dOp C Hs S st op d (wpD C Hs S rest K) F H:=(rfl)
def xQ (C:Ctx) (Hs:PH) (S:Spec) (v:Option PV) (c st:Bool) (op:POp) (d:Option Nat) (rest:List (aS × Bool)) (K:PF→PH→Prop) (F:PF) (H:PH):Prop :=
 match v with
 | some (.bool b)=>if b=c then dOp C Hs S st op d (wpD C Hs S rest K) F H else wpD C Hs S rest K (F.put d (.tup [])) H
 | some (.tup [])=>wpD C Hs S rest K (F.put d (.tup [])) H
 | _=>False
@[go_sem] theorem aVV (d:Option Nat) (op:POp) (t:Nat) (c st:Bool) (rest:List (aS × Bool)) (K:PF→PH→Prop) :
  wpD C Hs S ((⟨d,op,some (t,c)⟩,st)::rest) K F H=xQ C Hs S (F t) c st op d rest K F H:=by
 have i:wpD C Hs S ((⟨d,op,some (t,c)⟩,st)::rest) K F H=((⟨d,op,some (t,c)⟩:aS).kind F).run C Hs S st (fun v H'=>wpD C Hs S rest K (F.put d v) H') H:=(rfl);rw[i];unfold aS.kind xQ;simp only;cases F t with
 | none=>rfl
 | some v =>
  cases v
  case bool b =>
   simp only;by_cases e:b=c
   ·rw[if_pos e,if_pos e]; rfl
   ·rw[if_neg e,if_neg e]; simp[Kind.run]
  case tup vs=>cases vs<;>simp[Kind.run]
  all_goals rfl
@[go_sem] theorem aVM (op:POp) (st:Bool) (d:Option Nat) (rest:List (aS × Bool)) (K:PF→PH→Prop):xQ C Hs S (some (.bool true)) true st op d rest K F H=dOp C Hs S st op d (wpD C Hs S rest K) F H:=(rfl)
@[go_sem] theorem aVJ (op:POp) (st:Bool) (d:Option Nat) (rest:List (aS × Bool)) (K:PF→PH→Prop):xQ C Hs S (some (.bool false)) false st op d rest K F H=dOp C Hs S st op d (wpD C Hs S rest K) F H:=(rfl)
@[go_sem] theorem aVL (op:POp) (st:Bool) (d:Option Nat) (rest:List (aS × Bool)) (K:PF→PH→Prop):xQ C Hs S (some (.bool true)) false st op d rest K F H=wpD C Hs S rest K (F.put d (.tup [])) H:=(rfl)
@[go_sem] theorem aVK (op:POp) (st:Bool) (d:Option Nat) (rest:List (aS × Bool)) (K:PF→PH→Prop):xQ C Hs S (some (.bool false)) true st op d rest K F H=wpD C Hs S rest K (F.put d (.tup [])) H:=(rfl)
@[go_sem] theorem aRW (c:Bool) (op:POp) (st:Bool) (d:Option Nat) (rest:List (aS × Bool)) (K:PF→PH→Prop):xQ C Hs S (some (.tup [])) c st op d rest K F H=wpD C Hs S rest K (F.put d (.tup [])) H:=(rfl)
@[go_sem] theorem aYO (x:aN) (st:Bool) (d:Option Nat) (K:PF→PH→Prop):dOp C Hs S st (.mv x) d K F H=bQ (aM (.mv x) F (if st then Hs else H)) d K F H:=(rfl)
@[go_sem] theorem aWV (x:aN) (st:Bool) (d:Option Nat) (K:PF→PH→Prop):dOp C Hs S st (.same x) d K F H=bQ (aM (.same x) F (if st then Hs else H)) d K F H:=(rfl)
@[go_sem] theorem aWU (c a b:aN) (st:Bool) (d:Option Nat) (K:PF→PH→Prop):dOp C Hs S st (.pick c a b) d K F H=bQ (aM (.pick c a b) F (if st then Hs else H)) d K F H:=(rfl)
@[go_sem] theorem aYD (o:BinOp) (x y:aN) (st:Bool) (d:Option Nat) (K:PF→PH→Prop):dOp C Hs S st (.bin o x y) d K F H=bQ (aM (.bin o x y) F (if st then Hs else H)) d K F H:=(rfl)
@[go_sem] theorem aYF (n:Bool) (x y:aN) (st:Bool) (d:Option Nat) (K:PF→PH→Prop):dOp C Hs S st (.eqb n x y) d K F H=bQ (aM (.eqb n x y) F (if st then Hs else H)) d K F H:=(rfl)
@[go_sem] theorem aYG (n:Bool) (c:List Sc) (x y:aN) (st:Bool) (d:Option Nat) (K:PF→PH→Prop):dOp C Hs S st (.eqs n c x y) d K F H=bQ (aM (.eqs n c x y) F (if st then Hs else H)) d K F H:=(rfl)
@[go_sem] theorem aYP (o:UnOp) (x:aN) (st:Bool) (d:Option Nat) (K:PF→PH→Prop):dOp C Hs S st (.un o x) d K F H=bQ (aM (.un o x) F (if st then Hs else H)) d K F H:=(rfl)
@[go_sem] theorem aWN (k:IntKind) (x:aN) (st:Bool) (d:Option Nat) (K:PF→PH→Prop):dOp C Hs S st (.conv k x) d K F H=bQ (aM (.conv k x) F (if st then Hs else H)) d K F H:=(rfl)
@[go_sem] theorem aVA (z:List PV) (ps:List (Nat × Nat × aN)) (st:Bool) (d:Option Nat) (K:PF→PH→Prop):dOp C Hs S st (.build z ps) d K F H=bQ (aM (.build z ps) F (if st then Hs else H)) d K F H:=(rfl)
@[go_sem] theorem aWS (n:Option Nat) (p:aN) (st:Bool) (d:Option Nat) (K:PF→PH→Prop):dOp C Hs S st (.load n p) d K F H=bQ (aM (.load n p) F (if st then Hs else H)) d K F H:=(rfl)
@[go_sem] theorem aTP (x:aN) (st:Bool) (d:Option Nat) (K:PF→PH→Prop):dOp C Hs S st (.a0M x) d K F H=bQ (aM (.a0M x) F (if st then Hs else H)) d K F H:=(rfl)
@[go_sem] theorem aTJ (c:Nat) (x:aN) (st:Bool) (d:Option Nat) (K:PF→PH→Prop):dOp C Hs S st (.a1C c x) d K F H=bQ (aM (.a1C c x) F (if st then Hs else H)) d K F H:=(rfl)
@[go_sem] theorem aVB (c:Nat) (n:Option Nat) (x:aN) (st:Bool) (d:Option Nat) (K:PF→PH→Prop):dOp C Hs S st (.field c n x) d K F H=bQ (aM (.field c n x) F (if st then Hs else H)) d K F H:=(rfl)
@[go_sem] theorem aWP (s:Nat) (x i:aN) (st:Bool) (d:Option Nat) (K:PF→PH→Prop):dOp C Hs S st (.a0Q s x i) d K F H=bQ (aM (.a0Q s x i) F (if st then Hs else H)) d K F H:=(rfl)
@[go_sem] theorem aWO (n s:Nat) (x i:aN) (st:Bool) (d:Option Nat) (K:PF→PH→Prop):dOp C Hs S st (.idxA n s x i) d K F H=bQ (aM (.idxA n s x i) F (if st then Hs else H)) d K F H:=(rfl)
@[go_sem] theorem aWQ (n s:Nat) (g:Bool) (x i:aN) (st:Bool) (d:Option Nat) (K:PF→PH→Prop):dOp C Hs S st (.idxV n s g x i) d K F H=bQ (aM (.idxV n s g x i) F (if st then Hs else H)) d K F H:=(rfl)
@[go_sem] theorem aTK (x i:aN) (st:Bool) (d:Option Nat) (K:PF→PH→Prop):dOp C Hs S st (.a1A x i) d K F H=bQ (aM (.a1A x i) F (if st then Hs else H)) d K F H:=(rfl)
@[go_sem] theorem aVE (s:Nat) (x:aN) (lo hi mx:Option aN) (st:Bool) (d:Option Nat) (K:PF→PH→Prop):dOp C Hs S st (.slice s x lo hi mx) d K F H=bQ (aM (.slice s x lo hi mx) F (if st then Hs else H)) d K F H:=(rfl)
@[go_sem] theorem aOK (x:aN) (lo hi:Option aN) (st:Bool) (d:Option Nat) (K:PF→PH→Prop):dOp C Hs S st (.a0W x lo hi) d K F H=bQ (aM (.a0W x lo hi) F (if st then Hs else H)) d K F H:=(rfl)
@[go_sem] theorem aYH (x:aN) (st:Bool) (d:Option Nat) (K:PF→PH→Prop):dOp C Hs S st (.len x) d K F H=bQ (aM (.len x) F (if st then Hs else H)) d K F H:=(rfl)
@[go_sem] theorem aTL (x:aN) (st:Bool) (d:Option Nat) (K:PF→PH→Prop):dOp C Hs S st (.a0Z x) d K F H=bQ (aM (.a0Z x) F (if st then Hs else H)) d K F H:=(rfl)
@[go_sem] theorem aWR (x:aN) (st:Bool) (d:Option Nat) (K:PF→PH→Prop):dOp C Hs S st (.lenM x) d K F H=bQ (aM (.lenM x) F (if st then Hs else H)) d K F H:=(rfl)
@[go_sem] theorem aVC (n:Bool) (x:aN) (st:Bool) (d:Option Nat) (K:PF→PH→Prop):dOp C Hs S st (.isNil n x) d K F H=bQ (aM (.isNil n x) F (if st then Hs else H)) d K F H:=(rfl)
@[go_sem] theorem aTI (x:aN) (st:Bool) (d:Option Nat) (K:PF→PH→Prop):dOp C Hs S st (.a1J x) d K F H=bQ (aM (.a1J x) F (if st then Hs else H)) d K F H:=(rfl)
@[go_sem] theorem aRU (x:aN) (i:Nat) (st:Bool) (d:Option Nat) (K:PF→PH→Prop):dOp C Hs S st (.extract x i) d K F H=bQ (aM (.extract x i) F (if st then Hs else H)) d K F H:=(rfl)
@[go_sem] theorem aTO (m:Bool) (x y:aN) (st:Bool) (d:Option Nat) (K:PF→PH→Prop):dOp C Hs S st (.a0U m x y) d K F H=bQ (aM (.a0U m x y) F (if st then Hs else H)) d K F H:=(rfl)
@[go_sem] theorem aWT (n:Nat) (cs:List aN) (st:Bool) (d:Option Nat) (K:PF→PH→Prop):dOp C Hs S st (.mkfn n cs) d K F H=bQ (aM (.mkfn n cs) F (if st then Hs else H)) d K F H:=(rfl)
@[go_sem] theorem aTM (sh:MSh) (z:PV) (x k:aN) (ok:Bool) (st:Bool) (d:Option Nat) (K:PF→PH→Prop):dOp C Hs S st (.lookup sh z x k ok) d K F H=bQ (aM (.lookup sh z x k ok) F (if st then Hs else H)) d K F H:=(rfl)
@[go_sem] theorem aNT (x:aN) (st:Bool) (d:Option Nat) (K:PF→PH→Prop):dOp C Hs S st (.a0N x) d K F H=bQ (aM (.a0N x) F (if st then Hs else H)) d K F H:=(rfl)
@[go_sem] theorem aWM (x:aN) (st:Bool) (d:Option Nat) (K:PF→PH→Prop):dOp C Hs S st (.box true x) d K F H=bQ (aM (.box true x) F (if st then Hs else H)) d K F H:=(rfl)
@[go_sem] theorem aRT (s l:Nat) (z:List PV) (ps:List (Nat × aN)) (st:Bool) (d:Option Nat) (K:PF→PH→Prop):dOp C Hs S st (.a0F true s l z ps) d K F H=bQ (aM (.a0F true s l z ps) F (if st then Hs else H)) d K F H:=(rfl)
@[go_sem] theorem aUZ (cs:List PV) (st:Bool) (d:Option Nat) (K:PF→PH→Prop):dOp C Hs S st (.alloc cs) d K F H=mG (cR (.alloc cs) F) d K F H:=(rfl)
@[go_sem] theorem aRV (s b:Nat) (z:List PV) (l c:aN) (st:Bool) (d:Option Nat) (K:PF→PH→Prop):dOp C Hs S st (.a0H s b z l c) d K F H=mG (cR (.a0H s b z l c) F) d K F H:=(rfl)
@[go_sem] theorem aVD (sh:MSh) (st:Bool) (d:Option Nat) (K:PF→PH→Prop):dOp C Hs S st (.a1F sh) d K F H=mG (cR (.a1F sh) F) d K F H:=(rfl)
@[go_sem] theorem aYE (x:aN) (st:Bool) (d:Option Nat) (K:PF→PH→Prop):dOp C Hs S st (.box false x) d K F H=mG (cR (.box false x) F) d K F H:=(rfl)
@[go_sem] theorem aTH (s l:Nat) (z:List PV) (ps:List (Nat × aN)) (st:Bool) (d:Option Nat) (K:PF→PH→Prop):dOp C Hs S st (.a0F false s l z ps) d K F H=mG (cR (.a0F false s l z ps) F) d K F H:=(rfl)
@[go_sem] theorem aVF (n:Nat) (p x:aN) (st:Bool) (d:Option Nat) (K:PF→PH→Prop):dOp C Hs S st (.store n p x) d K F H=bW (.store n p x) F H (fun r H'=>Hs.le H'∧K (F.put d r) H'):=(rfl)
@[go_sem] theorem aTG (s b:Nat) (x y:aN) (st:Bool) (d:Option Nat) (K:PF→PH→Prop):dOp C Hs S st (.append s b x y) d K F H=bW (.append s b x y) F H (fun r H'=>Hs.le H'∧K (F.put d r) H'):=(rfl)
@[go_sem] theorem aTN (sh:MSh) (x k v:aN) (st:Bool) (d:Option Nat) (K:PF→PH→Prop):dOp C Hs S st (.a0R sh x k v) d K F H=bW (.a0R sh x k v) F H (fun r H'=>Hs.le H'∧K (F.put d r) H'):=(rfl)
theorem HX:H.only []=PH.nil:=PH.ext fun o=>by simp[PH.only,PH.nil]
theorem cK {name:Nat} {vs:List PV} {v:PV} {args:List aN} {st:Bool} {d:Option Nat} {K:PF→PH→Prop} (e:S name vs=some ([],fun _=>aH v)) (h:aF C name vs .nil (aH v)) (i:aN.evs F args=some vs)
  (c:Hs.le H) (l:K (F.put d v) H):dOp C Hs S st (.call name args) d K F H:=by
 refine⟨vs,[],fun _=>aH v,i,e,fun o p=>by simp at p,by rw[HX]; exact h,fun G=>⟨v,.nil,⟨rfl,rfl⟩,fun o x u=>by simp[PH.nil] at u⟩,?_⟩;rintro r H' ⟨rfl,rfl⟩ -;rw[HX,PH.tG];exact⟨c,l⟩
end
theorem wrap_i64 {n:Int} (c:-9223372036854775808≤n) (d:n≤9223372036854775807):IntKind.i64.wrap n=n:=by
 have e:IntKind.i64.wrap n=if decide (n%18446744073709551616≥9223372036854775808)=true then n%18446744073709551616-18446744073709551616 else n%18446744073709551616:=by simp[IntKind.wrap,IntKind.bits,IntKind.signed]
 rw[e];split
 ·rename_i h; simp only[decide_eq_true_eq] at h; omega
 ·rename_i h; simp only[decide_eq_true_eq] at h; omega
theorem XT {k:Nat} (h:k≤9223372036854775807):IntKind.i64.wrap (k:Int)=k:=wrap_i64 Om Om
theorem dC {k:Nat} (h:k<9223372036854775807):IntKind.i64.wrap ((k:Int)+1)=((k+1:Nat):Int):=by
 rw[wrap_i64 Om Om]; omega
theorem wZz (k:Nat) (h:k<9223372036854775807:=by omega):IntKind.i64.wrap ((k:Int)+1)=((k+1:Nat):Int):=dC h
theorem wrap_u64 {n:Int} (c:0≤n) (d:n<18446744073709551616):IntKind.u64.wrap n=n:=by
 have e:IntKind.u64.wrap n=n%18446744073709551616:=by simp[IntKind.wrap,IntKind.bits,IntKind.signed]
 rw[e]; omega
abbrev ints (xs:List Int):PV:=.sl 1 (xs.map fun n=>[.int .i64 n])
open Go Go.RowKit
inductive CT where
 | int (k:IntKind)
 | bool
 | str
 | sl (es:List CT)
 deriving Inhabited
def pW (P:Program) (rec:TypeId→Option (List CT)):Nat→List Field→Option (List CT)
 | _,[]=>some []
 | k,f::c=>match rec f.type with
  | some cts=>if f.offset=k∧P.cellsOf f.type=cts.length then (pW P rec (k+cts.length) c).map (cts++·) else none
  | none=>none
def fY (P:Program):Nat→TypeId→Option (List CT)
 | 0,_=>none
 | n+1,t=>match P.underlying t with
  | some .bool=>some [.bool]
  | some (.int k)=>some [.int k]
  | some .string=>some [.str]
  | some (.slice e)=>match fY P n e with
   | some cts=>if P.cellsOf e=cts.length∧0<cts.length then some [.sl cts] else none
   | none=>none
  | some (.struct c)=>match pW P (fY P n) 0 c.toList with
   | some cts=>if P.cellsOf t=cts.length then some cts else none
   | none=>none
  | some (.array k e)=>match fY P n e with
   | some cts=>if P.cellsOf e=cts.length∧P.cellsOf t=k*cts.length then some (a1M k cts).flatten else none
   | none=>none
  | _=>none
inductive PV.Ty:CT→PV→Prop
 | int {k:IntKind} {n:Int} (h:(Lit.int k n).wf=true):PV.Ty (.int k) (.int k n)
 | bool (b:Bool):PV.Ty .bool (.bool b)
 | str {s:List UInt8} (h:s.length≤maxLen):PV.Ty .str (.str s)
 | sl {es:List CT} {rows:List (List PV)} (hr:∀ r∈rows,r.length=es.length) (hl:rows.length≤maxLen) (h:∀ (i j:Nat) pv ct,at2 rows i j=some pv→es[j]?=some ct→PV.Ty ct pv):PV.Ty (.sl es) (.sl es.length rows)
def Env.of (W:World) (num:Nat→FuncId):Env:=⟨fun b=>match W.heap[b]? with | some (.cells cs _ _)=>some cs | _=>none,fun _=>none,num⟩
theorem bH.start (W:World) (num:Nat→FuncId):bH (Env.of W num) PH.nil W:=by
 refine⟨fun b cs d=>⟨fun x e=>(by cases e),?_⟩,fun o x e=>(by cases e),fun o n h=>(by cases h)⟩;simp only[Env.of] at d;split at d
 ·rename_i c ty fr h;cases d;exact⟨ty,fr,h⟩
 ·cases d
structure Reads (E:Env) (cts:List CT) (pvs:List PV) (cs:List Value):Prop where
 lp:pvs.length=cts.length
 lc:cs.length=cts.length
 rep:∀ (j:Nat) pv c,pvs[j]?=some pv→cs[j]?=some c→aY E pv c∧c.oneCell'=true
 ty:∀ (j:Nat) pv ct,pvs[j]?=some pv→cts[j]?=some ct→PV.Ty ct pv
theorem Reads.one {E:Env} {ct:CT} {pv:PV} {c:Value} (h:aY E pv c) (d:c.oneCell'=true) (e:PV.Ty ct pv):Reads E [ct] [pv] [c]:=by
 refine⟨rfl,rfl,fun j p u a b=>?_,fun j p u a b=>?_⟩
 ·cases j with
  | zero=>simp at a b; subst a; subst b; exact⟨h,d⟩
  | succ j=>simp at a
 ·cases j with
  | zero=>simp at a b; subst a; subst b; exact e
  | succ j=>simp at a
theorem Reads.append {E:Env} {c e:List CT} {d w:List PV} {i l:List Value} (h:Reads E c d i) (k:Reads E e w l):Reads E (c++e) (d++w) (i++l):=by
 refine⟨by simp[h.lp,k.lp],by simp[h.lc,k.lc],fun j p u a b=>?_,fun j p u a b=>?_⟩
 ·rcases a2D j d.length with hj | hj
  ·rw[a3Y hj] at a;rw[a3Y (by rw[h.lc,← h.lp]; exact hj)] at b;exact h.rep j p u a b
  ·rw[a4E hj] at a;rw[a4E (by rw[h.lc,← h.lp]; exact hj)] at b;rw[show j-i.length=j-d.length by rw[h.lc,h.lp]] at b;exact k.rep _ p u a b
 ·rcases a2D j d.length with hj | hj
  ·rw[a3Y hj] at a;rw[a3Y (by rw[← h.lp]; exact hj)] at b;exact h.ty j p u a b
  ·rw[a4E hj] at a;rw[a4E (by rw[← h.lp]; exact hj)] at b;rw[show j-c.length=j-d.length by rw[h.lp]] at b;exact k.ty _ p u a b
theorem YW {W:World} {num:Nat→FuncId} {a:Addr} {v:Value} (h:W.cell? a=some v):a.spot=none∧(Env.of W num).cell a.block a.off=some v:=by
 unfold World.cell? at h;split at h
 ·rename_i c ty fr d;split at h
  ·cases h
  ·rename_i e;refine⟨by simpa using e,?_⟩;simp only[Env.cell,Env.of,d];exact h
 ·cases h
inductive PV.Len (N:Nat):PV→Prop
 | flat {pv:PV} (h1:∀ n rows,pv≠.sl n rows) (h2:∀ vs,pv≠.agg vs):PV.Len N pv
 | sl {n:Nat} {rows:List (List PV)} (h:rows.length≤N) (hr:∀ r∈rows,∀ v∈r,PV.Len N v):PV.Len N (.sl n rows)
 | agg {vs:List PV} (h:∀ v∈vs,PV.Len N v):PV.Len N (.agg vs)
theorem PV.Len.int {N:Nat} (k:IntKind) (n:Int):PV.Len N (.int k n):=.flat (fun _ _ h=>by cases h) fun _ h=>by cases h
theorem PV.Len.bool {N:Nat} (b:Bool):PV.Len N (.bool b):=.flat (fun _ _ h=>by cases h) fun _ h=>by cases h
theorem PV.Len.str {N:Nat} (s:List UInt8):PV.Len N (.str s):=.flat (fun _ _ h=>by cases h) fun _ h=>by cases h
theorem PV.Len.rows {N n:Nat} {rows:List (List PV)} (h:PV.Len N (.sl n rows)):rows.length≤N∧∀ r∈rows,∀ v∈r,PV.Len N v:=by
 cases h with
 | flat c _=>exact absurd rfl (c n rows)
 | sl c d=>exact⟨c,d⟩
theorem PV.Len.parts {N:Nat} {vs:List PV} (h:PV.Len N (.agg vs)):∀ v∈vs,PV.Len N v:=by
 cases h with
 | flat _ c=>exact absurd rfl (c vs)
 | agg h=>exact h
structure TU {H:Type} (P:Program) (N:Nat) (S:TypeId→DataW H→Prop):Prop where
 sl:∀ t e elems spare,P.underlying t=some (.slice e)→S t (.slice elems spare)→elems.length≤N∧∀ d∈elems,S e d
 st:∀ t fs parts,P.underlying t=some (.struct fs)→S t (.agg parts)→∀ (i:Nat) g d,fs[i]?=some g→parts[i]?=some d→S g.type d
 ar:∀ t n e parts,P.underlying t=some (.array n e)→S t (.agg parts)→∀ d∈parts,S e d
theorem QA {H:Type} {P:Program} {A:(TypeId→DataW H→Prop)→Prop} {pv:PV} (h:∀ {N},PV.Len N pv):∀ N S,TU P N S→A S→∀ v∈[pv],PV.Len N v:=fun N S _ _ v c=>by
 obtain rfl:=a3O.1 c;exact h
theorem bo {P:Program} {E:Env} {rec:TypeId→Option (List CT)} {H:Type} {f:TypeId→List Value→Option (DataW H × List MemPlace)}
  (F:∀ t cs x cts,f t cs=some x→rec t=some cts→∃ d,Reads E cts d cs∧∀ N S,TU P N S→S t x.1→∀ v∈d,PV.Len N v) (cs:List Value) :
  ∀ (i:List Field) (k:Nat) (cts:List CT),(∀ g∈i,∃ x,f g.type ((cs.drop g.offset).take (P.cellsOf g.type))=some x)→pW P rec k i=some cts →
   ∃ d,Reads E cts d ((cs.drop k).take cts.length)∧∀ N S,TU P N S→(∀ g∈i,∀ x,f g.type ((cs.drop g.offset).take (P.cellsOf g.type))=some x→S g.type x.1)→∀ v∈d,PV.Len N v
 | [],k,cts,_,h=>by simp[pW] at h; subst h;exact⟨[],⟨rfl,by simp,fun j p c a=>by simp at a,fun j p c a=>by simp at a⟩,fun _ _ _ _ v hv=>by cases hv⟩
 | g::i,k,cts,A,h=>by
  simp only[pW] at h;split at h
  ·rename_i J M;split at h
   ·rename_i y;simp only[a1Q] at h;obtain⟨K,O,rfl⟩:=h;obtain⟨x,B⟩:=A g (by simp);obtain⟨U,r1,Q⟩:=F _ _ _ _ B M;rw[y.1,y.2] at r1;obtain⟨V,r2,R⟩:=bo F cs i (k+J.length) K (fun l e=>A l (by simp[e])) O;refine⟨U++V,?_,fun N S u w v hv=>?_⟩
    ·have:=r1.append r2;rw[a1P,List.take_add,List.drop_drop];exact this
    ·rcases a3A.1 hv with hv | hv
     ·exact Q N S u (w g (by simp) x B) v hv
     ·exact R N S u (fun l e=>w l (by simp[e])) v hv
   ·cases h
  ·cases h
theorem qy {E:Env} {cts:List CT} {R:List PV→Prop} (e:R []) (l:∀ a b,R a→R b→R (a++b)) (cs:List Value) :
  ∀ n:Nat,(∀ i,i<n→∃ d,Reads E cts d ((cs.drop (i*cts.length)).take cts.length)∧R d)→∃ d,Reads E (a1M n cts).flatten d (cs.take (n*cts.length))∧R d
 | 0,_=>⟨[],⟨rfl,by simp,fun j p c a=>by simp at a,fun j p c a=>by simp at a⟩,e⟩
 | n+1,h=>by obtain⟨u,r1,x⟩:=qy e l cs n fun i hi=>h i Om;obtain⟨w,r2,y⟩:=h n Om;refine⟨u++w,?_,l _ _ x y⟩;rw[List.replicate_succ',List.flatten_append,List.flatten_singleton,a4J,List.take_add];exact r1.append r2
theorem aCI {H:Type} {enc:TypeId × Value→H} {P:Program} {W:World} {M:Nat} {sp:Nat→Bool} {α:Bool} (num:Nat→FuncId) :
  ∀ (fuel m:Nat) (t:TypeId) (cs:List Value) (x:DataW H × List MemPlace) (cts:List CT),DataW.trod enc P W M sp α fuel t cs=some x→fY P m t=some cts→∃ c,Reads (Env.of W num) cts c cs∧∀ N S,TU P N S→S t x.1→∀ v∈c,PV.Len N v:=by
 intro fuel
 induction fuel with
 | zero=>intro m t cs x cts h; simp[DataW.trod] at h
 | succ fuel ih =>
  intro m t cs x cts h p;cases m with
  | zero=>simp[fY] at p
  | succ m =>
   simp only[fY] at p;split at p
   ·rename_i O;cases p;obtain⟨b,rfl,-⟩:=DataW.trod_bool O h;exact⟨[.bool b],.one (.bool b) rfl (.bool b),QA (.bool b)⟩
   ·rename_i k O;cases p;obtain⟨n,rfl,-,hw⟩:=DataW.trod_int O h;exact⟨[.int k n],.one (.int k n) rfl (.int hw),QA (.int k n)⟩
   ·rename_i O;cases p;obtain⟨s,rfl,-,hs⟩:=DataW.trod_string O h;exact⟨[.str s.data.toList],.one (.str s) rfl (.str (by rw[a4M]; exact hs)),QA (.str _)⟩
   ·rename_i e O;split at p
    ·rename_i l he;split at p
     ·rename_i u;cases p;rcases DataW.trod_slice O h with ⟨rfl,-⟩ | ⟨a,len,cap,elems,rest,n,hn,rfl,X,-,β,hcap,hel,helem,-⟩
      ·refine⟨[.sl l.length []],.one ?_ rfl (.sl (by simp) (by simp) (by simp[at2])),QA (.sl (a1X _) (fun r U=>by cases U))⟩;exact .sl (fun _ _=>.bool false) (by simp) (by decide) (by simp) (by simp) (fun _ _=>rfl) (by simp[at2])
      ·cases hn;have each:∀ i,i<len→∃ c Y,(Reads (Env.of W num) l c Y∧∀ N S,TU P N S→(∀ d∈elems.map (·.1),S e d)→∀ v∈c,PV.Len N v)∧W.cells? M (a.add (i*l.length)) l.length=some Y:=by intro i hi;have h1:=helem i hi;rw[a1V Om,a4Z] at h1;obtain⟨Y,h2,h3⟩:=h1;obtain⟨c,r,rl⟩:=ih m e Y _ l h3 he;rw[u.1] at h2;exact⟨c,Y,⟨r,fun N S F J=>rl N S F (J _ (a2G.2 ⟨_,a1N _,rfl⟩))⟩,h2⟩
       have γ:∀ i,∃ c,∃ Y,i<len→(Reads (Env.of W num) l c Y∧∀ N S,TU P N S→(∀ d∈elems.map (·.1),S e d)→∀ v∈c,PV.Len N v)∧W.cells? M (a.add (i*l.length)) l.length=some Y:=by
        intro i;by_cases hi:i<len
        ·obtain⟨c,Y,h1⟩:=each i hi;exact⟨c,Y,fun _=>h1⟩
        ·exact⟨[],[],fun h=>(hi h).elim⟩
       obtain⟨pf,ν⟩:=Classical.axiomOfChoice γ;obtain⟨uf,K⟩:=Classical.axiomOfChoice ν;have δ:∀ i j pv,at2 ((a1S len).map pf) i j=some pv→i<len∧(pf i)[j]?=some pv:=by
        intro i j pv A;unfold at2 at A;rw[a2K,a4Z] at A;obtain⟨r,U,A⟩:=A;rw[a1Q] at U;obtain⟨i',Q,rfl⟩:=U;have hi:i<len:=by simpa using (a2P.1 Q).1
        have:i'=i:=by simp[hi] at Q; exact Q.symm
        subst this;exact⟨hi,A⟩
       have hu2:∀ i j pv,at2 ((a1S len).map pf) i j=some pv→∃ v,(uf i)[j]?=some v∧j<l.length∧aY (Env.of W num) pv v∧v.oneCell'=true:=by
        intro i j pv A;obtain⟨hi,V⟩:=δ i j pv A;obtain⟨⟨r,-⟩,-⟩:=K i hi;have hj:j<l.length:=by rw[← r.lp]; exact (a2P.1 V).1
        have B:(uf i)[j]?=some ((uf i)[j]'(by rw[r.lc]; exact hj)):=a1V _;exact⟨_,B,hj,(r.rep j pv _ V B).1,(r.rep j pv _ V B).2⟩
       have Z:((a1S len).map pf).length=len:=by simp
       refine⟨[.sl l.length ((a1S len).map pf)],.one ?_ rfl (.sl (fun r U=>?_) (by rw[Z]; omega) fun i j pv ct A ι=>?_),fun N S F J v B=>?_⟩
       ·have ζ:=aY.sl (E:=Env.of W num) (size:=l.length) (rows:=(a1S len).map pf) (a:=some a) (cap:=cap)
         (fun i j=>match at2 ((a1S len).map pf) i j with | some _=>((uf i)[j]?).getD (.bool false) | none=>.bool false) (by rw[Z]; exact β) hcap
         (fun r U=>by simp only[a2G,a3B] at U;obtain⟨i,hi,rfl⟩:=U;exact (K i hi).1.1.lp)
         (fun μ=>by
          have κ:0<len:=by
           rcases a4D len with h | h
           ·subst h; exact (μ rfl).elim
           ·exact h
          have ε:a.spot=none:=by obtain⟨⟨r,-⟩,p⟩:=K 0 κ;have h3:=(World.cells?_some p).2.2 0 u.2;rw[Nat.zero_mul,Addr.add_zero',Addr.add_zero',a1V (by rw[r.lc]; exact u.2)] at h3;exact (YW (num:=num) h3).1
          refine⟨a,rfl,ε,fun i j pv A=>?_⟩;obtain⟨hi,-⟩:=δ i j pv A;obtain⟨v,B,hj,-⟩:=hu2 i j pv A;have h3:=(World.cells?_some (K i hi).2).2.2 j hj;rw[mU ε,add_plain,add_plain,B] at h3;have h4:=(YW (num:=num) h3).2;simp only[A,B,a4G];exact h4)
         (fun i j=>by
          split
          ·rename_i pv A;obtain⟨v,B,-,-,h1⟩:=hu2 i j pv A;simp[B,h1]
          ·rfl)
         (fun i j pv A=>by obtain⟨v,B,-,h1,-⟩:=hu2 i j pv A;simp only[A,B,a4G];exact h1)
        rw[Z] at ζ;exact ζ
       ·simp only[a2G,a3B] at U;obtain⟨i,hi,rfl⟩:=U;exact (K i hi).1.1.lp
       ·obtain⟨hi,V⟩:=δ i j pv A;exact (K i hi).1.1.ty j pv ct V ι
       ·rw[X] at J;obtain⟨m1,m2⟩:=F.sl t e _ _ O J;obtain rfl:=a3O.1 B;refine .sl (by rw[Z]; simpa [hel] using m1) fun r U w hw=>?_;simp only[a2G,a3B] at U;obtain⟨i,hi,rfl⟩:=U;exact (K i hi).1.2 N S F m2 w hw
     ·cases p
    ·cases p
   ·rename_i fs O;split at p
    ·rename_i ο η;split at p
     ·rename_i β;cases p;obtain⟨xs,n,hn,X,θ,ξ,hx⟩:=DataW.trod_struct O h;cases hn;have:=bo (f:=DataW.trod enc P W M sp α fuel) (fun t cs x cts a b=>ih m t cs x cts a b) cs fs.toList 0 cts (fun g hg=>by obtain⟨i,hi,rfl⟩:=a3D hg;have:=hx i fs.toList[i] (by simp at hi; simp[hi]);rw[this];exact⟨_,a1V (by simp at hi; omega)⟩) η
      rw[a2S,a2C Om] at this;obtain⟨c,r,rl⟩:=this;refine⟨c,r,fun N S F J=>rl N S F fun g hg y hy=>?_⟩;rw[X] at J;obtain⟨i,hi,rfl⟩:=a3D hg;have Q:i<fs.size:=by simpa using hi
      have:=hx i fs.toList[i] (by simp[Q]);rw[hy,a1V Om] at this;refine F.st t fs _ O J i fs.toList[i] y.1 (by simp[Q]) ?_;rw[a2K,a1V Om,← this]; rfl
     ·cases p
    ·cases p
   ·rename_i k e O;split at p
    ·rename_i l he;split at p
     ·rename_i u;cases p;obtain⟨xs,n,hn,X,θ,ξ,hx⟩:=DataW.trod_array O h;cases hn;obtain⟨c,r,hq⟩:=qy (E:=Env.of W num) (cts:=l) (R:=fun c=>∀ N S,TU P N S→(∀ d:DataW H,d∈xs.map (fun y:DataW H × List MemPlace=>y.1)→S e d)→∀ v∈c,PV.Len N v) (fun _ _ _ _ v B=>by cases B)
       (fun a b ha hb N S F J v B=>(a3A.1 B).elim (ha N S F J v) (hb N S F J v)) cs k fun i hi=>by have h2:=hx i hi;rw[a1V Om,u.1] at h2;obtain⟨c,r,rl⟩:=ih m e _ _ l h2 he;exact⟨c,r,fun N S F J=>rl N S F (J _ (a2G.2 ⟨_,a1N _,rfl⟩))⟩
      rw[a2C Om] at r;exact⟨c,r,fun N S F J=>hq N S F (F.ar t k e _ O (by rw[X] at J; exact J))⟩
     ·cases p
    ·cases p
   ·cases p
theorem it {H:Type} {enc:TypeId × Value→H} {P:Program} {W:World} {c:Nat} {l:Nat→Bool} {d:Bool} (num:Nat→FuncId)
  (fuel m:Nat) (t:TypeId) (cs:List Value) (x:DataW H × List MemPlace) (cts:List CT) (h:DataW.trod enc P W c l d fuel t cs=some x) (i:fY P m t=some cts):∃ e,Reads (Env.of W num) cts e cs :=
 (aCI num fuel m t cs x cts h i).imp fun _ r=>r.1
open Go Go.RowKit Go.ChangeShapes Go.WideShapes
theorem Ext.below {E d:Env} {H':PH} {w c:World} (h:Ext E PH.nil w d H' c):Below w.heap.size w c :=
 ⟨h.os,h.tape,h.output,h.size,fun k e=>h.block k e rfl⟩
theorem Below.trodAll {H:Type} {enc:TypeId × Value→H} {P:Program} (w:laidOutB P=true) {W e:World} (l:Below W.heap.size W e) :
  ∀ {ts:List TypeId} {vs:List Value} {ds:List (DataW H)} {ps:List MemPlace},(∀ t∈ts,P.readableRec t=true∧t<P.types.size)→DataW.TrodAll enc P W 0 (fun _=>true) true ts vs ds ps →
   DataW.TrodAll enc P e 0 (fun b=>decide (b<W.heap.size)) true ts vs ds ps
 | [],[],[],ps,_,h=>h
 | [],_::_,_,_,_,h=>h.elim
 | [],[],_::_,_,_,h=>h.elim
 | _::_,[],_,_,_,h=>h.elim
 | _::_,_::_,[],_,_,h=>h.elim
 | t::ts,v::vs,d::ds,ps,c,h=>by obtain⟨p,q,i,y,rfl⟩:=h;have hlt:∀ x∈p,x.block<W.heap.size:=fun x B=>DataW.TrodAll.lt (ts:=[t]) (vs:=[v]) (ds:=[d]) ⟨p,[],i,rfl,(a3J p).symm⟩ x B;exact⟨p,q,Below.trod w (c t (by simp)).1 (c t (by simp)).2 i l hlt,Below.trodAll w l (fun u A=>c u (by simp[A])) y,rfl⟩
theorem alZ {H:Type} {enc:TypeId × Value→H} {P:Program} {f:Func} {s:ChangeSpec} {c apart fresh:Bool} {W y:World} {args:Array Value} {ds e:List (DataW H)} {d:List MemPlace} {bt:TypeId}
  (F:laidOutB P=true) (hW:DataW.Whole enc P f.params.toList s.vars apart W args.toList ds e d) (B:Below W.heap.size W y) (u:∀ t∈f.params.toList,P.readableRec t=true∧t<P.types.size)
  (l:f.resultTypes=#[bt]) (i:P.underlying bt=some .bool) (w:s.vars=[]) (K:(s.fn H (ds++e)).results=[.lit (.bool true)]) (E:(s.fn H (ds++e)).args=ds) (x:(s.fn H (ds++e)).vars=[]) :
  s.post enc P f apart fresh c false W args (.bool true) y:=by
 obtain⟨p,q,A,hV,rfl,M,J⟩:=hW;rw[w] at hV;obtain⟨rfl,rfl⟩:=trodVars_none hV;refine⟨ds,[],p++[],[],p,[],⟨p,[],A,by rw[w]; exact hV,rfl,M,J⟩,?_,?_,?_,B.frame _,fun h=>by cases h⟩
 ·rw[K,l];refine⟨[],[],⟨1,?_⟩,rfl,rfl⟩;simp[DataW.trod,i,Value.cells,Value.resultList]
 ·rw[E];exact Below.trodAll F B u A
 ·rw[w,x];exact rfl
theorem ajP {C:Ctx} {name:Nat} {W:World} {args:Array Value} {d:List PV} (h:aF C name d PH.nil (aH (.bool true))) (u:eI (Env.of W C.num) d args.toList) :
  Calls C.P (C.num name) args W fun e i=>e=.returned (.bool true)∧Below W.heap.size W i :=
 (h.2 (Env.of W C.num) W args rfl (bH.start W C.num) u).mono fun e i p=>by obtain⟨v,pv,w,H',rfl,-,c,l,rfl,-⟩:=p;cases c;exact⟨rfl,l.below⟩
theorem Xr {H:Type} {enc:TypeId × Value→H} {P:Program} {W:World} {r:Reach} {i:Nat} {F:Nat→Bool} {l:Bool} (num:Nat→FuncId) {t:TypeId} {v:Value} {d:DataW H} {ps:List MemPlace} {y:Array Field} {n:Nat} {cts:List CT}
  (w:P.underlying t=some (.struct y)) (p:Value.okWide P W r i t v) (B:DataW.Trod enc P W 0 F l t v d ps) (A:fY P n t=some cts) :
  ∃ c,aY (Env.of W num) (.agg c) v∧c.length=cts.length∧∀ (j:Nat) pv ct,c[j]?=some pv→cts[j]?=some ct→PV.Ty ct pv:=by
 obtain⟨cs,rfl,-⟩:=okWide_struct w p;obtain⟨fuel,h⟩:=B;obtain⟨c,e⟩:=it num fuel n t _ _ cts h A;have E:cs.size=c.length:=by have:=e.lc; rw[e.lp,← this]; simp[Value.cells]
 refine⟨c,.agg cs E (fun u w=>?_) (fun j pv u a b=>(e.rep j pv u a (by simpa [Value.cells] using b)).1),e.lp,e.ty⟩;obtain⟨j,x,rfl⟩:=a3D w;simp only[a4M] at x;exact (e.rep j _ _ (a1V Om) (by simp[Value.cells,x])).2
theorem sS {H:Type} {enc:TypeId × Value→H} {P:Program} {W:World} {x:Nat→Bool} {c:Bool} (num:Nat→FuncId) {t:TypeId} {v:Value} {d:DataW H} {ps:List MemPlace} {n:Nat} {ct:CT}
  (w:v.cells=#[v]) (p:DataW.Trod enc P W 0 x c t v d ps) (l:fY P n t=some [ct]):∃ pv,aY (Env.of W num) pv v∧PV.Ty ct pv:=by
 obtain⟨fuel,h⟩:=p;obtain⟨i,e⟩:=it num fuel n t _ _ [ct] h l;rw[w] at e;have u:=e.lp;cases i with
 | nil=>simp at u
 | cons pv rest=>exact⟨pv,(e.rep 0 pv v rfl rfl).1,e.ty 0 pv ct rfl rfl⟩
def InK (k:IntKind) (n:Int):Prop:=k.min≤n∧n≤k.max
def Zf (k:IntKind) (xs:List Int):PV:=.sl 1 (xs.map fun n=>[.int k n])
theorem Ty.lg {k:IntKind} {pv:PV} (h:PV.Ty (.int k) pv):∃ n,pv=.int k n∧InK k n:=by
 cases h with
 | int h=>simp only[Lit.wf,a1Z,decide_eq_true_eq] at h; exact⟨_,rfl,h⟩
theorem Ty.aKL {ct:CT} {pv:PV} (h:PV.Ty (.sl [ct]) pv):∃ vs:List PV,pv=.sl 1 (vs.map fun v=>[v])∧vs.length≤maxLen∧∀ v∈vs,PV.Ty ct v:=by
 cases h with
 | @sl y rows w u h =>
 have c:∀ r∈rows,r=[r.headD .junk]:=fun r d=>by
  have:=w r d
  match r,this with
  | [x],_=>rfl
 have e:rows=(rows.map fun r=>r.headD .junk).map fun v=>[v]:=by rw[List.map_map];apply a4O (by simp);intro n p A;simp only[a3L,Function.comp];exact c _ (a1N p)
 refine⟨rows.map fun r=>r.headD .junk,by rw[← e]; rfl,by simpa using u,fun v l=>?_⟩;rw[a2G] at l;obtain⟨r,d,rfl⟩:=l;obtain⟨i,hi,rfl⟩:=a3D d;refine h i 0 _ ct ?_ rfl;have:=c rows[i] d;unfold at2;rw[a1V hi,a5A,this];rfl
theorem Ty.Fv {k:IntKind} {pv:PV} (h:PV.Ty (.sl [.int k]) pv):∃ xs:List Int,pv=Zf k xs∧xs.length≤maxLen∧∀ x∈xs,InK k x:=by
 obtain⟨vs,rfl,u,d⟩:=Ty.aKL h;have e:vs=(vs.map fun v=>match v with | .int _ n=>n | _=>0).map fun n=>PV.int k n:=by rw[List.map_map];apply a4O (by simp);intro n l w;simp only[a3L,Function.comp];obtain⟨m,c,-⟩:=Ty.lg (d _ (a1N l));rw[c]
 refine⟨vs.map fun v=>match v with | .int _ n=>n | _=>0,?_,by simpa using u,fun x i=>?_⟩
 ·unfold Zf
  conv=>lhs; rw[e]
  rw[List.map_map];rfl
 ·rw[a2G] at i;obtain⟨v,c,rfl⟩:=i;obtain⟨m,rfl,p⟩:=Ty.lg (d v c);exact p
abbrev Rg:=List aS
abbrev Rd:=List (aS×Bool)
def iM (d s:Nat):aS:=⟨some d,.mv (.tmp s),none⟩
def iI (d:Nat) (n:Int):aS:=⟨some d,.mv (.const (.int .i64 n)),none⟩
def iB (d:Nat) (o:BinOp) (x y:Nat):aS:=⟨some d,.bin o (.tmp x) (.tmp y),none⟩
def iC (d:Nat) (o:BinOp) (x:Nat) (n:Int):aS:=⟨some d,.bin o (.tmp x) (.const (.int .i64 n)),none⟩
def iL (d s:Nat):aS:=⟨some d,.load none (.tmp s),none⟩
def iX (d n x y:Nat):aS:=⟨some d,.a0Q n (.tmp x) (.tmp y),none⟩
def iN (d x:Nat):aS:=⟨some d,.len (.tmp x),none⟩
def iF (d n x:Nat):aS:=⟨some d,.a1C n (.tmp x),none⟩
def iS (n p x:Nat):aS:=⟨none,.store n (.tmp p) (.tmp x),none⟩
def iA (d:Nat) (o:POp):aS:=⟨some d,o,none⟩
def iG (d:Nat) (o:POp) (g:Nat) (b:Bool):aS:=⟨some d,o,some (g,b)⟩
def iP (d a b:Nat):aS:=⟨some d,.pick (.tmp a) (.tmp b) (.const (.bool false)),none⟩
def iQ (d a b:Nat):aS:=⟨some d,.pick (.tmp a) (.const (.bool true)) (.tmp b),none⟩
def iO (d s a:Nat):aS:=⟨some d,.load (some s) (.tmp a),none⟩
def iE (d a n:Nat):aS:=⟨some d,.extract (.tmp a) n,none⟩
def iK (d f a:Nat):aS:=⟨some d,.call f [.tmp a],none⟩
def iK2 (d f a b:Nat):aS:=⟨some d,.call f [.tmp a,.tmp b],none⟩
def iT (d:Nat) (b:Bool):aS:=⟨some d,.mv (.const (.bool b)),none⟩
def iZ (d:Nat):aS:=⟨some d,.mv (.const .aB),none⟩
def gM (d s g:Nat) (b:Bool):aS:=⟨some d,.mv (.tmp s),some (g,b)⟩
def gL (d s g:Nat) (b:Bool):aS:=⟨some d,.load none (.tmp s),some (g,b)⟩
def gF (d n s g:Nat) (b:Bool):aS:=⟨some d,.a1C n (.tmp s),some (g,b)⟩
def gN (d s g:Nat) (b:Bool):aS:=⟨some d,.len (.tmp s),some (g,b)⟩
def gO (d n s g:Nat) (b:Bool):aS:=⟨some d,.load (some n) (.tmp s),some (g,b)⟩
def gK (d f a g:Nat) (b:Bool):aS:=⟨some d,.call f [.tmp a],some (g,b)⟩
def gK2 (d f a c g:Nat) (b:Bool):aS:=⟨some d,.call f [.tmp a,.tmp c],some (g,b)⟩
def gC (d:Nat) (o:BinOp) (x:Nat) (n:Int) (g:Nat) (b:Bool):aS:=⟨some d,.bin o (.tmp x) (.const (.int .i64 n)),some (g,b)⟩
def gB (d:Nat) (o:BinOp) (x y g:Nat) (b:Bool):aS:=⟨some d,.bin o (.tmp x) (.tmp y),some (g,b)⟩
def zI:PV:=.int .i64 0
def zB:PV:=.bool false
def sq (r:Rg) (c:aC):aC:=.seq (.region r) c
def dq (r:Rd) (c:aC):aC:=.seq (.draw r) c
def Tm (n:Nat):aN:=.tmp n
def Ci (n:Int):aN:=.const (.int .i64 n)
@[go_sem] theorem aZN (d s:Nat):iM d s=⟨some d,.mv (.tmp s),none⟩:=(rfl)
@[go_sem] theorem aZK (d:Nat) (n:Int):iI d n=⟨some d,.mv (.const (.int .i64 n)),none⟩:=(rfl)
@[go_sem] theorem aZF (d:Nat) (o:BinOp) (x y:Nat):iB d o x y=⟨some d,.bin o (.tmp x) (.tmp y),none⟩:=(rfl)
@[go_sem] theorem aZG (d:Nat) (o:BinOp) (x:Nat) (n:Int):iC d o x n=⟨some d,.bin o (.tmp x) (.const (.int .i64 n)),none⟩:=(rfl)
@[go_sem] theorem aZM (d s:Nat):iL d s=⟨some d,.load none (.tmp s),none⟩:=(rfl)
@[go_sem] theorem aZU (d n x y:Nat):iX d n x y=⟨some d,.a0Q n (.tmp x) (.tmp y),none⟩:=(rfl)
@[go_sem] theorem aZO (d x:Nat):iN d x=⟨some d,.len (.tmp x),none⟩:=(rfl)
@[go_sem] theorem aZI (d n x:Nat):iF d n x=⟨some d,.a1C n (.tmp x),none⟩:=(rfl)
@[go_sem] theorem aZS (n p x:Nat):iS n p x=⟨none,.store n (.tmp p) (.tmp x),none⟩:=(rfl)
@[go_sem] theorem aZE (d:Nat) (o:POp):iA d o=⟨some d,o,none⟩:=(rfl)
@[go_sem] theorem aZJ (d:Nat) (o:POp) (g:Nat) (b:Bool):iG d o g b=⟨some d,o,some (g,b)⟩:=(rfl)
@[go_sem] theorem aZQ (d a b:Nat):iP d a b=⟨some d,.pick (.tmp a) (.tmp b) (.const (.bool false)),none⟩:=(rfl)
@[go_sem] theorem aZR (d a b:Nat):iQ d a b=⟨some d,.pick (.tmp a) (.const (.bool true)) (.tmp b),none⟩:=(rfl)
@[go_sem] theorem aZP (d s a:Nat):iO d s a=⟨some d,.load (some s) (.tmp a),none⟩:=(rfl)
@[go_sem] theorem aZH (d a n:Nat):iE d a n=⟨some d,.extract (.tmp a) n,none⟩:=(rfl)
@[go_sem] theorem aZL (d f a:Nat):iK d f a=⟨some d,.call f [.tmp a],none⟩:=(rfl)
@[go_sem] theorem aYR (d f a b:Nat):iK2 d f a b=⟨some d,.call f [.tmp a,.tmp b],none⟩:=(rfl)
@[go_sem] theorem aZT (d:Nat) (b:Bool):iT d b=⟨some d,.mv (.const (.bool b)),none⟩:=(rfl)
@[go_sem] theorem aZV (d:Nat):iZ d=⟨some d,.mv (.const .aB),none⟩:=(rfl)
@[go_sem] theorem aZB (d s g:Nat) (b:Bool):gM d s g b=⟨some d,.mv (.tmp s),some (g,b)⟩:=(rfl)
@[go_sem] theorem aZA (d s g:Nat) (b:Bool):gL d s g b=⟨some d,.load none (.tmp s),some (g,b)⟩:=(rfl)
@[go_sem] theorem aYY (d n s g:Nat) (b:Bool):gF d n s g b=⟨some d,.a1C n (.tmp s),some (g,b)⟩:=(rfl)
@[go_sem] theorem aZC (d s g:Nat) (b:Bool):gN d s g b=⟨some d,.len (.tmp s),some (g,b)⟩:=(rfl)
@[go_sem] theorem aZD (d n s g:Nat) (b:Bool):gO d n s g b=⟨some d,.load (some n) (.tmp s),some (g,b)⟩:=(rfl)
@[go_sem] theorem aYZ (d f a g:Nat) (b:Bool):gK d f a g b=⟨some d,.call f [.tmp a],some (g,b)⟩:=(rfl)
@[go_sem] theorem aYQ (d f a c g:Nat) (b:Bool):gK2 d f a c g b=⟨some d,.call f [.tmp a,.tmp c],some (g,b)⟩:=(rfl)
@[go_sem] theorem aYX (d:Nat) (o:BinOp) (x:Nat) (n:Int) (g:Nat) (b:Bool):gC d o x n g b=⟨some d,.bin o (.tmp x) (.const (.int .i64 n)),some (g,b)⟩:=(rfl)
@[go_sem] theorem aYW (d:Nat) (o:BinOp) (x y g:Nat) (b:Bool):gB d o x y g b=⟨some d,.bin o (.tmp x) (.tmp y),some (g,b)⟩:=(rfl)
@[go_sem] theorem aZY:zI=.int .i64 0:=(rfl)
@[go_sem] theorem aZX:zB=.bool false:=(rfl)
@[go_sem] theorem aZW (r:Rg) (c:aC):sq r c=.seq (.region r) c:=(rfl)
@[go_sem] theorem aYV (r:Rd) (c:aC):dq r c=.seq (.draw r) c:=(rfl)
@[go_sem] theorem aYU (n:Nat):Tm n=.tmp n:=(rfl)
@[go_sem] theorem aYT (n:Int):Ci n=.const (.int .i64 n):=(rfl)
end Go.PM
namespace Go.PM
open Go
def UI:Rg:=[iT 4 false]
def UJ:Rg:=[iM 6 0,iN 7 6,iM 8 1,iN 9 8,iB 10 .neq 7 9]
def Cg:Rg:=[iT 4 false]
def UK:Rg:=[iI 5 0]
def UL:Rg:=[iM 11 5,iM 12 0,iN 13 12,iB 14 .lss 11 13]
def UM:Rd:=[(iM 17 0,false),(iM 18 5,false),(iX 19 1 17 18,false),(iL 20 19,false),(iM 21 1,false),(iM 22 5,false),(iX 23 1 21 22,false),(iL 24 23,false),(iB 25 .neq 20 24,false)]
def Ch:Rg:=[iT 4 false]
def UN:Rg:=[iM 15 5,iC 16 .add 15 1,iM 5 16]
def UH:aC:=(.seq (sq UL (.cond (Tm 14) .skip (.exit 0))) (.seq (.block 1 (dq UM (.cond (Tm 25) (sq Ch .ret) .skip))) (.region UN)))
def UO:Rg:=[iT 4 true]
def rR:aC:=(sq UI (.seq (sq UJ (.cond (Tm 10) (sq Cg .ret) .skip)) (.seq (sq UK (.block 0 (.loop UH))) (sq UO .ret))))
def awO:List Nat:=[]
def QF:aR:=⟨2,26,rR,[.tmp 4]⟩
def akI:Rg:=[iA 0 (.alloc [zI,.aB,.aB,.aB,.aB,.aB,.aB])]
def akJ:Rg:=[iA 2 (.call 27 [(.const .aB),(Ci 1),(Ci 0)]),iA 1 (.alloc [zI,.aB,.aB,.aB,.aB,.aB,.aB]),iS 7 1 2]
def akK:Rg:=[iA 3 (.build [(.str []),zI] [(0,1,(.const (.str [118,48])))]),iA 4 (.a0F true 2 1 [(.str []),zI] [(0,(Tm 3))]),iF 5 6 1,iS 1 5 4]
def akL:Rg:=[iO 6 7 1,iS 7 0 6]
def Nd:aC:=(sq akI (sq akJ (sq akK (sq akL .ret))))
def aPJ:aR:=⟨0,7,Nd,[.cell 0 (some 7)]⟩
def ajQ:Rg:=[iT 0 false]
def ajR:Rg:=[iA 3 (.call 23 []),iA 1 (.alloc [zI,.aB,.aB,.aB,.aB,.aB,.aB]),iS 7 1 3]
def ajS:Rg:=[iO 4 7 1,iA 5 (.a0F true 1 1 [zI] [(0,(Ci (-1)))]),iA 6 (.a0F true 1 1 [.aB] [(0,(Tm 5))]),iA 7 (.call 154 [(Tm 4),(Tm 6),(.const .aB)]),iM 2 7]
def ajT:Rg:=[iO 8 7 1,iA 9 (.call 147 [(Tm 8),(Ci 0),(Ci 4)]),iC 10 .eql 9 4,iM 11 10,gO 12 7 1 11 true,iG 13 (.call 149 [(Tm 12),(Ci 0)]) 11 true,gN 14 13 11 true,gC 15 .eql 14 1 11 true,iP 16 11 15,iM 17 16,gM 18 2 17 true,gN 19 18 17 true,gC 20 .eql 19 1 17 true,iP 21 17 20,iM 22 21,gM 23 2 22 true,iG 24 (.a0Q 3 (Tm 23) (Ci 0)) 22 true,gO 25 3 24 22 true,iG 26 (.build [zI,zI,zI] [(0,1,(Ci 2))]) 22 true,iG 27 (.eqs false [.int,.int,.int] (Tm 25) (Tm 26)) 22 true,iP 28 22 27,iM 29 28,gO 30 7 1 29 true,iG 31 (.a0F true 1 1 [zI] [(0,(Ci 0))]) 29 true,iG 32 (.a0F true 1 1 [.aB] [(0,(Tm 31))]) 29 true,iG 33 (.call 150 [(Tm 30),(Tm 32),(.const .aB)]) 29 true,iP 34 29 33,iM 35 34,iG 36 (.build [zI,.aB,.aB,.aB,.aB,.aB,.aB] []) 35 true,iG 37 (.call 150 [(Tm 36),(.const .aB),(.const .aB)]) 35 true,iG 38 (.un .not (Tm 37)) 35 true,iP 39 35 38,iM 0 39]
def M9:aC:=(sq ajQ (sq ajR (sq ajS (sq ajT .ret))))
def aPC:aR:=⟨0,40,M9,[.tmp 0]⟩
def axS:Rg:=[iT 4 false]
def axT:Rg:=[iM 6 0,iN 7 6,iM 8 1,iN 9 8,iB 10 .neq 7 9]
def axU:Rg:=[iT 4 false]
def axV:Rg:=[iI 5 0]
def axW:Rg:=[iM 11 5,iM 12 0,iN 13 12,iB 14 .lss 11 13]
def axX:Rd:=[(iM 17 0,false),(iM 18 5,false),(iX 19 3 17 18,false),(iO 20 3 19,false),(iM 21 1,false),(iM 22 5,false),(iX 23 3 21 22,false),(iO 24 3 23,false),(iA 25 (.eqs true [.int,.int,.int] (Tm 20) (Tm 24)),false)]
def axY:Rg:=[iT 4 false]
def axZ:Rg:=[iM 15 5,iC 16 .add 15 1,iM 5 16]
def axR:aC:=(.seq (sq axW (.cond (Tm 14) .skip (.exit 0))) (.seq (.block 1 (dq axX (.cond (Tm 25) (sq axY .ret) .skip))) (.region axZ)))
def ayA:Rg:=[iT 4 true]
def Zl:aC:=(sq axS (.seq (sq axT (.cond (Tm 10) (sq axU .ret) .skip)) (.seq (sq axV (.block 0 (.loop axR))) (sq ayA .ret))))
def aTW:aR:=⟨2,26,Zl,[.tmp 4]⟩
def ajY:Rg:=[iT 2 false]
def ajZ:Rg:=[iM 5 0,iN 6 5,iM 3 6]
def akA:Rg:=[iI 4 0]
def akB:Rg:=[iM 7 4,iM 8 0,iN 9 8,iB 10 .lss 7 9,iM 11 10,gM 12 3 11 true,gC 13 .lss 12 300 11 true,iP 14 11 13]
def akC:Rg:=[iM 17 3,iM 18 0,iM 19 4,iX 20 1 18 19,iL 21 20,iN 22 21,iB 23 .add 17 22,iM 3 23]
def akD:Rg:=[iM 15 4,iC 16 .add 15 1,iM 4 16]
def ajX:aC:=(.seq (sq akB (.cond (Tm 14) .skip (.exit 0))) (.seq (.block 1 (.region akC)) (.region akD)))
def akE:Rg:=[iM 24 3,iC 25 .geq 24 300,iM 2 25]
def Nc:aC:=(sq ajY (sq ajZ (.seq (sq akA (.block 0 (.loop ajX))) (sq akE .ret))))
def aPH:aR:=⟨1,26,Nc,[.tmp 2]⟩
def Zg:Rg:=[iA 6 (.box true (Tm 0)),iT 12 false]
def Zh:Rd:=[(iO 13 7 6,false),(iM 14 3,false),(iM 15 4,false),(iA 16 (.call 147 [(Tm 13),(Tm 14),(Tm 15)]),true),(iO 17 7 6,true),(iM 18 3,true),(iM 19 4,true),(iA 20 (.call 78 [(Tm 17),(Tm 18),(Tm 19)]),true),(iB 21 .eql 16 20,false),(iM 22 21,false),(gO 23 7 6 22 true,false),(gM 24 5 22 true,false),(gK2 25 149 23 24 22 true,true),(gO 26 7 6 22 true,true),(gM 27 5 22 true,true),(gK2 28 81 26 27 22 true,true),(gK2 29 94 25 28 22 true,true),(iP 30 22 29,false),(iM 31 30,false),(gO 32 7 6 31 true,false),(gM 33 5 31 true,false),(gK2 34 148 32 33 31 true,true),(gO 35 7 6 31 true,true),(gM 36 5 31 true,true),(gK2 37 79 35 36 31 true,true),(gK2 38 94 34 37 31 true,true),(iP 39 31 38,false),(iM 40 39,false),(gO 41 7 6 40 true,false),(gM 42 1 40 true,false),(gK2 43 151 41 42 40 true,true),(gO 44 7 6 40 true,true),(gM 45 1 40 true,true),(gK2 46 84 44 45 40 true,true),(gK2 47 94 43 46 40 true,true),(iP 48 40 47,false),(iM 49 48,false),(gO 50 7 6 49 true,false),(gM 51 2 49 true,false),(gK2 52 152 50 51 49 true,true),(gO 53 7 6 49 true,true),(gM 54 2 49 true,true),(gK2 55 85 53 54 49 true,true),(gK2 56 94 52 55 49 true,true),(iP 57 49 56,false),(iM 58 57,false),(gO 59 7 6 58 true,false),(gM 60 1 58 true,false),(gK2 61 153 59 60 58 true,true),(gO 62 7 6 58 true,true),(gM 63 1 58 true,true),(gK2 64 86 62 63 58 true,true),(iG 65 (.eqb false (Tm 61) (Tm 64)) 58 true,false),(iP 66 58 65,false),(iM 67 66,false),(gO 68 7 6 67 true,false),(gM 69 1 67 true,false),(gM 70 2 67 true,false),(iG 71 (.call 154 [(Tm 68),(Tm 69),(Tm 70)]) 67 true,true),(gO 72 7 6 67 true,true),(gM 73 1 67 true,true),(gM 74 2 67 true,true),(iG 75 (.call 87 [(Tm 72),(Tm 73),(Tm 74)]) 67 true,true),(gK2 76 22 71 75 67 true,true),(iP 77 67 76,false),(iM 78 77,false),(gO 79 7 6 78 true,false),(gM 80 1 78 true,false),(gM 81 2 78 true,false),(iG 82 (.call 150 [(Tm 79),(Tm 80),(Tm 81)]) 78 true,true),(gO 83 7 6 78 true,true),(gM 84 1 78 true,true),(gM 85 2 78 true,true),(iG 86 (.call 83 [(Tm 83),(Tm 84),(Tm 85)]) 78 true,true),(iG 87 (.eqb false (Tm 82) (Tm 86)) 78 true,false),(iP 88 78 87,false),(iM 12 88,false)]
def Fy:aC:=(sq Zg (dq Zh .ret))
def aIF:aR:=⟨6,89,Fy,[.tmp 12]⟩
def ajK:Rg:=[iZ 2]
def ajL:Rg:=[iM 4 0,iA 5 (.call 0 [(Tm 4),(Ci 8),(Ci 4)]),iA 3 (.alloc [zI,.aB,.aB,.aB,.aB,.aB,.aB]),iS 7 3 5]
def ajM:Rg:=[iM 6 0,iO 7 7 3,iK2 8 3 6 7]
def ajN:Rg:=[iM 9 0,iO 10 7 3,iK2 11 6 9 10,iM 2 11]
def M8:aC:=(sq ajK (sq ajL (sq ajM (sq ajN .ret))))
def aOR:aR:=⟨1,12,M8,[.tmp 2]⟩
def HQ:Rg:=[iI 2 0]
def HR:Rg:=[iM 4 0,iN 5 4,iM 3 5]
def HS:Rg:=[iM 6 3,iC 7 .gtr 6 0,iM 8 7,gM 9 0 8 true,gM 10 3 8 true,gC 11 .sub 10 1 8 true,iG 12 (.a0Q 1 (Tm 9) (Tm 11)) 8 true,gL 13 12 8 true,iG 14 (.bin .eql (Tm 13) (.const (.int .u32 0))) 8 true,iP 15 8 14]
def HT:Rg:=[iM 16 3,iC 17 .sub 16 1,iM 3 17]
def HP:aC:=(.seq (sq HS (.cond (Tm 15) .skip (.exit 0))) (.block 1 (.region HT)))
def sE:Rg:=[iM 18 3,iM 2 18]
def oL:aC:=(sq HQ (sq HR (.seq (.block 0 (.loop HP)) (sq sE .ret))))
def aaM:List Nat:=[]
def wX:aR:=⟨1,19,oL,[.tmp 2]⟩
def ut:Rg:=[iT 2 false]
def uu:Rg:=[iM 3 0,iK 4 138 3,iC 5 .gtr 4 512,iM 2 5]
def BI:aC:=(sq ut (sq uu .ret))
def alA:List Nat:=[]
def fw:aR:=⟨1,6,BI,[.tmp 2]⟩
def vq:Rg:=[iZ 2,iI 3 0]
def vr:Rg:=[iM 5 0,iK 6 138 5,iM 4 6]
def vt:Rg:=[iM 7 4,iC 8 .gtr 7 512]
def vu:Rg:=[iZ 2,iI 3 2]
def vw:Rg:=[iM 9 0,iM 10 4,iM 11 4,iA 12 (.slice 1 (Tm 9) none (some (Tm 10)) (some (Tm 11))),iM 2 12,iI 3 0]
def BL:aC:=(sq vq (sq vr (.seq (sq vt (.cond (Tm 8) (sq vu .ret) .skip)) (sq vw .ret))))
def alF:List Nat:=[]
def gv:aR:=⟨1,13,BL,[.tmp 2,.tmp 3]⟩
def Im:Rg:=[iZ 2]
def In:Rg:=[iM 4 0,iA 5 (.conv .u32 (Tm 4)),iM 6 0,iA 7 (.bin .shr (Tm 6) (.const (.int .u64 32))),iA 8 (.conv .u32 (Tm 7)),iA 9 (.a0F true 1 2 [(.int .u32 0)] [(0,(Tm 5)),(1,(Tm 8))]),iM 3 9]
def Io:Rg:=[iM 10 3,iM 11 3,iK 12 138 11,iA 13 (.slice 1 (Tm 10) none (some (Tm 12)) none),iM 2 13]
def HU:aC:=(sq Im (sq In (sq Io .ret)))
def azB:List Nat:=[9]
def zj:aR:=⟨1,14,HU,[.tmp 2]⟩
def I4:Rg:=[iZ 2]
def I5:Rg:=[iM 3 0,iM 4 0,iK 5 138 4,iA 6 (.slice 1 (Tm 3) none (some (Tm 5)) none),iA 7 (.append 1 4 (.const .aB) (Tm 6)),iM 2 7]
def HW:aC:=(sq I4 (sq I5 .ret))
def azD:List Nat:=[]
def zk:aR:=⟨1,8,HW,[.tmp 2]⟩
def Tz:Rg:=[iI 4 0]
def T0:Rg:=[iM 8 0,iK 9 138 8,iM 10 1,iK 11 138 10,iM 5 9,iM 6 11]
def T1:Rg:=[iM 13 5,iM 14 6,iB 15 .lss 13 14,iM 12 15]
def T2:Rg:=[iI 4 (-1)]
def T3:Rg:=[iM 17 5,iM 18 6,iB 19 .gtr 17 18,iM 16 19]
def T4:Rg:=[iI 4 1]
def T5:Rg:=[iM 20 5,iC 21 .sub 20 1,iM 7 21]
def T6:Rg:=[iM 22 7,iC 23 .geq 22 0]
def T7:Rd:=[(iM 27 0,false),(iM 28 7,false),(iX 29 1 27 28,false),(iL 30 29,false),(iM 31 1,false),(iM 32 7,false),(iX 33 1 31 32,false),(iL 34 33,false),(iB 35 .lss 30 34,false),(iM 26 35,false)]
def T8:Rg:=[iI 4 (-1)]
def Ib:Rd:=[(iM 37 0,false),(iM 38 7,false),(iX 39 1 37 38,false),(iL 40 39,false),(iM 41 1,false),(iM 42 7,false),(iX 43 1 41 42,false),(iL 44 43,false),(iB 45 .gtr 40 44,false),(iM 36 45,false)]
def Ic:Rg:=[iI 4 1]
def Id:Rg:=[iM 24 7,iC 25 .sub 24 1,iM 7 25]
def Ia:aC:=(.seq (sq T6 (.cond (Tm 23) .skip (.exit 1))) (.seq (.block 2 (.block 3 (dq T7 (.cond (Tm 26) (sq T8 .ret) (dq Ib (.cond (Tm 36) (sq Ic .ret) .skip)))))) (.region Id)))
def Ie:Rg:=[iI 4 0]
def NK:aC:=(sq Tz (sq T0 (.seq (.block 0 (sq T1 (.cond (Tm 12) (sq T2 .ret) (sq T3 (.cond (Tm 16) (sq T4 .ret) .skip))))) (.seq (sq T5 (.block 1 (.loop Ia))) (sq Ie .ret)))))
def aJA:List Nat:=[]
def aaA:aR:=⟨2,46,NK,[.tmp 4]⟩
def Tr:Rg:=[iZ 4,iI 5 0]
def Ts:Rg:=[iM 9 0,iK 10 137 9,iM 11 10,gM 12 1 11 false,gK 13 137 12 11 false,iQ 14 11 13]
def l3:Rg:=[iZ 4,iI 5 2]
def Tt:Rd:=[(iM 15 0,true),(iM 16 0,false),(iK 17 138 16,true),(iA 18 (.slice 1 (Tm 15) none (some (Tm 17)) none),true),(iM 19 1,true),(iM 20 1,true),(iK 21 138 20,true),(iA 22 (.slice 1 (Tm 19) none (some (Tm 21)) none),false),(iM 0 18,false),(iM 1 22,false)]
def Tu:Rg:=[iM 23 0,iN 24 23,iM 25 1,iN 26 25,iB 27 .lss 24 26]
def Tv:Rg:=[iM 28 1,iM 29 0,iM 0 28,iM 1 29]
def l4:Rg:=[iM 30 0,iN 31 30,iC 32 .add 31 1,iA 33 (.a0H 1 4 [(.int .u32 0)] (Tm 32) (Tm 32)),iM 6 33]
def l5:Rg:=[iA 7 (.mv (.const (.int .u64 0)))]
def l6:Rg:=[iM 34 0,iN 35 34,iI 36 0]
def Tw:Rg:=[iB 37 .lss 36 35]
def Hk:Rg:=[iM 38 36,iM 8 38]
def Hl:Rg:=[iM 39 7,iM 40 0,iM 41 8,iX 42 1 40 41,iL 43 42,iA 44 (.conv .u64 (Tm 43)),iB 45 .add 39 44,iM 7 45]
def Hm:Rg:=[iM 46 8,iM 47 1,iN 48 47,iB 49 .lss 46 48]
def Hn:Rg:=[iM 50 7,iM 51 1,iM 52 8,iX 53 1 51 52,iL 54 53,iA 55 (.conv .u64 (Tm 54)),iB 56 .add 50 55,iM 7 56]
def WL:Rg:=[iM 57 6,iM 58 8,iM 59 7,iA 60 (.conv .u32 (Tm 59)),iX 61 1 57 58,iS 1 61 60]
def WM:Rg:=[iM 62 7,iA 63 (.bin .shr (Tm 62) (.const (.int .u64 32))),iM 7 63]
def WN:Rg:=[iC 64 .add 36 1,iM 36 64]
def WK:aC:=(sq Tw (.seq (.cond (Tm 37) .skip (.exit 0)) (.seq (.block 1 (sq Hk (sq Hl (.seq (sq Hm (.cond (Tm 49) (.region Hn) .skip)) (sq WL (.region WM)))))) (.region WN))))
def WO:Rg:=[iM 65 6,iM 66 0,iN 67 66,iM 68 7,iA 69 (.conv .u32 (Tm 68)),iX 70 1 65 67,iS 1 70 69]
def WP:Rg:=[iM 71 6,iK 72 141 71,iE 73 72 0,iE 74 72 1,iM 4 73,iM 5 74]
def NJ:aC:=(sq Tr (.seq (sq Ts (.cond (Tm 14) (sq l3 .ret) .skip)) (dq Tt (.seq (sq Tu (.cond (Tm 27) (.region Tv) .skip)) (sq l4 (sq l5 (.seq (sq l6 (.block 0 (.loop WK))) (sq WO (sq WP .ret)))))))))
def aIY:List Nat:=[]
def Z8:aR:=⟨2,75,NJ,[.tmp 4,.tmp 5]⟩
def Uw:Rg:=[iZ 4,iI 5 0]
def Ux:Rg:=[iM 11 0,iK 12 137 11,iM 13 12,gM 14 1 13 false,gK 15 137 14 13 false,iQ 16 13 15,iM 10 16]
def mj:Rg:=[iZ 4,iI 5 2]
def Uy:Rg:=[iM 18 0,iM 19 1,iK2 20 129 18 19,iC 21 .lss 20 0,iM 17 21]
def Uz:Rg:=[iZ 4,iI 5 4]
def U1:Rd:=[(iM 22 0,true),(iM 23 0,false),(iK 24 138 23,true),(iA 25 (.slice 1 (Tm 22) none (some (Tm 24)) none),true),(iM 26 1,true),(iM 27 1,true),(iK 28 138 27,true),(iA 29 (.slice 1 (Tm 26) none (some (Tm 28)) none),false),(iM 0 25,false),(iM 1 29,false)]
def ml:Rg:=[iM 30 0,iN 31 30,iA 32 (.a0H 1 4 [(.int .u32 0)] (Tm 31) (Tm 31)),iM 6 32]
def mm:Rg:=[iA 7 (.mv (.const (.int .u64 0)))]
def mo:Rg:=[iM 33 0,iN 34 33,iI 35 0]
def U2:Rg:=[iB 36 .lss 35 34]
def Ix:Rg:=[iM 37 35,iM 8 37]
def Iy:Rg:=[iM 38 0,iM 39 8,iX 40 1 38 39,iL 41 40,iA 42 (.conv .u64 (Tm 41)),iM 43 7,iB 44 .sub 42 43,iM 9 44]
def Iz:Rg:=[iM 45 8,iM 46 1,iN 47 46,iB 48 .lss 45 47]
def I0:Rg:=[iM 49 9,iM 50 1,iM 51 8,iX 52 1 50 51,iL 53 52,iA 54 (.conv .u64 (Tm 53)),iB 55 .sub 49 54,iM 9 55]
def WX:Rg:=[iM 56 6,iM 57 8,iM 58 9,iA 59 (.conv .u32 (Tm 58)),iX 60 1 56 57,iS 1 60 59]
def WY:Rg:=[iM 61 9,iA 62 (.bin .shr (Tm 61) (.const (.int .u64 63))),iM 7 62]
def WZ:Rg:=[iC 63 .add 35 1,iM 35 63]
def WW:aC:=(sq U2 (.seq (.cond (Tm 36) .skip (.exit 1)) (.seq (.block 2 (sq Ix (sq Iy (.seq (sq Iz (.cond (Tm 48) (.region I0) .skip)) (sq WX (.region WY)))))) (.region WZ))))
def XA:Rg:=[iM 64 6,iK 65 141 64,iE 66 65 0,iE 67 65 1,iM 4 66,iM 5 67]
def NS:aC:=(sq Uw (.seq (.block 0 (sq Ux (.cond (Tm 10) (sq mj .ret) (sq Uy (.cond (Tm 17) (sq Uz .ret) .skip))))) (dq U1 (sq ml (sq mm (.seq (sq mo (.block 1 (.loop WW))) (sq XA .ret)))))))
def aJG:List Nat:=[]
def aaP:aR:=⟨2,68,NS,[.tmp 4,.tmp 5]⟩
def Ur:Rg:=[iZ 4,iI 5 0]
def Us:Rg:=[iM 12 0,iK 13 137 12,iM 14 13,gM 15 1 14 false,gK 16 137 15 14 false,iQ 17 14 16]
def ma:Rg:=[iZ 4,iI 5 2]
def Ut:Rd:=[(iM 18 0,true),(iM 19 0,false),(iK 20 138 19,true),(iA 21 (.slice 1 (Tm 18) none (some (Tm 20)) none),true),(iM 22 1,true),(iM 23 1,true),(iK 24 138 23,true),(iA 25 (.slice 1 (Tm 22) none (some (Tm 24)) none),false),(iM 0 21,false),(iM 1 25,false)]
def mb:Rg:=[iM 26 0,iN 27 26,iM 28 1,iN 29 28,iB 30 .add 27 29,iA 31 (.a0H 1 4 [(.int .u32 0)] (Tm 30) (Tm 30)),iM 6 31]
def me:Rg:=[iM 32 0,iN 33 32,iI 34 0]
def Uu:Rg:=[iB 35 .lss 34 33]
def mf:Rg:=[iM 36 34,iX 37 1 32 34,iL 38 37,iM 7 36,iM 8 38]
def mg:Rg:=[iA 9 (.mv (.const (.int .u64 0)))]
def mh:Rg:=[iM 39 1,iN 40 39,iI 41 0]
def Ip:Rg:=[iB 42 .lss 41 40]
def Iq:Rg:=[iM 43 41,iX 44 1 39 41,iL 45 44,iM 10 43,iM 11 45]
def Ir:Rg:=[iM 46 9,iM 47 8,iA 48 (.conv .u64 (Tm 47)),iM 49 11,iA 50 (.conv .u64 (Tm 49)),iB 51 .mul 48 50,iM 52 6,iM 53 7,iM 54 10,iB 55 .add 53 54,iX 56 1 52 55,iL 57 56,iA 58 (.conv .u64 (Tm 57)),iB 59 .add 51 58,iB 60 .add 46 59,iM 9 60]
def Is:Rg:=[iM 61 6,iM 62 7,iM 63 10,iB 64 .add 62 63,iM 65 9,iA 66 (.conv .u32 (Tm 65)),iX 67 1 61 64,iS 1 67 66]
def It:Rg:=[iM 68 9,iA 69 (.bin .shr (Tm 68) (.const (.int .u64 32))),iM 9 69]
def Iu:Rg:=[iC 70 .add 41 1,iM 41 70]
def WR:aC:=(sq Ip (.seq (.cond (Tm 42) .skip (.exit 2)) (.seq (.block 3 (sq Iq (sq Ir (sq Is (.region It))))) (.region Iu))))
def WT:Rg:=[iM 71 6,iM 72 7,iM 73 1,iN 74 73,iB 75 .add 72 74,iM 76 9,iA 77 (.conv .u32 (Tm 76)),iX 78 1 71 75,iS 1 78 77]
def Iv:Rg:=[iC 79 .add 34 1,iM 34 79]
def WS:aC:=(sq Uu (.seq (.cond (Tm 35) .skip (.exit 0)) (.seq (.block 1 (sq mf (sq mg (.seq (sq mh (.block 2 (.loop WR))) (.region WT))))) (.region Iv))))
def WU:Rg:=[iM 80 6,iK 81 141 80,iE 82 81 0,iE 83 81 1,iM 4 82,iM 5 83]
def NP:aC:=(sq Ur (.seq (sq Us (.cond (Tm 17) (sq ma .ret) .skip)) (dq Ut (sq mb (.seq (sq me (.block 0 (.loop WS))) (sq WU .ret))))))
def aJF:List Nat:=[]
def aaN:aR:=⟨2,84,NP,[.tmp 4,.tmp 5]⟩
def Ht:Rg:=[iI 2 0]
def Hu:Rg:=[iM 6 0,iK 7 138 6,iM 3 7]
def Hv:Rg:=[iM 8 3,iC 9 .eql 8 0]
def Hw:Rg:=[iI 2 0]
def Hx:Rg:=[iM 10 3,iC 11 .sub 10 1,iC 12 .mul 11 32,iM 4 12]
def Hy:Rg:=[iM 13 0,iM 14 3,iC 15 .sub 14 1,iX 16 1 13 15,iL 17 16,iM 5 17]
def Hz:Rg:=[iM 18 5,iA 19 (.bin .gtr (Tm 18) (.const (.int .u32 0)))]
def H8:Rg:=[iM 22 4,iC 23 .add 22 1,iM 4 23]
def H9:Rg:=[iM 20 5,iA 21 (.bin .shr (Tm 20) (.const (.int .u64 1))),iM 5 21]
def Hq:aC:=(.seq (sq Hz (.cond (Tm 19) .skip (.exit 0))) (.seq (.block 1 (.region H8)) (.region H9)))
def uk:Rg:=[iM 24 4,iM 2 24]
def HF:aC:=(sq Ht (sq Hu (.seq (sq Hv (.cond (Tm 9) (sq Hw .ret) .skip)) (sq Hx (.seq (sq Hy (.block 0 (.loop Hq))) (sq uk .ret))))))
def ayZ:List Nat:=[]
def zi:aR:=⟨1,25,HF,[.tmp 2]⟩
def Ui:Rg:=[iZ 4,iI 5 0]
def Uj:Rg:=[iM 8 0,iK 9 137 8,iM 10 9,gM 11 1 10 false,gK 12 137 11 10 false,iQ 13 10 12]
def l9:Rg:=[iZ 4,iI 5 2]
def Uk:Rg:=[iM 14 0,iK 15 135 14,iM 16 1,iK 17 135 16,iM 0 15,iM 1 17]
def Ul:Rg:=[iM 18 1,iN 19 18,iC 20 .gtr 19 0]
def Um:Rg:=[iM 22 0,iM 23 1,iK2 24 136 22 23,iM 21 24,iE 25 21 0,iE 26 21 1,iM 6 25,iM 7 26]
def Un:Rg:=[iM 27 1,iM 28 7,iM 0 27,iM 1 28]
def Ug:aC:=(.seq (sq Ul (.cond (Tm 20) .skip (.exit 0))) (.block 1 (sq Um (.region Un))))
def Uo:Rg:=[iM 29 0,iM 4 29,iI 5 0]
def NO:aC:=(sq Ui (.seq (sq Uj (.cond (Tm 13) (sq l9 .ret) .skip)) (sq Uk (.seq (.block 0 (.loop Ug)) (sq Uo .ret)))))
def aJE:List Nat:=[]
def aaG:aR:=⟨2,30,NO,[.tmp 4,.tmp 5]⟩
def Ua:Rg:=[iZ 4,iZ 5,iI 6 0]
def Ub:Rg:=[iM 10 0,iK 11 137 10,iM 12 11,gM 13 1 12 false,gK 14 137 13 12 false,iQ 15 12 14,iM 9 15]
def l8:Rg:=[iZ 4,iZ 5,iI 6 2]
def Uc:Rg:=[iM 17 1,iK 18 138 17,iC 19 .eql 18 0,iM 16 19]
def Ud:Rg:=[iZ 4,iZ 5,iI 6 3]
def Ue:Rd:=[(iM 21 0,true),(iM 22 0,false),(iK 23 138 22,true),(iA 24 (.slice 1 (Tm 21) none (some (Tm 23)) none),true),(iM 25 1,true),(iM 26 1,true),(iK 27 138 26,true),(iA 28 (.slice 1 (Tm 25) none (some (Tm 27)) none),false),(iK2 29 136 24 28,true),(iM 20 29,false),(iE 30 20 0,false),(iE 31 20 1,false),(iM 7 30,false),(iM 8 31,false)]
def Uf:Rg:=[iM 32 7,iM 33 8,iM 4 32,iM 5 33,iI 6 0]
def NM:aC:=(sq Ua (.seq (.block 0 (sq Ub (.cond (Tm 9) (sq l8 .ret) (sq Uc (.cond (Tm 16) (sq Ud .ret) .skip))))) (dq Ue (sq Uf .ret))))
def aJB:List Nat:=[]
def aaC:aR:=⟨2,34,NM,[.tmp 4,.tmp 5,.tmp 6]⟩
def vd:Rg:=[iZ 4,iA 5 (.mv (.const (.int .u32 0)))]
def ve:Rg:=[iM 9 0,iN 10 9,iA 11 (.a0H 1 4 [(.int .u32 0)] (Tm 10) (Tm 10)),iM 6 11]
def vf:Rg:=[iA 7 (.mv (.const (.int .u64 0)))]
def vh:Rg:=[iM 12 0,iN 13 12,iC 14 .sub 13 1,iM 8 14]
def vi:Rg:=[iM 15 8,iC 16 .geq 15 0]
def vj:Rg:=[iM 19 7,iA 20 (.bin .shl (Tm 19) (.const (.int .u64 32))),iM 21 0,iM 22 8,iX 23 1 21 22,iL 24 23,iA 25 (.conv .u64 (Tm 24)),iB 26 .or 20 25,iM 7 26]
def vk:Rg:=[iM 27 6,iM 28 8,iM 29 7,iM 30 1,iA 31 (.conv .u64 (Tm 30)),iB 32 .quo 29 31,iA 33 (.conv .u32 (Tm 32)),iX 34 1 27 28,iS 1 34 33]
def vm:Rg:=[iM 35 7,iM 36 1,iA 37 (.conv .u64 (Tm 36)),iB 38 .rem 35 37,iM 7 38]
def vn:Rg:=[iM 17 8,iC 18 .sub 17 1,iM 8 18]
def va:aC:=(.seq (sq vi (.cond (Tm 16) .skip (.exit 0))) (.seq (.block 1 (sq vj (sq vk (.region vm)))) (.region vn)))
def gt:Rg:=[iM 39 6,iM 40 6,iK 41 138 40,iA 42 (.slice 1 (Tm 39) none (some (Tm 41)) none),iM 43 7,iA 44 (.conv .u32 (Tm 43)),iM 4 42,iM 5 44]
def BK:aC:=(sq vd (sq ve (sq vf (.seq (sq vh (.block 0 (.loop va))) (sq gt .ret)))))
def alE:List Nat:=[]
def gs:aR:=⟨2,45,BK,[.tmp 4,.tmp 5]⟩
def alI:Rg:=[iZ 4]
def alJ:Rg:=[iM 9 0,iN 10 9,iC 11 .add 10 1,iA 12 (.a0H 1 4 [(.int .u32 0)] (Tm 11) (Tm 11)),iM 5 12]
def alK:Rg:=[iA 6 (.mv (.const (.int .u64 0)))]
def alL:Rg:=[iM 13 0,iN 14 13,iI 15 0]
def alM:Rg:=[iB 16 .lss 15 14]
def alN:Rg:=[iM 17 15,iX 18 1 13 15,iL 19 18,iM 7 17,iM 8 19]
def alO:Rg:=[iM 20 6,iM 21 8,iA 22 (.conv .u64 (Tm 21)),iM 23 1,iB 24 .shl 22 23,iB 25 .or 20 24,iM 6 25]
def alP:Rg:=[iM 26 5,iM 27 7,iM 28 6,iA 29 (.conv .u32 (Tm 28)),iX 30 1 26 27,iS 1 30 29]
def alQ:Rg:=[iM 31 6,iA 32 (.bin .shr (Tm 31) (.const (.int .u64 32))),iM 6 32]
def alR:Rg:=[iC 33 .add 15 1,iM 15 33]
def U3:aC:=(sq alM (.seq (.cond (Tm 16) .skip (.exit 0)) (.seq (.block 1 (sq alN (sq alO (sq alP (.region alQ))))) (.region alR))))
def U4:Rg:=[iM 34 5,iM 35 0,iN 36 35,iM 37 6,iA 38 (.conv .u32 (Tm 37)),iX 39 1 34 36,iS 1 39 38]
def U5:Rg:=[iM 40 5,iM 4 40]
def XC:aC:=(sq alI (sq alJ (sq alK (.seq (sq alL (.block 0 (.loop U3))) (sq U4 (sq U5 .ret))))))
def aPP:List Nat:=[]
def nup:aR:=⟨2,41,XC,[.tmp 4]⟩
def fh:Rg:=[iZ 4,iZ 5]
def fi:Rg:=[iM 21 0,iM 22 1,iK2 23 129 21 22,iC 24 .lss 23 0]
def fj:Rg:=[iM 25 0,iK 26 135 25,iZ 4,iM 5 26]
def fk:Rg:=[iM 27 1,iN 28 27,iC 29 .eql 28 1]
def fl:Rg:=[iM 31 0,iM 32 1,iA 33 (.a0Q 1 (Tm 32) (Ci 0)),iL 34 33,iK2 35 140 31 34,iM 30 35,iE 36 30 0,iE 37 30 1,iM 6 36,iM 7 37]
def fm:Rg:=[iM 38 6,iM 39 7,iA 40 (.conv .u64 (Tm 39)),iK 41 132 40,iM 4 38,iM 5 41]
def fp:Rg:=[iA 8 (.mv (.const (.int .u64 0)))]
def fq:Rg:=[iM 42 1,iM 43 1,iN 44 43,iC 45 .sub 44 1,iX 46 1 42 45,iL 47 46,iM 48 8,iB 49 .shl 47 48,iA 50 (.bin .lss (Tm 49) (.const (.int .u32 2147483648)))]
def ft:Rg:=[iM 51 8,iA 52 (.bin .add (Tm 51) (.const (.int .u64 1))),iM 8 52]
def ff:aC:=(.seq (sq fq (.cond (Tm 50) .skip (.exit 0))) (.block 1 (.region ft)))
def SB:Rd:=[(iM 53 0,false),(iM 54 8,false),(iK2 55 143 53 54,true),(iM 56 1,true),(iM 57 8,true),(iK2 58 143 56 57,true),(iM 59 1,true),(iN 60 59,true),(iA 61 (.slice 1 (Tm 58) none (some (Tm 60)) none),false),(iM 9 55,false),(iM 10 61,false)]
def SC:Rg:=[iM 62 10,iN 63 62,iM 11 63]
def SD:Rg:=[iM 64 9,iN 65 64,iM 66 11,iB 67 .sub 65 66,iA 68 (.a0H 1 4 [(.int .u32 0)] (Tm 67) (Tm 67)),iM 12 68]
def SE:Rd:=[(iM 69 10,false),(iM 70 11,false),(iC 71 .sub 70 1,false),(iX 72 1 69 71,false),(iL 73 72,false),(iA 74 (.conv .u64 (Tm 73)),false),(iM 75 10,false),(iM 76 11,false),(iC 77 .sub 76 2,false),(iX 78 1 75 77,false),(iL 79 78,false),(iA 80 (.conv .u64 (Tm 79)),false),(iM 13 74,false),(iM 14 80,false)]
def SF:Rg:=[iM 81 12,iN 82 81,iC 83 .sub 82 1,iM 15 83]
def SG:Rg:=[iM 84 15,iC 85 .geq 84 0]
def AX:Rd:=[(iM 88 9,false),(iM 89 15,false),(iM 90 11,false),(iB 91 .add 89 90,false),(iX 92 1 88 91,false),(iL 93 92,false),(iA 94 (.conv .u64 (Tm 93)),false),(iA 95 (.bin .shl (Tm 94) (.const (.int .u64 32))),false),(iM 96 9,false),(iM 97 15,false),(iM 98 11,false),(iB 99 .add 97 98,false),(iC 100 .sub 99 1,false),(iX 101 1 96 100,false),(iL 102 101,false),(iA 103 (.conv .u64 (Tm 102)),false),(iB 104 .or 95 103,false),(iM 16 104,false)]
def AY:Rd:=[(iM 105 16,false),(iM 106 13,false),(iB 107 .quo 105 106,false),(iM 108 16,false),(iM 109 13,false),(iB 110 .rem 108 109,false),(iM 17 107,false),(iM 18 110,false)]
def SH:Rg:=[iM 111 17,iA 112 (.bin .geq (Tm 111) (.const (.int .u64 4294967296))),iM 113 112,gM 114 17 113 false,gM 115 14 113 false,gB 116 .mul 114 115 113 false,gM 117 18 113 false,iG 118 (.bin .shl (Tm 117) (.const (.int .u64 32))) 113 false,gM 119 9 113 false,gM 120 15 113 false,gM 121 11 113 false,gB 122 .add 120 121 113 false,gC 123 .sub 122 2 113 false,iG 124 (.a0Q 1 (Tm 119) (Tm 123)) 113 false,gL 125 124 113 false,iG 126 (.conv .u64 (Tm 125)) 113 false,gB 127 .or 118 126 113 false,gB 128 .gtr 116 127 113 false,iQ 129 113 128]
def AZ:Rg:=[iM 130 17,iA 131 (.bin .sub (Tm 130) (.const (.int .u64 1))),iM 17 131]
def BA:Rg:=[iM 132 18,iM 133 13,iB 134 .add 132 133,iM 18 134]
def BB:Rg:=[iM 135 18,iA 136 (.bin .geq (Tm 135) (.const (.int .u64 4294967296)))]
def tV:aC:=(.seq (sq SH (.cond (Tm 129) .skip (.exit 4))) (.block 5 (sq AZ (sq BA (sq BB (.cond (Tm 136) (.exit 4) .skip))))))
def BC:Rg:=[iM 137 9,iM 138 15,iM 139 15,iM 140 11,iB 141 .add 139 140,iC 142 .add 141 1,iA 143 (.slice 1 (Tm 137) (some (Tm 138)) (some (Tm 142)) none),iM 144 10,iM 145 17,iA 146 (.call 142 [(Tm 143),(Tm 144),(Tm 145)])]
def BD:Rg:=[iM 147 17,iA 148 (.bin .sub (Tm 147) (.const (.int .u64 1))),iM 17 148]
def BE:Rg:=[iM 149 9,iM 150 15,iM 151 15,iM 152 11,iB 153 .add 151 152,iC 154 .add 153 1,iA 155 (.slice 1 (Tm 149) (some (Tm 150)) (some (Tm 154)) none),iM 156 10,iK2 157 139 155 156]
def tW:Rg:=[iM 158 12,iM 159 15,iM 160 17,iA 161 (.conv .u32 (Tm 160)),iX 162 1 158 159,iS 1 162 161]
def SI:Rg:=[iM 86 15,iC 87 .sub 86 1,iM 15 87]
def AV:aC:=(.seq (sq SG (.cond (Tm 85) .skip (.exit 2))) (.seq (.block 3 (dq AX (dq AY (.seq (.block 4 (.loop tV)) (.seq (sq BC (.cond (Tm 146) (sq BD (.region BE)) .skip)) (.region tW)))))) (.region SI)))
def BF:Rg:=[iM 163 11,iA 164 (.a0H 1 4 [(.int .u32 0)] (Tm 163) (Tm 163)),iM 19 164]
def BG:Rg:=[iM 165 19,iN 166 165,iI 167 0]
def SJ:Rg:=[iB 168 .lss 167 166]
def SK:Rg:=[iM 169 167,iM 20 169]
def SL:Rd:=[(iM 170 19,false),(iM 171 20,false),(iM 172 9,false),(iM 173 20,false),(iC 174 .add 173 1,false),(iX 175 1 172 174,false),(iL 176 175,false),(iA 177 (.conv .u64 (Tm 176)),false),(iA 178 (.bin .shl (Tm 177) (.const (.int .u64 32))),false),(iM 179 9,false),(iM 180 20,false),(iX 181 1 179 180,false),(iL 182 181,false),(iA 183 (.conv .u64 (Tm 182)),false),(iB 184 .or 178 183,false),(iM 185 8,false),(iB 186 .shr 184 185,false),(iA 187 (.conv .u32 (Tm 186)),false),(iX 188 1 170 171,false),(iS 1 188 187,true)]
def SM:Rg:=[iC 189 .add 167 1,iM 167 189]
def AW:aC:=(sq SJ (.seq (.cond (Tm 168) .skip (.exit 6)) (.seq (.block 7 (sq SK (.draw SL))) (.region SM))))
def SN:Rd:=[(iM 190 12,true),(iM 191 12,false),(iK 192 138 191,true),(iA 193 (.slice 1 (Tm 190) none (some (Tm 192)) none),true),(iM 194 19,true),(iM 195 19,true),(iK 196 138 195,true),(iA 197 (.slice 1 (Tm 194) none (some (Tm 196)) none),false),(iM 4 193,false),(iM 5 197,false)]
def xV:aC:=(sq fh (.seq (sq fi (.cond (Tm 24) (sq fj .ret) .skip)) (.seq (sq fk (.cond (Tm 29) (sq fl (sq fm .ret)) .skip)) (sq fp (.seq (.block 0 (.loop ff)) (dq SB (sq SC (sq SD (dq SE (.seq (sq SF (.block 2 (.loop AV))) (sq BF (.seq (sq BG (.block 6 (.loop AW))) (dq SN .ret)))))))))))))
def aaF:List Nat:=[]
def QV:aR:=⟨2,198,xV,[.tmp 4,.tmp 5]⟩
def NU:Rg:=[iT 6 false]
def NV:Rg:=[iA 7 (.mv (.const (.int .u64 0))),iA 8 (.mv (.const (.int .u64 0)))]
def NW:Rg:=[iM 13 1,iN 14 13,iI 15 0]
def NX:Rg:=[iB 16 .lss 15 14]
def NY:Rg:=[iM 17 15,iX 18 1 13 15,iL 19 18,iM 9 17,iM 10 19]
def NZ:Rg:=[iM 20 7,iM 21 2,iM 22 10,iA 23 (.conv .u64 (Tm 22)),iB 24 .mul 21 23,iB 25 .add 20 24,iM 7 25]
def OA:Rg:=[iM 26 0,iM 27 9,iX 28 1 26 27,iL 29 28,iA 30 (.conv .u64 (Tm 29)),iM 31 7,iA 32 (.bin .and (Tm 31) (.const (.int .u64 4294967295))),iB 33 .sub 30 32,iM 34 8,iB 35 .sub 33 34,iM 11 35]
def OB:Rg:=[iM 36 0,iM 37 9,iM 38 11,iA 39 (.conv .u32 (Tm 38)),iX 40 1 36 37,iS 1 40 39]
def OC:Rg:=[iM 41 11,iA 42 (.bin .shr (Tm 41) (.const (.int .u64 63))),iM 8 42]
def OD:Rg:=[iM 43 7,iA 44 (.bin .shr (Tm 43) (.const (.int .u64 32))),iM 7 44]
def JT:Rg:=[iC 45 .add 15 1,iM 15 45]
def JS:aC:=(sq NX (.seq (.cond (Tm 16) .skip (.exit 0)) (.seq (.block 1 (sq NY (sq NZ (sq OA (sq OB (sq OC (.region OD))))))) (.region JT))))
def JU:Rg:=[iM 46 0,iM 47 1,iN 48 47,iX 49 1 46 48,iL 50 49,iA 51 (.conv .u64 (Tm 50)),iM 52 7,iB 53 .sub 51 52,iM 54 8,iB 55 .sub 53 54,iM 12 55]
def JV:Rg:=[iM 56 0,iM 57 1,iN 58 57,iM 59 12,iA 60 (.conv .u32 (Tm 59)),iX 61 1 56 58,iS 1 61 60]
def JW:Rg:=[iM 62 12,iA 63 (.bin .shr (Tm 62) (.const (.int .u64 63))),iA 64 (.bin .eql (Tm 63) (.const (.int .u64 1))),iM 6 64]
def tD:aC:=(sq NU (sq NV (.seq (sq NW (.block 0 (.loop JS))) (sq JU (sq JV (sq JW .ret))))))
def I2:List Nat:=[]
def zJ:aR:=⟨3,65,tD,[.tmp 6]⟩
def SR:Rg:=[iA 4 (.mv (.const (.int .u64 0)))]
def SS:Rg:=[iM 7 1,iN 8 7,iI 9 0]
def ST:Rg:=[iB 10 .lss 9 8]
def SU:Rg:=[iM 11 9,iX 12 1 7 9,iL 13 12,iM 5 11,iM 6 13]
def SV:Rg:=[iM 14 4,iM 15 0,iM 16 5,iX 17 1 15 16,iL 18 17,iA 19 (.conv .u64 (Tm 18)),iM 20 6,iA 21 (.conv .u64 (Tm 20)),iB 22 .add 19 21,iB 23 .add 14 22,iM 4 23]
def SW:Rg:=[iM 24 0,iM 25 5,iM 26 4,iA 27 (.conv .u32 (Tm 26)),iX 28 1 24 25,iS 1 28 27]
def SX:Rg:=[iM 29 4,iA 30 (.bin .shr (Tm 29) (.const (.int .u64 32))),iM 4 30]
def SY:Rg:=[iC 31 .add 9 1,iM 9 31]
def SP:aC:=(sq ST (.seq (.cond (Tm 10) .skip (.exit 0)) (.seq (.block 1 (sq SU (sq SV (sq SW (.region SX))))) (.region SY))))
def SZ:Rg:=[iM 32 0,iM 33 1,iN 34 33,iX 35 1 32 34,iL 36 35,iM 37 4,iA 38 (.conv .u32 (Tm 37)),iB 39 .add 36 38,iX 40 1 32 34,iS 1 40 39]
def uY:aC:=(sq SR (.seq (sq SS (.block 0 (.loop SP))) (.region SZ)))
def Nx:List Nat:=[]
def HV:aR:=⟨2,41,uY,[]⟩
open Go Go.RowKit Go.ChangeShapes Go.WideShapes
inductive AT where
 | one (ct:CT)
 | struct (cts:List CT)
 deriving Inhabited
def Xq (P:Program) (n:Nat) (t:TypeId):Option AT :=
 match P.underlying t with
 | some .bool=>some (.one .bool)
 | some (.int k)=>some (.one (.int k))
 | some .string=>some (.one .str)
 | some (.slice _)=>match fY P n t with
  | some [ct]=>some (.one ct)
  | _=>none
 | some (.struct _)=>(fY P n t).map .struct
 | _=>none
def CP (P:Program) (n:Nat):List TypeId→Option (List AT)
 | []=>some []
 | t::ts=>match Xq P n t,CP P n ts with
  | some a,some c=>some (a::c)
  | _,_=>none
inductive AT.Ty:AT→PV→Prop
 | one {ct:CT} {pv:PV} (h:PV.Ty ct pv):AT.Ty (.one ct) pv
 | struct {cts:List CT} {pvs:List PV} (hl:pvs.length=cts.length) (h:∀ (j:Nat) pv ct,pvs[j]?=some pv→cts[j]?=some ct→PV.Ty ct pv):AT.Ty (.struct cts) (.agg pvs)
def AT.TyL:List AT→List PV→Prop
 | [],[]=>True
 | a::c,p::ps=>AT.Ty a p∧AT.TyL c ps
 | _,_=>False
section
variable {H:Type} {enc:TypeId × Value→H} {P:Program} {W:World} {sp:Nat→Bool} {held:Bool}
theorem aOG {r:Reach} {y:Nat} (num:Nat→FuncId) {t:TypeId} {v:Value} {d:DataW H} {ps:List MemPlace} {n:Nat} {a:AT}
  (c:Value.okWide P W r y t v) (w:DataW.Trod enc P W 0 sp held t v d ps) (l:Xq P n t=some a):∃ pv,aY (Env.of W num) pv v∧AT.Ty a pv:=by
 unfold Xq at l;cases n with
 | zero =>
  split at l
  ·rename_i i;cases l;obtain⟨b,rfl⟩:=okWide_bool i c;obtain⟨pv,p,u⟩:=sS (n:=1) (ct:=.bool) num (by simp[Value.cells]) w (by simp[fY,i]);exact⟨pv,p,.one u⟩
  ·rename_i k i;cases l;obtain⟨b,rfl⟩:=okWide_int i c;obtain⟨pv,p,u⟩:=sS (n:=1) (ct:=.int k) num (by simp[Value.cells]) w (by simp[fY,i]);exact⟨pv,p,.one u⟩
  ·rename_i i;cases l;obtain⟨b,rfl⟩:=okWide_string i c;obtain⟨pv,p,u⟩:=sS (n:=1) (ct:=.str) num (by simp[Value.cells]) w (by simp[fY,i]);exact⟨pv,p,.one u⟩
  ·simp[fY] at l
  ·simp[fY] at l
  ·cases l
 | succ n =>
  split at l
  ·rename_i i;cases l;obtain⟨b,rfl⟩:=okWide_bool i c;obtain⟨pv,p,u⟩:=sS (n:=n+1) (ct:=.bool) num (by simp[Value.cells]) w (by simp[fY,i]);exact⟨pv,p,.one u⟩
  ·rename_i k i;cases l;obtain⟨b,rfl⟩:=okWide_int i c;obtain⟨pv,p,u⟩:=sS (n:=n+1) (ct:=.int k) num (by simp[Value.cells]) w (by simp[fY,i]);exact⟨pv,p,.one u⟩
  ·rename_i i;cases l;obtain⟨b,rfl⟩:=okWide_string i c;obtain⟨pv,p,u⟩:=sS (n:=n+1) (ct:=.str) num (by simp[Value.cells]) w (by simp[fY,i]);exact⟨pv,p,.one u⟩
  ·rename_i e i;split at l
   ·rename_i ct A;cases l;obtain⟨x,len,cap,rfl⟩:=okWide_slice i c;obtain⟨pv,p,u⟩:=sS num (by simp[Value.cells]) w A;exact⟨pv,p,.one u⟩
   ·cases l
  ·rename_i F i;rw[a1Q] at l;obtain⟨cts,A,rfl⟩:=l;obtain⟨E,p,u,B⟩:=Xr num i c w A;exact⟨_,p,.struct u B⟩
  ·cases l
theorem Pv {r:Reach} {e:Nat} (num:Nat→FuncId) {n:Nat}:∀ {ts:List TypeId} {vs:List Value} {ds:List (DataW H)} {ps:List MemPlace} {i:List AT},DataW.TrodAll enc P W 0 sp held ts vs ds ps →
  (∀ (j:Nat) t v,ts[j]?=some t→vs[j]?=some v→Value.okWide P W r e t v)→CP P n ts=some i→∃ c,eI (Env.of W num) c vs∧AT.TyL i c
 | [],[],_,_,i,_,_,h=>by simp[CP] at h;subst h;exact⟨[],.nil,trivial⟩
 | [],_::_,_,_,_,h,_,_=>h.elim
 | _::_,[],[],_,_,h,_,_=>h.elim
 | _::_,[],_::_,_,_,h,_,_=>h.elim
 | _::_,_::_,[],_,_,h,_,_=>h.elim
 | t::ts,v::vs,d::ds,ps,i,h,u,l=>by
  obtain⟨p,q,A,B,rfl⟩:=h;simp only[CP] at l;split at l
  ·rename_i a w x y;cases l;obtain⟨pv,r1,E⟩:=aOG num (u 0 t v rfl rfl) A x;obtain⟨c,r2,F⟩:=Pv num B (fun j t v a b=>u (j+1) t v (by simpa using a) (by simpa using b)) y;exact⟨pv::c,.cons r1 r2,E,F⟩
  ·cases l
theorem TrodAll.length:∀ {ts:List TypeId} {vs:List Value} {ds:List (DataW H)} {ps:List MemPlace},DataW.TrodAll enc P W 0 sp held ts vs ds ps→ds.length=ts.length
 | [],[],[],_,_=>rfl
 | [],[],_::_,_,h=>h.elim
 | [],_::_,_,_,h=>h.elim
 | _::_,[],[],_,h=>h.elim
 | _::_,[],_::_,_,h=>h.elim
 | _::_,_::_,[],_,h=>h.elim
 | t::ts,v::vs,d::ds,ps,h=>by obtain⟨p,q,e,c,rfl⟩:=h;simp[TrodAll.length c]
end
theorem A7 {H:Type} {enc:TypeId × Value→H} {P:Program} {f:FuncId} {fn:Func} {s:ChangeSpec} {apart fresh c:Bool} {bt:TypeId} {num:Nat→FuncId} {name n:Nat} {ats:List AT}
  (U:laidOutB P=true) (J:fn.params.toList.all (fun t=>P.readableRec t&&decide (t<P.types.size))=true) (E:fn.resultTypes=#[bt]) (B:P.underlying bt=some .bool) (N:s.vars=[])
  (X:∀ ds:List (DataW H),ds.length=fn.params.toList.length→(s.fn H ds).results=[.lit (.bool true)]∧(s.fn H ds).args=ds∧(s.fn H ds).vars=[])
  (w:num name=f) (Q:CP P n fn.params.toList=some ats) (h:∀ i,AT.TyL ats i→aF ⟨P,num⟩ name i PH.nil (aH (.bool true)))
  {W:World} {l:Nat} {args:Array Value} {ds O:List (DataW H)} {d:List MemPlace}
  (y:∀ (j:Nat) t v,fn.params[j]?=some t→args[j]?=some v→Value.okWide P W .any l t v) (hW:DataW.Whole enc P fn.params.toList s.vars apart W args.toList ds O d) :
  Calls P f args W fun e K=>∃ v,e=.returned v∧s.post enc P fn apart fresh c false W args v K:=by
 have x:∀ t∈fn.params.toList,P.readableRec t=true∧t<P.types.size:=fun t F=>by have:=a2F.1 J t F;simpa using this
 have A:=hW;obtain⟨p,q,M,hV,rfl,Z,Y⟩:=hW;rw[N] at hV;obtain⟨rfl,rfl⟩:=trodVars_none hV;obtain⟨i,V,F⟩:=Pv num M (fun j t v a b=>y j t v (by simpa using a) (by simpa using b)) Q;have u:=TrodAll.length M;subst w;obtain⟨r1,r2,r3⟩:=X (ds++[]) (by simpa using u);refine (ajP (C:=⟨P,num⟩) (h i F) V).mono fun e K S=>?_;obtain⟨rfl,R⟩:=S;exact⟨_,rfl,alZ U A R x E B N r1 (by rw[r2]; simp) r3⟩
attribute [go_sem] oZ gJ setCells PV.cells PV.one bW storeAt cR loadCells dZ bnd PV.slice PV.intOf PV.eqs PV.eq1 PV.un keyOf KS.of KS.ofs KS.sh List.all_cons List.all_nil a4R List.set_cons_succ a2J a4B a1Y a2W a2F a4N
attribute [go_sem] Bool.bne_false Bool.bne_true Int.le_refl Int.lt_irrefl decide_true decide_false exists_eq_left exists_eq_left' a1K List.length_replicate a3P Int.natCast_nonneg Option.isSome_some Option.isSome_none a4G Option.getD_none decide_eq_true_eq decide_eq_false_iff_not a2H a3S a1O Nat.sub_zero
def bC (xs:List Int):List (List PV):=xs.map fun n=>[.int .i64 n]
theorem bF {a b:Int} (h:a≠b):(a==b)=false:=by simp[h]
theorem bN {a b:Int} (h:a=b):(a==b)=true:=by simp[h]
theorem dX {a b:Int} (h:a≠b):(a != b)=true:=by simp[h]
theorem bR {a b:Int} (h:a=b):(a != b)=false:=by simp[h]
section
variable {H:PH}
@[go_sem] theorem PH.set_set (o:Nat) (x y:bY):(H.set o x).set o y=H.set o y:=PH.ext fun q=>by
 simp only[aV]; split<;>rfl
@[go_sem] theorem cP (o:Nat) (x:bY):(H.set o x) o=some x:=by simp only[aV,if_true]
end
section
variable {C:Ctx} {K:bV} {F:PF} {H:PH}
theorem PH.oM (o:Nat) (x:bY):H.over .nil (PH.nil.set o x)=H.set o x:=PH.ext fun q=>by
 rw[gS]; simp only[aV,QM]; split<;>simp_all
theorem PH.sG (o:Nat) (x y:bY):H.over (PH.nil.set o x) (PH.nil.set o y)=H.set o y:=PH.ext fun q=>by
 rw[gS]; simp only[aV,QM]; split<;>simp_all
theorem lY {name:Nat} {vs:List PV} {c:PH} {R:PV→PH→Prop} {args:List aN} {d:Option Nat} {K:PF→PH→Prop} (h:aF C name vs c R) (i:aN.evs F args=some vs) (e:c.le H)
  (l:∀ r H',R r H'→lJ H c H'→K (F.put d r) (H.over c H')):hL C name args [] d K F H :=
 .inl ⟨vs,c,R,by rw[i]; simp,e,h,l⟩
theorem aZ {res:List dH} {R:PV→PH→Prop} {vs:List PV} {e:kY} (x:e=.normal∨e=.ret) (c:PH) (h:dH.evs F H res=some vs) (d:c.le H) (w:R (cO vs) c):aX res R e F H:=by
 have i:∃ vs,dH.evs F H res=some vs∧∃ l p H2,iW (PF.nil.set 0 (cO vs)) H l p∧H2.le p∧∃ u,l 0=some u∧R u H2 :=
  ⟨vs,h,_,H,c,.refl _ _,d,cO vs,by rw[kC,if_pos rfl],w⟩
 rcases x with rfl | rfl<;>exact i
theorem azN {t o s k:Nat} {rs:List (List PV)} {R:PV→PH→Prop} {e:kY} (p:e=.normal∨e=.ret) (h:F t=some (.osl o s 0 k)) (w:H o=some (.rows s rs)) (x:k≤rs.length) (l:R (.sl s (rs.take k)) .nil) :
  aX [.tmp t] R e F H:=by
 have c:∃ vs,dH.evs F H [.tmp t]=some vs∧∃ d i H2,iW (PF.nil.set 0 (cO vs)) H d i∧H2.le i∧∃ u,d 0=some u∧R u H2:=by refine⟨[.osl o s 0 k],by rw[jZ,mM,h,nK],_,_,.nil,.step o w (.refl _ _),a_,.sl s (rs.take k),?_,l⟩;have:0+k≤rs.length:=Om;simp only[PF.frz,kC,if_true,cO,a2V,PV.frz,PV.rV,PV.cV,true_and,if_pos this,a2S]
 rcases p with rfl | rfl<;>exact c
def cD (v:PV) (r:PV) (H:PH):Prop:=Co r v∧H=PH.nil
theorem aF.aQG {name:Nat} {args:List PV} {H:PH} {v:PV} (h:aF C name args H (cD v)):aF C name args H (aH v) :=
 h.post fun r H' ⟨c,d⟩=>⟨v,c,rfl,d⟩
theorem aH.aQG {v r:PV} {H:PH} (h:aH v r H):cD v r H:=by
 obtain⟨rfl,rfl⟩:=h;exact⟨.refl _,rfl⟩
theorem sP {s b:Nat} {y:PV} {src:List (List PV)} {K:PV→PH→Prop} (i:dZ H s y=some src) (e:roomFor 0 src.length b) (c:src=[]→K .aB H)
  (d:src≠[]→∀ o,H o=none→K (.osl o s 0 src.length) (H.set o (.rows s src))):nA H s b .aB y K:=⟨src,i,e,c,d⟩
theorem Mm {o s b len:Nat} {rs:List (List PV)} {y:PV} {src:List (List PV)} {K:PV→PH→Prop} (p:dZ H s y=some src) (l:roomFor len src.length b) (i:H o=some (.rows s rs)) (e:len≤rs.length)
  (c:K (.osl o s 0 (len+src.length)) (H.set o (.rows s (rs.take len++src))))
  (d:∀ o',H o'=none→K (.osl o' s 0 (len+src.length)) (H.set o' (.rows s (rs.take len++src)))):nA H s b (.osl o s 0 len) y K :=
 ⟨src,p,rfl,rfl,l,rs,i,e,c,d⟩
end
def bP (H:PH) (s:Nat) (v:PV) (rows:List (List PV)):Prop :=
 (rows=[]∧v=.aB)∨∃ q rs,v=.osl q s 0 rows.length∧H q=some (.rows s rs)∧rows.length≤rs.length∧rs.take rows.length=rows
def Seen (s:Nat) (v:PV) (rows:List (List PV)):Prop:=(rows=[]∧v=.aB)∨v=.sl s rows
section
variable {C:Ctx} {K:bV} {F:PF} {H:PH} {s b:Nat} {v y:PV} {rows src:List (List PV)}
theorem bP.nil:bP H s .aB []:=.inl ⟨rfl,rfl⟩
theorem bP.view (h:bP H s v rows):dZ H s v=some rows:=by
 rcases h with ⟨rfl,rfl⟩ | ⟨q,rs,rfl,h1,h2,h3⟩
 ·rfl
 ·have:0+rows.length≤rs.length:=Om;simp only[dZ,if_true,h1,true_and,if_pos this,a2S,h3]
theorem Seen.view (h:Seen s v rows):dZ H s v=some rows:=by
 rcases h with ⟨rfl,rfl⟩ | rfl
 ·rfl
 ·simp[dZ]
theorem bP.ext {H':PH} (h:bP H s v rows) (c:∀ o x,H o=some x→H' o=some x):bP H' s v rows:=by
 rcases h with h | ⟨q,rs,h0,h1,h2,h3⟩
 ·exact .inl h
 ·exact .inr ⟨q,rs,h0,c q _ h1,h2,h3⟩
theorem gT {K:PV→PH→Prop} (h:bP H s v rows) (A:dZ H s y=some src) (w:roomFor rows.length src.length b)
  (u:∀ v' H',bP H' s v' (rows++src)→(∀ o x,H o=some x→(∀ l,v≠.osl o s 0 l)→H' o=some x)→K v' H'):nA H s b v y K:=by
 rcases h with ⟨rfl,rfl⟩ | ⟨q,rs,rfl,h1,h2,h3⟩
 ·refine⟨src,A,w,fun e=>?_,fun e o p=>?_⟩
  ·subst e;exact u _ _ (.inl ⟨rfl,rfl⟩) fun o x p _=>p
  ·refine u _ _ (.inr ⟨o,src,rfl,by simp only[aV,if_true],a1O _,by simp⟩) fun o' x c _=>?_;have:o'≠o:=by rintro rfl; rw[p] at c; cases c
   simp only[aV,if_neg this,c]
 ·have d:(rows++src).length=rows.length+src.length:=a1P;refine⟨src,A,rfl,rfl,w,rs,h1,h2,?_,fun o p=>?_⟩
  ·rw[h3];refine u _ _ (.inr ⟨q,rows++src,by rw[d],by simp only[aV,if_true],a1O _,a2O⟩) fun o' x c i=>?_;have:o'≠q:=by rintro rfl; exact i _ rfl
   simp only[aV,if_neg this,c]
  ·rw[h3];refine u _ _ (.inr ⟨o,rows++src,by rw[d],by simp only[aV,if_true],a1O _,a2O⟩) fun o' x c i=>?_;have B:o'≠o:=by rintro rfl; rw[p] at c; cases c
   simp only[aV,if_neg B,c]
def Pure (u:PV):Prop:=∀ q s rs,PV.frz q s rs u=u
theorem bP.frz (h:bP H s v rows):∃ d,Seen s d rows∧∀ F:PF,∃ c e,iW F H c e∧(∀ t,F t=some v→c t=some d)∧∀ i u,F i=some u→Pure u→c i=some u:=by
 rcases h with ⟨rfl,rfl⟩ | ⟨q,rs,rfl,h1,h2,h3⟩
 ·exact⟨.aB,.inl ⟨rfl,rfl⟩,fun F=>⟨F,H,.refl _ _,fun t h=>h,fun i u h _=>h⟩⟩
 ·refine⟨.sl s rows,.inr rfl,fun F=>⟨_,_,.step q h1 (.refl _ _),fun t p=>?_,fun i u hi l=>?_⟩⟩
  ·have:0+rows.length≤rs.length:=Om;simp only[PF.frz,p,a2V,PV.frz,PV.rV,PV.cV,if_true,true_and,if_pos this,a2S,h3]
  ·simp only[PF.frz,hi,a2V];rw[l]
theorem ij {t:Nat} {e:kY} (c:e=.normal∨e=.ret) (h:bP H s v rows) (d:F t=some v):aX [.tmp t] (cD (.sl s rows)) e F H:=by
 rcases h with ⟨rfl,rfl⟩ | ⟨q,rs,rfl,h1,h2,h3⟩
 ·exact aZ (vs:=[.aB]) c .nil (by rw[jZ,mM,d,nK]) a_ ⟨.nil s,rfl⟩
 ·exact azN c d h1 h2 ⟨by rw[h3]; exact .refl _,rfl⟩
end
end Go.PM
namespace Go.PM
open Go
section
variable {C:Ctx} {F:PF} {H:PH}
@[go_sem] theorem mK (o s:Nat) (rs:List (List PV)) (i:Nat):(F.frz o s rs) i=(F i).map (PV.frz o s rs):=(rfl)
theorem pK {name t o s k:Nat} {rs:List (List PV)} {v:PV} {d:Option Nat} {K:PF→PH→Prop} (h:aF C name [.sl s (rs.take k)] .nil (aH v)) (i:F t=some (.osl o s 0 k)) (e:H o=some (.rows s rs)) (l:k≤rs.length)
  (c:K ((F.frz o s rs).put d v) (H.frz o s rs)):hL C name [.tmp t] [] d K F H:=by
 refine .inr ⟨_,_,.step o e (.refl _ _),[.sl s (rs.take k)],.nil,aH v,?_,a_,h,?_⟩
 ·have:0+k≤rs.length:=Om;simp only[qJ,CS,CR,mK,i,a2V,PV.frz,PV.rV,PV.cV,if_true,true_and,if_pos this,a2S,a3J]
 ·rintro r H' ⟨rfl,rfl⟩ -;rw[PH.tG];exact c
end
end Go.PM
namespace Go.Na
def val:List Nat→Nat
 | []=>0
 | x::xs=>x+4294967296*val xs
def Lim (xs:List Nat):Prop:=∀ x∈xs,x<4294967296
def aE (n:Nat):List Nat:=if h:n=0 then [] else (n%4294967296)::aE (n/4294967296)
termination_by n
decreasing_by exact Nat.div_lt_self (a4A h) (by decide)
def nl (n:Nat):Nat:=(aE n).length
theorem dO:aE 0=[]:=by rw[aE]; simp
theorem qZ {n:Nat} (h:n≠0):aE n=(n%4294967296)::aE (n/4294967296):=by rw[aE]; simp[h]
theorem nI {n:Nat} (h:n≠0) (c:n<4294967296):aE n=[n]:=by
 rw[qZ h,a2U c,a4X c,dO]
theorem aT (n:Nat):val (aE n)=n:=by
 induction n using Nat.strongRecOn with
 | _ n c =>
  by_cases h:n=0
  ·subst h; rw[dO]; rfl
  ·rw[qZ h,val,c _ (Nat.div_lt_self (a4A h) (by decide))];exact Nat.mod_add_div n 4294967296
theorem aU (n:Nat):Lim (aE n):=by
 induction n using Nat.strongRecOn with
 | _ n c =>
  by_cases h:n=0
  ·subst h; rw[dO]; intro x hx; cases hx
  ·rw[qZ h];intro x hx;rw[a1R] at hx;rcases hx with rfl | hx
   ·exact a3C _ (by decide)
   ·exact c _ (Nat.div_lt_self (a4A h) (by decide)) x hx
theorem wW:nl 0=0:=by rw[nl,dO]; rfl
theorem akZ {n:Nat} (h:n≠0):nl n=nl (n/4294967296)+1:=by rw[nl,qZ h]; rfl
theorem iJ (n k:Nat):nl n≤k↔n<4294967296 ^ k:=by
 induction k generalizing n with
 | zero =>
  by_cases h:n=0
  ·subst h; simp[wW]
  ·rw[akZ h]; simp; omega
 | succ k c =>
  by_cases h:n=0
  ·subst h; simp[wW,a4F]
  ·rw[akZ h,Nat.succ_le_succ_iff,c,a3F,a4L (by decide)]
theorem gE {n:Nat}:nl n=0↔n=0:=by
 have:=iJ n 0;simp at this;exact this
theorem fS (xs ys:List Nat):val (xs++ys)=val xs+4294967296 ^ xs.length*val ys:=by
 induction xs with
 | nil=>simp[val]
 | cons x xs c =>simp only[List.cons_append,val,a3E,c,a3F];rw[a1U,a3V,← a2E,a2M 4294967296 (4294967296 ^ xs.length)]
theorem eY {xs:List Nat} (h:Lim xs):val xs<4294967296 ^ xs.length:=by
 induction xs with
 | nil=>simp[val]
 | cons x xs e =>have i:=h x (by simp);have c:=e fun y d=>h y (by simp[d]);simp only[val,a3E,a3F];have:4294967296*(val xs+1)≤4294967296*4294967296 ^ xs.length:=a3X _ c;rw[a1U,Nat.mul_one] at this;rw[a2M (4294967296 ^ xs.length)];omega
theorem Lim.app {xs ys:List Nat} (h:Lim xs) (k:Lim ys):Lim (xs++ys):=fun x c=>by
 rw[a3A] at c;exact c.elim (h x) (k x)
theorem Lim.take {xs:List Nat} (h:Lim xs) (n:Nat):Lim (xs.take n):=fun x c=>h x (List.mem_of_mem_take c)
theorem Lim.drop {xs:List Nat} (h:Lim xs) (n:Nat):Lim (xs.drop n):=fun x c=>h x (List.mem_of_mem_drop c)
theorem Lim.set {xs:List Nat} (h:Lim xs) (i:Nat) {v:Nat} (c:v<4294967296):Lim (xs.set i v):=fun x d=>by
 rcases List.mem_or_eq_of_mem_set d with h1 | h1
 ·exact h x h1
 ·subst h1; exact c
theorem uM (n:Nat):Lim (a1M n 0):=fun x c=>by
 rw[List.mem_replicate] at c; rw[c.2]; decide
theorem rH (n:Nat):val (a1M n 0)=0:=by
 induction n with
 | zero=>rfl
 | succ n c=>simp[List.replicate_succ,val,c]
theorem akF {xs:List Nat} (h:Lim xs) (p:∀ x,xs.getLast?=some x→x≠0):aE (val xs)=xs:=by
 induction xs with
 | nil=>simp[val,dO]
 | cons x xs F =>
  have i:=h x (by simp);have l:Lim xs:=fun y B=>h y (by simp[B]);cases xs with
  | nil =>have:=p x (by simp);simp only[val,Nat.mul_zero,a3S];exact nI this i
  | cons y ys =>
   have c:=F l fun z E=>p z (by rw[List.getLast?_cons_cons]; exact E);have A:val (y::ys)≠0:=fun e=>by rw[e,dO] at c; cases c
   have d:x+4294967296*val (y::ys)≠0:=by have:0<4294967296*val (y::ys):=Nat.mul_pos (by decide) (a4A A);omega
   show aE (x+4294967296*val (y::ys))=_;rw[qZ d];have u:(x+4294967296*val (y::ys))%4294967296=x:=by rw[Nat.add_mul_mod_self_left,a2U i]
   have w:(x+4294967296*val (y::ys))/4294967296=val (y::ys):=by rw[Nat.add_mul_div_left _ _ (by decide),a4X i,a2H]
   rw[u,w,c]
theorem Lp {xs:List Nat} {n:Nat} (h:∀ j x,n≤j→xs[j]?=some x→x=0):val (xs.take n)=val xs:=by
 have e:xs.drop n=a1M (xs.drop n).length 0:=by apply a4O (by simp);intro i c d;rw[List.getElem_replicate,List.getElem_drop];exact h (n+i) _ Om (a1V _)
 conv=>rhs; rw[← a4H n xs,fS,e,rH]
 simp
theorem IL {xs:List Nat} (l:Lim xs) {n:Nat} (i:n≤xs.length) (h:∀ j x,n≤j→xs[j]?=some x→x=0) (d:∀ x,0<n→xs[n-1]?=some x→x≠0):xs.take n=aE (val xs):=by
 rw[← Lp h,akF (l.take n)];intro x c;rw[List.getLast?_eq_getElem?,a2A,a3W i] at c;rcases a4D n with e | e
 ·subst e; simp at c
 ·rw[List.getElem?_take_of_lt Om] at c;exact d x e c
theorem Vf {xs:List Nat} (e:Lim xs) {n:Nat} (d:n≤xs.length) (h:∀ j x,n≤j→xs[j]?=some x→x=0) (c:∀ x,0<n→xs[n-1]?=some x→x≠0):nl (val xs)=n:=by
 rw[nl,← IL e d h c,a2A]; omega
theorem fG {xs:List Nat} (h:Lim xs):nl (val xs)≤xs.length:=(iJ _ _).2 (eY h)
theorem kA {xs : List Nat} (h : Lim xs) : xs.take (nl (val xs)) = aE (val xs) := by
  have hl := fG h;have e : val (xs.take (nl (val xs)) ++ xs.drop (nl (val xs))) = val xs := by rw [a4H]
  rw [fS, a2A, a3W hl] at e;have h1 := eY (h.take (nl (val xs)));rw [a2A, a3W hl] at h1;have h2 := (iJ (val xs) (nl (val xs))).1 (a1O _);have hd : val (xs.drop (nl (val xs))) = 0 := by
    rcases a4D (val (xs.drop (nl (val xs)))) with h | h
    · exact h
    · have := a3X (4294967296 ^ nl (val xs)) h
      omega
  have hz : ∀ j x, nl (val xs) ≤ j → xs[j]? = some x → x = 0 := by
    have zero : ∀ ys : List Nat, val ys = 0 → ∀ y ∈ ys, y = 0 := by
      intro ys
      induction ys with
      | nil => intro _ y hy; cases hy
      | cons z zs ih =>
        intro hv y hy;simp only [val] at hv;rw [a1R] at hy;rcases hy with rfl | hy
        · omega
        · exact ih (by have : 4294967296 * val zs = 0 := Om
                       rcases Nat.mul_eq_zero.1 this with h | h
                       · cases h
                       · exact h) y hy
    intro j x hj hx;refine zero _ hd x ?_;rw [List.mem_iff_getElem?];exact ⟨j - nl (val xs), by rw [List.getElem?_drop, Nat.add_sub_cancel' hj]; exact hx⟩
  refine IL h hl hz fun x hpos hx e => ?_;subst e;have hz2 : ∀ j x, nl (val xs) - 1 ≤ j → xs[j]? = some x → x = 0 := fun j y hj hy => by
    rcases a2D j (nl (val xs)) with h3 | h3
    · have : j = nl (val xs) - 1 := Om
      subst this; rw [hx] at hy; cases hy; rfl
    · exact hz j y h3 hy
  have h3 := Lp hz2;have h4 := eY (h.take (nl (val xs) - 1));rw [h3, a2A, a3W Om] at h4;have := (iJ (val xs) (nl (val xs) - 1)).2 h4;omega
theorem J6 {xs:List Nat} (h:Lim xs) {n:Nat} (l:nl (val xs)=n+1):∃ x,xs[n]?=some x∧x≠0:=by
 have p:=fG h;refine⟨xs[n]'Om,a1V _,fun e=>?_⟩;have i:=kA h;have c:=aT (val xs);rw[← i,l,a3I Om,e,fS] at c;simp only[val,Nat.mul_zero,a3S] at c;have d:=eY (h.take n);rw[c,a2A,a3W Om] at d;have:=(iJ (val xs) n).2 d;omega
theorem rF (xs:List Nat) {k:Nat} (h:k<xs.length):val xs=val (xs.take k)+4294967296 ^ k*(xs[k]+4294967296*val (xs.drop (k+1))):=by
 conv=>lhs; rw[← a4H k xs,fS,a2A,a3W Om,a3K h]
 rfl
theorem ZG {xs ys:List Nat} (p:Lim xs) {k:Nat} (c:k<xs.length) (d:k<ys.length) (l:xs.drop (k+1)=ys.drop (k+1)) (h:xs[k]<ys[k]):val xs<val ys:=by
 rw[rF xs c,rF ys d,l];have e:=eY (p.take k);rw[a2A,a3W Om] at e;have i:4294967296 ^ k*(xs[k]+4294967296*val (ys.drop (k+1))+1)≤4294967296 ^ k*(ys[k]+4294967296*val (ys.drop (k+1))):=a3X _ Om;rw[a1U _ _ 1,Nat.mul_one] at i;omega
def cU (a b:Nat):Int:=if a<b then -1 else if b<a then 1 else 0
theorem qx {xs ys:List Nat} {k:Nat} (c:k<xs.length) (d:k<ys.length) (e:xs.drop (k+1)=ys.drop (k+1)) (h:xs[k]=ys[k]):xs.drop k=ys.drop k:=by
 rw[a3K c,a3K d,e,h]
theorem fE {a b:Nat} (h:a≤b):nl a≤nl b:=(iJ a _).2 (Nat.lt_of_le_of_lt h ((iJ b _).1 (a1O _)))
theorem Av {xs:List Nat} (h:Lim xs) {j:Nat} (c:j<nl (val xs)):∃ (d:j<xs.length) (i:j<(aE (val xs)).length),xs[j]=(aE (val xs))[j]:=by
 have l:=fG h;refine⟨by omega,c,?_⟩;have e:=kA h;have:(xs.take (nl (val xs)))[j]?=(aE (val xs))[j]?:=by rw[e]
 rw[List.getElem?_take_of_lt c,a1V Om,a1V c] at this;exact a3T.inj this
def cJ (n:Nat):Nat:=if h:n=0 then 0 else cJ (n/2)+1
termination_by n
decreasing_by exact Nat.div_lt_self (a4A h) (by decide)
theorem kK:cJ 0=0:=by rw[cJ]; simp
theorem qH {n:Nat} (h:n≠0):cJ n=cJ (n/2)+1:=by rw[cJ]; simp[h]
theorem lH (n k:Nat):cJ n≤k↔n<2 ^ k:=by
 induction k generalizing n with
 | zero =>
  by_cases h:n=0
  ·subst h; simp[kK]
  ·rw[qH h]; simp; omega
 | succ k c =>
  by_cases h:n=0
  ·subst h; simp[kK,a4F]
  ·rw[qH h,Nat.succ_le_succ_iff,c,a3F,a4L (by decide)]
theorem jN {n:Nat}:cJ n=0↔n=0:=by
 have:=lH n 0;simp at this;exact this
theorem Aw {hi lo k:Nat} (l:lo<2 ^ k) (e:hi≠0):cJ (lo+2 ^ k*hi)=k+cJ hi:=by
 apply Nat.le_antisymm
 ·rw[lH,Nat.pow_add];have c:=(lH hi _).1 (a1O _);have:2 ^ k*(hi+1)≤2 ^ k*2 ^ cJ hi:=a3X _ c;rw[a1U,Nat.mul_one] at this;omega
 ·obtain⟨b,d⟩:∃ b,cJ hi=b+1:=⟨cJ hi-1,by have:=mt jN.1 e; omega⟩;rw[d];rcases a2D (cJ (lo+2 ^ k*hi)) (k+(b+1)) with h | h
  ·have c:=(lH (lo+2 ^ k*hi) (k+b)).1 Om;rw[Nat.pow_add] at c;have i:¬ hi<2 ^ b:=fun h=>by have:=(lH hi b).2 h; omega
   have:2 ^ k*2 ^ b≤2 ^ k*hi:=a3X _ Om;omega
  ·exact h
theorem jE (n k:Nat):cJ n≤32*k↔nl n≤k:=by
 rw[lH,iJ,Nat.pow_mul]
end Go.Na
namespace Go.PM
theorem Lq {F c:PF} (h:F.le c:=by (repeat' (first|exact d_|refine c_ ?_ ?_))<;>first|(simp only[go_sem]<;>rfl)|rfl|assumption):F.le c:=h
end Go.PM
namespace Go.PM
open Go Go.Na
abbrev aI (xs:List Nat):List (List PV):=xs.map fun (n:Nat)=>[PV.int .u32 (n:Int)]
abbrev aG (xs:List Nat):PV:=.sl 1 (xs.map fun (n:Nat)=>[PV.int .u32 (n:Int)])
theorem bU (xs:List Nat):(aI xs).length=xs.length:=by simp
theorem bL (xs:List Nat) {i:Nat} (h:i<xs.length):(aI xs)[i]?=some [.int .u32 (xs[i]:Nat)]:=by simp[h]
theorem t8 (xs:List Nat) (k:Nat):aG (xs.take k)=.sl 1 ((xs.map fun (n:Nat)=>[PV.int .u32 (n:Int)]).take k):=by rw[aG,List.map_take]
theorem cF (n:Nat):IntKind.u32.wrap (n:Int)=((n%4294967296:Nat):Int):=by
 have e:IntKind.u32.wrap (n:Int)=(n:Int)%4294967296:=by simp[IntKind.wrap,IntKind.bits,IntKind.signed]
 rw[e]; rfl
theorem uV {k:Nat} (h:k≤9223372036854775807) (c:0<k):IntKind.i64.wrap ((k:Int)-1)=((k-1:Nat):Int):=by
 rw[wrap_i64 Om Om]; omega
def aaK (xs:List Nat) (n:Nat):PF:=((PF.nil.set 0 (aG xs)).set 3 (.int .i64 n))
theorem gr {C:Ctx} (xs:List Nat) (w:Lim xs) (A:xs.length≤35184372087808):oL.wp C (aX wX.res (aH (.int .i64 (nl (val xs):Nat)))) (PF.args [aG xs]) .nil:=by
 simp only[go_sem,oL,HQ,HR,wX];refine wp_loop (α:=Nat) (aaK xs) (fun _=>.nil) (fun n=>n≤xs.length∧∀ j x,n≤j→xs[j]?=some x→x=0) (fun n=>n) xs.length ⟨a1O _,fun j x h e=>by rw[a2Z h] at e; cases e⟩ ?_ a_ ?_
 ·unfold aaK;exact Lq
 rintro n ⟨u,p⟩;have out:(∀ x,0<n→xs[n-1]?=some x→x≠0)→nl (val xs)=n:=fun h=>Vf w u p h;simp only[go_sem,HP,HS,aaK];by_cases i:(n:Int)>0
 ·have l:0<n:=Om;have hi:=bL xs (Om:n-1<xs.length);simp only[go_sem,i,uV (Om:n≤9223372036854775807) l,hi];by_cases d:xs[n-1]=0
  ·simp only[go_sem,bN (Om:((xs[n-1]:Nat):Int)=0),HT,uV (Om:n≤9223372036854775807) l];refine aK (n-1) ⟨by omega,fun j x y c=>?_⟩ Om ?_ a_
   ·rcases a2D j n with h | h
    ·have:j=n-1:=Om;subst this;rw[a1V Om] at c;cases c; exact d
    ·exact p j x h c
   ·exact Lq
  ·simp only[go_sem,bF (Om:((xs[n-1]:Nat):Int)≠0),sE];refine bE (.inr rfl) rfl ?_;rw[out fun x _ c=>by rw[a1V Om] at c; cases c; exact d];rfl
 ·simp only[go_sem,i,sE];refine bE (.inr rfl) rfl ?_;rw[out fun x h=>by omega];rfl
theorem uq {C:Ctx} (xs:List Nat) (c:aF C 138 [aG xs] .nil (aH (.int .i64 (nl (val xs):Nat)))):BI.wp C (aX fw.res (aH (.bool (decide (nl (val xs)>512))))) (PF.args [aG xs]) .nil:=by
 simp only[go_sem,BI,ut,uu,fw];refine aA c rfl ?_;simp only[go_sem];refine bE (.inr rfl) rfl ?_;simp only[cO,PV.bool.injEq,decide_eq_decide];omega
def szL (n:Nat):List Nat:=if nl n>512 then [] else aE n
def szE (n:Nat):Int:=if nl n>512 then 2 else 0
def szV (n:Nat):PV:=.tup [aG (szL n),.int .i64 (szE n)]
theorem vp {C:Ctx} (xs:List Nat) (l:Lim xs) (c:aF C 138 [aG xs] .nil (aH (.int .i64 (nl (val xs):Nat)))):BL.wp C (aX gv.res (cD (szV (val xs)))) (PF.args [aG xs]) .nil:=by
 simp only[go_sem,BL,vq,vr,gv];refine aA c rfl ?_;simp only[go_sem,vt];by_cases h:nl (val xs)>512
 ·have i:((nl (val xs):Nat):Int)>512:=Om;simp only[go_sem,i,vu];refine aZ (vs:=[.aB,.int .i64 2]) (.inr rfl) .nil rfl a_ ⟨?_,rfl⟩;rw[szV,szL,szE,if_pos h,if_pos h];refine .tup rfl fun j p q d e=>?_
  match j with
  | 0=>simp at d e; subst d; subst e; exact .nil 1
  | 1=>simp at d e; subst d; subst e; exact .refl _
  | j+2=>simp at d
 ·have i:¬ ((nl (val xs):Nat):Int)>512:=Om;have w:=fG l;have u:((nl (val xs):Nat):Int)≤(xs.length:Nat):=Om;simp only[go_sem,i,vw,u,or_true,a2S];refine aZ (.inr rfl) .nil rfl a_ ⟨?_,rfl⟩;rw[szV,szL,szE,if_neg h,if_neg h,← kA l,t8];exact .refl _
theorem Il {C:Ctx} (v:Nat) (H:v<18446744073709551616) (d:∀ xs,Lim xs→xs.length≤35184372087808→aF C 138 [aG xs] .nil (aH (.int .i64 (nl (val xs):Nat)))) :
  HU.wp C (aX zj.res (aH (aG (aE v)))) (PF.args [.int .u64 v]) .nil:=by
 have w:IntKind.u32.wrap ((v:Nat):Int)=((v%4294967296:Nat):Int):=cF v;have y:Int.fdiv ((v:Nat):Int) 4294967296=((v/4294967296:Nat):Int):=by rw[Int.fdiv_eq_ediv_of_nonneg _ (by decide)]; rfl
 have l:v/4294967296<4294967296:=Om;have A:IntKind.u32.wrap ((v/4294967296:Nat):Int)=((v/4294967296:Nat):Int):=by rw[cF,a2U l]
 have e:Lim [v%4294967296,v/4294967296]:=by
  intro x u;simp only[a1R,List.mem_nil_iff,or_false] at u;rcases u with rfl | rfl
  ·exact a3C _ (by decide)
  ·exact l
 have c:val [v%4294967296,v/4294967296]=v:=by simp only[val,Nat.mul_zero,a3S]; exact Nat.mod_add_div v 4294967296
 have F:∀ a b:Int,PV.bin .shr (.int .u64 a) (.int .u64 b)=shift .shr .u64 a b:=fun _ _=>rfl;have i:shift .shr .u64 (v:Int) 32=some (.int .u64 ((v/4294967296:Nat):Int)):=by
  unfold shift;rw[if_neg (by decide)];simp only;have:min (Int.toNat 32) IntKind.u64.bits=32:=by decide
  rw[this];rw[show (2:Int) ^ 32=4294967296 by decide,y]
 simp only[go_sem,HU,Im,In,zj,w,i,A];have E:(2:Nat)*1≤16777216:=by decide
 simp only[go_sem,Io];refine aA (d [v%4294967296,v/4294967296] e (by simp)) rfl ?_;have p:=fG e;rw[c] at p ⊢;have B:((nl v:Nat):Int)≤((2:Nat):Int):=by simp at p; omega
 simp only[go_sem,B,or_true,a2S];refine bE (.inr rfl) rfl ?_;have:=kA e;rw[c] at this;rw[← this,t8];rfl
theorem I3 {C:Ctx} (xs:List Nat) (d:Lim xs) (l:xs.length≤35184372087808) (c:aF C 138 [aG xs] .nil (aH (.int .i64 (nl (val xs):Nat)))) :
  HW.wp C (aX zk.res (cD (aG (aE (val xs))))) (PF.args [aG xs]) .nil:=by
 simp only[go_sem,HW,I4,I5,zk];refine aA c rfl ?_;have p:=fG d;have e:((nl (val xs):Nat):Int)≤(xs.length:Nat):=Om;simp only[go_sem,e,or_true,a2S];refine gT (rows:=[]) (src:=aI (aE (val xs))) .nil ?_ ?_ fun v H' i _=>?_
 ·simp only[go_sem];rw[← kA d,← List.map_take]
 ·unfold roomFor;rw[bU];have:(aE (val xs)).length=nl (val xs):=rfl;simp only[a3Z,maxLen];omega
 ·exact ij (.inr rfl) (by simpa using i) rfl
end Go.PM
theorem Sq {p:Prop} (h:p:=by simp only[go_sem]):p:=h
theorem Ev {p:Prop} (h:p:=by simp only[go_sem]<;>rfl):p:=h
namespace Go.PM
open Go Go.Na
def aaB (xs ys:List Nat) (i:Int):PF:=(((PF.nil.set 0 (aG xs)).set 1 (aG ys)).set 7 (.int .i64 i))
theorem Tx {C:Ctx} (xs ys:List Nat) (F:Lim xs) (H:Lim ys) (Z:xs.length≤35184372087808) (ly:ys.length≤35184372087808) (u:aF C 138 [aG xs] .nil (aH (.int .i64 (nl (val xs):Nat)))) (w:aF C 138 [aG ys] .nil (aH (.int .i64 (nl (val ys):Nat)))) :
  NK.wp C (aX aaA.res (aH (.int .i64 (cU (val xs) (val ys))))) (PF.args [aG xs,aG ys]) .nil:=by
 simp only[go_sem,NK,Tz,T0,aaA];refine aA u Ev ?_;simp only[go_sem];refine aA w Ev ?_;simp only[go_sem,T1];have U:=fG F;have O:=fG H;by_cases V:nl (val xs)<nl (val ys)
 ·have c:((nl (val xs):Nat):Int)<(nl (val ys):Nat):=Om;simp only[go_sem,c,T2];refine bE (.inr rfl) Ev ?_;have:val xs<val ys:=by
   rcases a2D (val xs) (val ys) with h | h
   ·exact h
   ·have:=fE h; omega
  simp[cO,cU,this]
 have c:¬ ((nl (val xs):Nat):Int)<(nl (val ys):Nat):=Om;simp only[go_sem,c,T3];by_cases W:nl (val xs)>nl (val ys)
 ·have d:((nl (val xs):Nat):Int)>(nl (val ys):Nat):=Om;simp only[go_sem,d,T4];refine bE (.inr rfl) Ev ?_;have:val ys<val xs:=by
   rcases a2D (val ys) (val xs) with h | h
   ·exact h
   ·have:=fE h; omega
  have l:¬ val xs<val ys:=Om;simp[cO,cU,this,l]
 have d:¬ ((nl (val xs):Nat):Int)>(nl (val ys):Nat):=Om;have S:nl (val xs)=nl (val ys):=Om;simp only[go_sem,d,T5];have ex:=aT (val xs);have i:=aT (val ys);have M:=aU (val xs);have N:=aU (val ys);refine wp_loop (α:=Nat) (fun k=>aaB xs ys ((k:Int)-1)) (fun _=>.nil) (fun k=>k≤nl (val xs)∧(aE (val xs)).drop k=(aE (val ys)).drop k) (fun k=>k) (nl (val xs)) ⟨a1O _,?_⟩ ?_ a_ ?_
 ·rw[a5C (by rw[nl]; exact a1O _),a5C (by rw[S,nl]; exact a1O _)]
 ·unfold aaB
  (repeat' (first|exact d_|refine c_ ?_ ?_))<;>first|(simp only[go_sem,wrap_i64 (show -9223372036854775808≤((nl (val xs):Nat):Int)-1 by omega) (show ((nl (val xs):Nat):Int)-1≤9223372036854775807 by omega)]<;>rfl)|rfl
 rintro k ⟨Y,e⟩;simp only[go_sem,Ia,T6,aaB];by_cases X:0<k
 ·obtain⟨m,rfl⟩:∃ m,k=m+1:=⟨k-1,by omega⟩;have x:((m+1:Nat):Int)-1=(m:Int):=Om;have p:(m:Int)≥0:=Om;obtain⟨J,y,A⟩:=Av F (Om:m<nl (val xs));obtain⟨K,B,E⟩:=Av H (Om:m<nl (val ys));simp only[go_sem,x,p];refine bX .nil eH a_ ?_;simp only[go_sem,T7,bL xs J,bL ys K];by_cases Q:xs[m]<ys[m]
  ·simp only[go_sem,show ((xs[m]:Nat):Int)<(ys[m]:Nat) by omega,T8];refine bE (.inr rfl) Ev ?_;have:=ZG M y B e (by rw[← A,← E]; exact Q);rw[ex,i] at this;simp[cO,cU,this]
  ·simp only[go_sem,show ¬ ((xs[m]:Nat):Int)<(ys[m]:Nat) by omega];refine bX .nil eH a_ ?_;simp only[go_sem,Ib,bL xs J,bL ys K];by_cases R:xs[m]>ys[m]
   ·simp only[go_sem,show ((xs[m]:Nat):Int)>(ys[m]:Nat) by omega,Ic];refine bE (.inr rfl) Ev ?_;have:=ZG N B y e.symm (by rw[← A,← E]; exact R);rw[ex,i] at this;have l:¬ val xs<val ys:=Om;simp[cO,cU,this,l]
   ·simp only[go_sem,show ¬ ((xs[m]:Nat):Int)>(ys[m]:Nat) by omega,Id];refine aK m ⟨by omega,qx y B e (by rw[← A,← E]; omega)⟩ Om ?_ a_
    (repeat' (first|exact d_|refine c_ ?_ ?_))<;>first|(simp only[go_sem,wrap_i64 (Om:-9223372036854775808≤(m:Int)-1) (Om:(m:Int)-1≤9223372036854775807)]<;>rfl)|rfl
 ·have:k=0:=Om;subst this;have x:¬ ((0:Nat):Int)-1≥0:=by decide
  simp only[go_sem,x,Ie];refine bE (.inr rfl) Ev ?_;rw[a2S,a2S] at e;have:val xs=val ys:=by rw[← ex,← i,e]
  simp[cO,cU,this]
def Hp (k:Nat) (v:Nat):PF:=((PF.nil.set 4 (.int .i64 k)).set 5 (.int .u32 v))
theorem Hr {C:Ctx} (xs:List Nat) (w:Lim xs) (U:xs.length≤35184372087808) (x:aF C 138 [aG xs] .nil (aH (.int .i64 (nl (val xs):Nat)))) :
  HF.wp C (aX zi.res (aH (.int .i64 (cJ (val xs):Nat)))) (PF.args [aG xs]) .nil:=by
 simp only[go_sem,HF,Ht,Hu,zi];refine aA x Ev ?_;simp only[go_sem,Hv];have R:=fG w;by_cases K:nl (val xs)=0
 ·simp only[go_sem,bN (show ((nl (val xs):Nat):Int)=0 by omega),Hw];refine bE (.inr rfl) Ev ?_;have:val xs=0:=gE.1 K;simp[cO,this,kK]
 obtain⟨n,J⟩:∃ n,nl (val xs)=n+1:=⟨nl (val xs)-1,by omega⟩;obtain⟨t,p,y⟩:=J6 w J;have u:t<4294967296:=w t (a3R p);have c:n<xs.length:=Om;have Q:val xs=val (xs.take n)+4294967296 ^ n*t:=by
  have e:=kA w;have:=aT (val xs);have O:xs[n]=t:=by rw[a1V c] at p; exact a3T.inj p
  rw[← e,J,a3I c,O,fS,a2A,a3W Om] at this;simp only[val,Nat.mul_zero,a3S] at this;exact this.symm
 have S:cJ (val xs)=32*n+cJ t:=by
  have E:=eY (w.take n);rw[a2A,a3W Om] at E;rw[Q,show (4294967296:Nat) ^ n=2 ^ (32*n) by rw[Nat.pow_mul]] at *
  exact Aw E y
 have d:(aI xs)[n]?=some [.int .u32 (t:Nat)]:=by rw[bL xs c];rw[a1V c] at p;rw[a3T.inj p]
 have M:IntKind.i64.wrap (((nl (val xs):Nat):Int)-1)=(n:Int):=by rw[wrap_i64 Om Om]; omega
 have N:IntKind.i64.wrap ((n:Int)*32)=((32*n:Nat):Int):=by rw[wrap_i64 Om Om]; omega
 simp only[go_sem,bF (show ((nl (val xs):Nat):Int)≠0 by omega),Hx,Hy,M,N,d];refine wp_loop (α:=Nat × Nat) (fun a=>Hp a.1 a.2) (fun _=>.nil) (fun a=>a.1+cJ a.2=32*n+cJ t∧a.2<4294967296) (fun a=>a.2) (32*n,t) ⟨rfl,u⟩ ?_ a_ ?_
 ·unfold Hp;exact Lq
 rintro⟨k,v⟩ ⟨F,hlt⟩;simp only at F hlt;have H:cJ t≤32:=(lH t 32).2 u;simp only[go_sem,Hq,Hz,Hp];by_cases B:(v:Int)>0
 ·have A:v≠0:=Om;have i:PV.bin .shr (.int .u32 (v:Int)) (.int .u64 1)=some (.int .u32 ((v/2:Nat):Int)):=by
   show shift .shr .u32 (v:Int) 1=_;unfold shift;rw[if_neg (by decide)];simp only;have:min (Int.toNat 1) IntKind.u32.bits=1:=by decide
   rw[this,show (2:Int) ^ 1=2 by decide,Int.fdiv_eq_ediv_of_nonneg _ (by decide)];rfl
  have l:shift .shr .u32 (v:Int) 1=some (.int .u32 ((v/2:Nat):Int)):=i;simp only[go_sem,B,H8,H9,i,l,wZz k];refine aK (k+1,v/2) ⟨?_,?_⟩ (Nat.div_lt_self Om (by decide)) ?_ a_
  ·have:=qH A;simp only; omega
  ·simp only; omega
  ·exact Lq
 ·have:v=0:=Om;subst this;simp only[go_sem,B,uk];refine bE (.inr rfl) Ev ?_;rw[kK] at F;simp only[cO,PV.int.injEq,true_and];omega
structure oS (C:Ctx):Prop where
 length:∀ xs,Lim xs→xs.length≤35184372087808→aF C 138 [aG xs] .nil (aH (.int .i64 (nl (val xs):Nat)))
 large:∀ xs,Lim xs→xs.length≤35184372087808→aF C 137 [aG xs] .nil (aH (.bool (decide (nl (val xs)>512))))
 sized:∀ xs,Lim xs→xs.length≤35184372087808→aF C 141 [aG xs] .nil (aH (szV (val xs)))
 trim:∀ xs,Lim xs→xs.length≤35184372087808→aF C 135 [aG xs] .nil (aH (aG (aE (val xs))))
 make:∀ v:Nat,v<18446744073709551616→aF C 132 [.int .u64 v] .nil (aH (aG (aE v)))
 cmp:∀ xs ys,Lim xs→Lim ys→xs.length≤35184372087808→ys.length≤35184372087808→aF C 129 [aG xs,aG ys] .nil (aH (.int .i64 (cU (val xs) (val ys))))
def jX:PV→List Nat
 | .sl _ rows=>rows.map fun r=>match r with | [.int _ n]=>n.toNat | _=>0
 | _=>[]
theorem eN (xs:List Nat):jX (aG xs)=xs:=by
 simp[jX,List.map_map,Function.comp_def]
def Z9:Spec:=fun name vs=>match name,vs with
 | 138,[x]=>some ([],fun _=>aH (.int .i64 (nl (val (jX x)):Nat)))
 | _,_=>none
theorem nJ (xs:List Nat):Z9 138 [aG xs]=some ([],fun _=>aH (.int .i64 (nl (val xs):Nat))):=by
 show some _=_; rw[eN]
theorem wZ (P:List Nat) (k v:Nat):(P++a1M (k+1) 0).set P.length v=(P++[v])++a1M k 0:=by
 rw[a4P _ _ (a1O _),Nat.sub_self,List.replicate_succ,a4R,a2T];rfl
theorem fH (L:List Nat) (i v:Nat):(aI L).set i [.int .u32 (v:Int)]=aI (L.set i v):=by
 unfold aI; rw[List.map_set]
theorem jD (P:List Nat) (v:Nat):val (P++[v])=val P+4294967296 ^ P.length*v:=by
 rw[fS]; simp[val]
theorem cA (xs:List Nat) {i:Nat} (h:i<xs.length):val (xs.take (i+1))=val (xs.take i)+4294967296 ^ i*xs[i]:=by
 rw[a3I h,jD,a2A,a3W Om]
theorem wH {v:Nat}:shift .shr .u64 (v:Int) 32=some (.int .u64 ((v/4294967296:Nat):Int)):=by
 unfold shift;rw[if_neg (by decide)];simp only;have:min (Int.toNat 32) IntKind.u64.bits=32:=by decide
 rw[this,show (2:Int) ^ 32=4294967296 by decide,Int.fdiv_eq_ediv_of_nonneg _ (by decide)];rfl
theorem eZ {a b:Nat} (h:a+b<18446744073709551616):IntKind.u64.wrap ((a:Int)+(b:Int))=((a+b:Nat):Int):=by
 rw[wrap_u64 Om Om]; omega
theorem bD {a:Nat} (h:a<18446744073709551616):IntKind.u64.wrap (a:Int)=(a:Int):=wrap_u64 Om Om
def fe (a b:List Nat) (o i c:Nat):PF:=(((((((PF.nil.set 0 (aG a)).set 1 (aG b)).set 6 (.osl o 1 0 (a.length+1))).set 7 (.int .u64 c)).set 35 (.int .i64 (a.length:Nat))).set 34 (aG a)).set 36 (.int .i64 i))
theorem t7 {C:Ctx} (L:oS C) (a b:List Nat) (ha:Lim a) (hb:Lim b) (hl:b.length≤a.length) (h1:a.length≤1000) (F:PF) (f0:F 0=some (aG a)) (f1:F 1=some (aG b)) :
  aC.wp C (.seq (.region l4) (.seq (.region l5) (.seq (.seq (.region l6) (.block 0 (.loop WK))) (.seq (.region WO) (.seq (.region WP) .ret))))) (aX [.tmp 4,.tmp 5] (cD (szV (val a+val b)))) F .nil:=by
 have O:IntKind.i64.wrap ((a.length:Int)+1)=((a.length+1:Nat):Int):=dC Om;have η:((a.length+1:Nat):Int)*((4:Nat):Int)≤140737488355328:=Om;have θ:((a.length+1:Nat):Int)≤9223372036854775807:=Om;have hz:a1M (a.length+1) [PV.int .u32 0]=aI ([]++a1M (a.length+1) 0):=by simp[aI]
 simp only[go_sem,l4,f0,O,η,θ,hz];refine aQ fun o ho=>?_;simp only[go_sem,l5,l6,f0];refine wp_loop (α:=List Nat × Nat × Nat) (fun s=>fe a b s.2.2 s.1.length s.2.1) (fun s=>PH.nil.set s.2.2 (.rows 1 (aI (s.1++a1M (a.length+1-s.1.length) 0))))
  (fun s=>s.1.length≤a.length∧Lim s.1∧s.2.1≤1∧val s.1+4294967296 ^ s.1.length*s.2.1=val (a.take s.1.length)+val (b.take s.1.length)) (fun s=>a.length-s.1.length) ([],0,o) ⟨by simp,by simp[Lim],by simp,by simp[val]⟩ ?_ ?_ ?_
 ·unfold fe;exact Lq
 ·exact PH.aL a_ (by simp only[go_sem,a3Z])
 rintro⟨P,c,q⟩ ⟨hP,d,hc,w⟩;simp only at hP d hc w;simp only[go_sem,WK,Tw,fe];by_cases V:P.length<a.length
 ·have A:(P.length:Int)<(a.length:Nat):=Om;have ι:=ha _ (a1N V);obtain⟨k,S⟩:∃ k,a.length+1-P.length=k+1:=⟨a.length-P.length,by omega⟩;have H:(aI (P++a1M (k+1) 0))[P.length]?=some [.int .u32 ((0:Nat):Int)]:=by rw[bL _ (by simp)]; simp
  have i:a.length+1-(P.length+1)=k:=Om;have B:(P.length:Int)<((a.length+1:Nat):Int):=Om;have fin:∀ (t:Nat) (p:PF) (H':PH),t<2*4294967296→val P+4294967296 ^ P.length*t=val (a.take (P.length+1))+val (b.take (P.length+1)) →
    p 0=some (aG a)→p 1=some (aG b)→p 6=some (.osl q 1 0 (a.length+1))→p 7=some (.int .u64 (t:Nat))→p 8=some (.int .i64 P.length)→p 34=some (aG a)→p 35=some (.int .i64 (a.length:Nat))→p 36=some (.int .i64 P.length) →
    H' q=some (.rows 1 (aI (P++a1M (k+1) 0)))→∀ K:bV,(∀ u y R H2,u.length=P.length+1→Lim u→y≤1→val u+4294967296 ^ u.length*y=val (a.take (P.length+1))+val (b.take (P.length+1))→(fe a b q u.length y).le R→H2 q=some (.rows 1 (aI (u++a1M k 0)))→K .normal R H2) →
    aC.wp C (.seq (.region WL) (.region WM)) (fQ 1 (gX C (aC.wp C (.region WN)) K)) p H':=by
   intro t p H' ht hv g0 g1 g6 g7 g8 γ δ ε gH K hK;have l:(aI (P++a1M (k+1) 0)).set P.length [.int .u32 ((t%4294967296:Nat):Int)]=aI ((P++[t%4294967296])++a1M k 0):=by rw[fH,wZ]
   simp only[go_sem,WL,g6,g8,g7,cF,B,gH,H,l,WM,wH,WN,ε,dC (Om:P.length<9223372036854775807)];refine hK (P++[t%4294967296]) (t/4294967296) _ _ (by simp) (d.app fun x U=>by simp at U; subst U; exact a3C _ (by decide)) Om ?_ ?_ Sq
   ·rw[jD,a1P,a1T,a3F,a2E,a3V,← a1U,Nat.mod_add_div];exact hv
   ·unfold fe;rw[a1P,a1T];refine c_ (c_ (c_ (c_ (c_ (c_ (c_ d_ ?_) ?_) ?_) ?_) ?_) ?_) ?_<;>simp only[go_sem,g0,g1,g6,γ,δ]
  have Q:=cA a V;have ea:IntKind.u64.wrap ((a[P.length]:Nat):Int)=((a[P.length]:Nat):Int):=bD Om;have es:IntKind.u64.wrap ((c:Nat)+((a[P.length]:Nat):Int))=((c+a[P.length]:Nat):Int):=eZ Om;simp only[go_sem,A,Hk,Hl,bL a V,ea,es,Hm];by_cases W:P.length<b.length
  ·have E:(P.length:Int)<(b.length:Nat):=Om;have κ:=hb _ (a1N W);have J:=cA b W;have eb:IntKind.u64.wrap ((b[P.length]:Nat):Int)=((b[P.length]:Nat):Int):=bD Om;have β:IntKind.u64.wrap (((c+a[P.length]:Nat):Int)+((b[P.length]:Nat):Int))=((c+a[P.length]+b[P.length]:Nat):Int):=eZ Om;simp only[go_sem,E,Hn,bL b W,eb,β];refine fin (c+a[P.length]+b[P.length]) _ _ Om ?_ ?_ ?_ ?_ ?_ ?_ ?_ ?_ ?_ ?_ _ ?_
   ·rw[Q,J,a1U,a1U]; omega
   any_goals simp only[go_sem,S]
   intro u y R H2 M X Y N Z e6;rw[← M] at N;refine aK (u,y,q) ⟨by simp only; omega,X,Y,N⟩ (by simp only; omega) Z (PH.aL a_ ?_);simp only;rw[M,i]; exact e6
  ·have E:¬ (P.length:Int)<(b.length:Nat):=Om;have J:val (b.take (P.length+1))=val (b.take P.length):=by rw[a2C Om,a2C Om]
   simp only[go_sem,E];refine fin (c+a[P.length]) _ _ Om ?_ ?_ ?_ ?_ ?_ ?_ ?_ ?_ ?_ ?_ _ ?_
   ·rw[Q,J,a1U]; omega
   any_goals simp only[go_sem,S]
   intro u y R H2 M X Y N Z e6;rw[← M] at N;refine aK (u,y,q) ⟨by simp only; omega,X,Y,N⟩ (by simp only; omega) Z (PH.aL a_ ?_);simp only;rw[M,i]; exact e6
 ·have e:P.length=a.length:=Om;have A:¬ (P.length:Int)<(a.length:Nat):=Om;have S:a1M (a.length+1-P.length) 0=[0]:=by rw[show a.length+1-P.length=1 by omega]; rfl
  have H:(aI (P++[0]))[a.length]?=some [.int .u32 ((0:Nat):Int)]:=by rw[bL _ (by simp; omega)];simp[e]
  have l:(aI (P++[0])).set a.length [.int .u32 ((c%4294967296:Nat):Int)]=aI (P++[c]):=by have:=wZ P 0 (c%4294967296);simp only[List.replicate_zero,a3J,a2H,List.replicate_one] at this;rw[← e,fH,this,a2U Om]
  have B:(a.length:Int)<((a.length+1:Nat):Int):=Om;have hV:val (P++[c])=val a+val b:=by rw[jD,w,e,a2O,a2C hl]
  have ζ:Lim (P++[c]):=d.app fun x U=>by simp at U; omega
  simp only[go_sem,A,WO,cF,S,H,B,l,WP];have hs:=L.sized _ ζ (by simp; omega);rw[hV] at hs;refine pK (o:=q) (s:=1) (k:=a.length+1) (rs:=aI (P++[c])) (v:=szV (val a+val b)) ?_ rfl Sq (by rw[bU]; simp; omega) ?_
  ·rw[a2C (by rw[bU]; simp; omega)]; exact hs
  ·simp only[go_sem,szV];exact aZ (.inr rfl) .nil rfl a_ ⟨.refl _,rfl⟩
def opV (big:Bool) (n:Nat):PV:=if big then .tup [aG [],.int .i64 2] else szV n
def dT (a b:Nat):Bool:=decide (nl a>512)||decide (nl b>512)
theorem eO {res:List dH} {F:PF} {H:PH} {e:Int} (h:dH.evs F H res=some [.aB,.int .i64 e]):aX res (cD (.tup [aG [],.int .i64 e])) .ret F H:=by
 refine aZ (.inr rfl) .nil h a_ ⟨?_,rfl⟩;refine .tup rfl fun j p q c d=>?_
 match j with
 | 0=>simp at c d; subst c; subst d; exact .nil 1
 | 1=>simp at c d; subst c; subst d; exact .refl _
 | j+2=>simp at c
theorem aW (n:Nat):(aE n).length=nl n:=rfl
theorem jA {xs:List Nat} (h:Lim xs):(xs.map fun (n:Nat)=>[PV.int .u32 (n:Int)]).take (nl (val xs))=(aE (val xs)).map fun (n:Nat)=>[PV.int .u32 (n:Int)]:=by
 rw[← List.map_take,kA h]
theorem Tq {C:Ctx} (L:oS C) (a b:List Nat) (l:Lim a) (p:Lim b) (x:a.length≤35184372087808) (y:b.length≤35184372087808) :
  NJ.wp C (aX Z8.res (cD (opV (dT (val a) (val b)) (val a+val b)))) (PF.args [aG a,aG b]) .nil:=by
 simp only[go_sem,NJ,Tr,Ts,Z8];refine aA (L.large a l x) rfl ?_;by_cases d:nl (val a)>512
 ·simp only[go_sem,d,l3];rw[show opV (dT (val a) (val b)) (val a+val b)=.tup [aG [],.int .i64 2] by simp[opV,dT,d]];exact eO rfl
 simp only[go_sem,d];refine aA (L.large b p y) rfl ?_;by_cases i:nl (val b)>512
 ·simp only[go_sem,i,l3];rw[show opV (dT (val a) (val b)) (val a+val b)=.tup [aG [],.int .i64 2] by simp[opV,dT,i]];exact eO rfl
 have e:opV (dT (val a) (val b)) (val a+val b)=szV (val a+val b):=by simp[opV,dT,d,i]
 rw[e];simp only[go_sem,i];refine bX .nil Z9 a_ ?_;simp only[go_sem,Tt];have F:=fG l;have H:=fG p;have u:((nl (val a):Nat):Int)≤(a.length:Nat):=Om;have w:((nl (val b):Nat):Int)≤(b.length:Nat):=Om;refine cK (nJ a) (L.length a l x) rfl a_ ?_;simp only[go_sem,u,or_true,a2S,jA l];refine cK (nJ b) (L.length b p y) rfl a_ ?_;simp only[go_sem,w,or_true,a2S,jA p,Tu,aW];have A:=aT (val a);have B:=aT (val b);by_cases E:nl (val a)<nl (val b)
 ·have c:((nl (val a):Nat):Int)<(nl (val b):Nat):=Om;simp only[go_sem,c,Tv];have:=t7 L (aE (val b)) (aE (val a)) (aU _) (aU _) (by rw[aW,aW]; omega) (by rw[aW]; omega);rw[A,B,Nat.add_comm] at this;exact this _ rfl rfl
 ·have c:¬ ((nl (val a):Nat):Int)<(nl (val b):Nat):=Om;simp only[go_sem,c];have:=t7 L (aE (val a)) (aE (val b)) (aU _) (aU _) (by rw[aW,aW]; omega) (by rw[aW]; omega);rw[A,B] at this;exact this _ rfl rfl
theorem fO (n:Int):IntKind.u64.wrap n=n%18446744073709551616:=by simp[IntKind.wrap,IntKind.bits,IntKind.signed]
theorem TS (n:Int):IntKind.u32.wrap n=n%4294967296:=by simp[IntKind.wrap,IntKind.bits,IntKind.signed]
theorem abR {v:Int}:shift .shr .u64 v 63=some (.int .u64 (v/9223372036854775808)):=by
 unfold shift;rw[if_neg (by decide)];simp only;have:min (Int.toNat 63) IntKind.u64.bits=63:=by decide
 rw[this,show (2:Int) ^ 63=9223372036854775808 by decide,Int.fdiv_eq_ediv_of_nonneg _ (by decide)]
def OW (a bor b:Nat):Nat:=(a+4294967296-bor-b)%4294967296
def XJ (a bor b:Nat):Nat:=if a<bor+b then 1 else 0
theorem J1 {a bor b:Nat} (c:a<4294967296) (d:b<4294967296) (e:bor≤1) (v:Int) (i:v=((a:Int)-bor-b)%18446744073709551616) :
  IntKind.u32.wrap v=((OW a bor b:Nat):Int)∧v/9223372036854775808=((XJ a bor b:Nat):Int)∧a+4294967296*XJ a bor b=OW a bor b+b+bor∧OW a bor b<4294967296:=by
 rw[TS];unfold OW XJ;split<;>omega
def gw (a b:List Nat) (o i c:Nat):PF:=(((((((PF.nil.set 0 (aG a)).set 1 (aG b)).set 6 (.osl o 1 0 a.length)).set 7 (.int .u64 c)).set 33 (aG a)).set 34 (.int .i64 (a.length:Nat))).set 35 (.int .i64 i))
theorem alG {C:Ctx} (L:oS C) (a b:List Nat) (ha:Lim a) (hb:Lim b) (η:val b≤val a) (hl:b.length≤a.length) (h1:a.length≤1000) (F:PF) (f0:F 0=some (aG a)) (f1:F 1=some (aG b)) :
  aC.wp C (.seq (.region ml) (.seq (.region mm) (.seq (.seq (.region mo) (.block 1 (.loop WW))) (.seq (.region XA) .ret)))) (aX [.tmp 4,.tmp 5] (cD (szV (val a-val b)))) F .nil:=by
 have δ:(a.length:Int)*((4:Nat):Int)≤140737488355328:=Om;have ε:(a.length:Int)≤9223372036854775807:=Om;have hz:a1M a.length [PV.int .u32 0]=aI ([]++a1M a.length 0):=by simp[aI]
 simp only[go_sem,ml,f0,δ,ε,hz];refine aQ fun o ho=>?_;simp only[go_sem,mm,mo,f0];refine wp_loop (α:=List Nat × Nat × Nat) (fun s=>gw a b s.2.2 s.1.length s.2.1) (fun s=>PH.nil.set s.2.2 (.rows 1 (aI (s.1++a1M (a.length-s.1.length) 0))))
  (fun s=>s.1.length≤a.length∧Lim s.1∧s.2.1≤1∧val (a.take s.1.length)+4294967296 ^ s.1.length*s.2.1=val s.1+val (b.take s.1.length)) (fun s=>a.length-s.1.length) ([],0,o) ⟨by simp,by simp[Lim],by simp,by simp[val]⟩ ?_ ?_ ?_
 ·unfold gw;exact Lq
 ·exact PH.aL a_ (by simp only[go_sem,a3Z])
 rintro⟨P,c,q⟩ ⟨hP,d,hc,y⟩;simp only at hP d hc y;simp only[go_sem,WW,U2,gw];by_cases R:P.length<a.length
 ·have w:(P.length:Int)<(a.length:Nat):=Om;have Z:=ha _ (a1N R);obtain⟨k,Q⟩:∃ k,a.length-P.length=k+1:=⟨a.length-P.length-1,by omega⟩;have γ:(aI (P++a1M (k+1) 0))[P.length]?=some [.int .u32 ((0:Nat):Int)]:=by rw[bL _ (by simp)]; simp
  have i:a.length-(P.length+1)=k:=Om;have ζ:=cA a R;have fin:∀ (t:Nat) (v:Int) (p:PF) (H':PH),t<4294967296→v=((a[P.length]:Int)-c-t)%18446744073709551616→val (b.take (P.length+1))=val (b.take P.length)+4294967296 ^ P.length*t →
    p 0=some (aG a)→p 1=some (aG b)→p 6=some (.osl q 1 0 a.length)→p 9=some (.int .u64 v)→p 8=some (.int .i64 P.length)→p 33=some (aG a)→p 34=some (.int .i64 (a.length:Nat))→p 35=some (.int .i64 P.length) →
    H' q=some (.rows 1 (aI (P++a1M (k+1) 0)))→∀ K:bV,(∀ u A O H2,u.length=P.length+1→Lim u→A≤1→val (a.take (P.length+1))+4294967296 ^ u.length*A=val u+val (b.take (P.length+1))→(gw a b q u.length A).le O→H2 q=some (.rows 1 (aI (u++a1M k 0)))→K .normal O H2) →
    aC.wp C (.seq (.region WX) (.region WY)) (fQ 2 (gX C (aC.wp C (.region WZ)) K)) p H':=by
   intro t v p H' ht hv l g0 g1 g6 g9 g8 W X Y gH K hK;obtain⟨E,J,M,H⟩:=J1 Z ht hc v hv;have N:(aI (P++a1M (k+1) 0)).set P.length [.int .u32 ((OW a[P.length] c t:Nat):Int)]=aI ((P++[OW a[P.length] c t])++a1M k 0):=by rw[fH,wZ]
   simp only[go_sem,WX,g6,g8,g9,E,w,gH,γ,N,WY,abR,J,WZ,Y,dC (Om:P.length<9223372036854775807)];refine hK (P++[OW a[P.length] c t]) (XJ a[P.length] c t) _ _ (by simp) (d.app fun x hx=>by simp at hx; subst hx; exact H) (by unfold XJ; split<;>omega) ?_ ?_ Sq
   ·rw[jD,a1P,a1T,a3F,a2E,ζ,l,a3V,← a1U,M,a1U,a1U];omega
   ·unfold gw;rw[a1P,a1T];refine c_ (c_ (c_ (c_ (c_ (c_ (c_ d_ ?_) ?_) ?_) ?_) ?_) ?_) ?_<;>simp only[go_sem,g0,g1,g6,W,X]
  have ea:IntKind.u64.wrap ((a[P.length]:Nat):Int)=((a[P.length]:Nat):Int):=bD Om;simp only[go_sem,w,Ix,Iy,bL a R,ea,Iz];by_cases S:P.length<b.length
  ·have B:(P.length:Int)<(b.length:Nat):=Om;have β:=hb _ (a1N S);have l:=cA b S;have eb:IntKind.u64.wrap ((b[P.length]:Nat):Int)=((b[P.length]:Nat):Int):=bD Om;simp only[go_sem,B,I0,bL b S,eb];refine fin b[P.length] (IntKind.u64.wrap (IntKind.u64.wrap ((a[P.length]:Int)-(c:Int))-(b[P.length]:Int))) _ _ β (by rw[fO,fO]; omega) l ?_ ?_ ?_ ?_ ?_ ?_ ?_ ?_ ?_ _ ?_
   any_goals simp only[go_sem,Q]
   intro u A O H2 E J M H U V;rw[← E] at H;refine aK (u,A,q) ⟨by simp only; omega,J,M,H⟩ (by simp only; omega) U (PH.aL a_ ?_);simp only;rw[E,i]; exact V
  ·have B:¬ (P.length:Int)<(b.length:Nat):=Om;have l:val (b.take (P.length+1))=val (b.take P.length)+4294967296 ^ P.length*0:=by rw[a2C Om,a2C Om]; simp
   simp only[go_sem,B];refine fin 0 (IntKind.u64.wrap ((a[P.length]:Int)-(c:Int))) _ _ (by decide) (by rw[fO]; omega) l ?_ ?_ ?_ ?_ ?_ ?_ ?_ ?_ ?_ _ ?_
   any_goals simp only[go_sem,Q]
   intro u A O H2 E J M H U V;rw[← E] at H;refine aK (u,A,q) ⟨by simp only; omega,J,M,H⟩ (by simp only; omega) U (PH.aL a_ ?_);simp only;rw[E,i]; exact V
 ·have e:P.length=a.length:=Om;have w:¬ (P.length:Int)<(a.length:Nat):=Om;have Q:a1M (a.length-P.length) 0=[]:=by rw[show a.length-P.length=0 by omega]; rfl
  have hV:val P=val a-val b:=by
   rw[e,a2O,a2C hl] at y;have hlt:=eY d;rw[e] at hlt;rcases a4D c with h | h
   ·subst h; omega
   ·have:c=1:=Om;subst this; omega
  simp only[go_sem,w,Q,a3J,XA];have hs:=L.sized _ d Om;rw[hV] at hs;refine pK (o:=q) (s:=1) (k:=a.length) (rs:=aI P) (v:=szV (val a-val b)) ?_ rfl Sq (by rw[bU]; omega) ?_
  ·rw[a2C (by rw[bU]; omega)]; exact hs
  ·simp only[go_sem,szV];exact aZ (.inr rfl) .nil rfl a_ ⟨.refl _,rfl⟩
def qQ (a b:Nat):PV:=if dT a b then .tup [aG [],.int .i64 2] else if a<b then .tup [aG [],.int .i64 4] else szV (a-b)
theorem Uv {C:Ctx} (L:oS C) (a b:List Nat) (e:Lim a) (i:Lim b) (x:a.length≤35184372087808) (y:b.length≤35184372087808) :
  NS.wp C (aX aaP.res (cD (qQ (val a) (val b)))) (PF.args [aG a,aG b]) .nil:=by
 simp only[go_sem,NS,Uw,Ux,aaP];refine aA (L.large a e x) rfl ?_;by_cases c:nl (val a)>512
 ·simp only[go_sem,c,mj];rw[show qQ (val a) (val b)=.tup [aG [],.int .i64 2] by simp[qQ,dT,c]];exact eO rfl
 simp only[go_sem,c];refine aA (L.large b i y) rfl ?_;by_cases d:nl (val b)>512
 ·simp only[go_sem,d,mj];rw[show qQ (val a) (val b)=.tup [aG [],.int .i64 2] by simp[qQ,dT,d]];exact eO rfl
 simp only[go_sem,d,Uy];refine aA (L.cmp a b e i x y) rfl ?_;by_cases l:val a<val b
 ·have w:cU (val a) (val b)<0:=by simp[cU,l]
  simp only[go_sem,w,Uz];rw[show qQ (val a) (val b)=.tup [aG [],.int .i64 4] by simp[qQ,dT,c,d,l]];exact eO rfl
 have w:¬ cU (val a) (val b)<0:=by unfold cU;rw[if_neg l];split<;>decide
 rw[show qQ (val a) (val b)=szV (val a-val b) by simp[qQ,dT,c,d,l]];simp only[go_sem,w];refine bX .nil Z9 a_ ?_;simp only[go_sem,U1];have E:=fG e;have F:=fG i;have p:((nl (val a):Nat):Int)≤(a.length:Nat):=Om;have u:((nl (val b):Nat):Int)≤(b.length:Nat):=Om;refine cK (nJ a) (L.length a e x) rfl a_ ?_;simp only[go_sem,p,or_true,a2S,jA e];refine cK (nJ b) (L.length b i y) rfl a_ ?_;simp only[go_sem,u,or_true,a2S,jA i];have A:=aT (val a);have B:=aT (val b);have H:=fE (Om:val b≤val a);have:=alG L (aE (val a)) (aE (val b)) (aU _) (aU _) Om (by rw[aW,aW]; omega) (by rw[aW]; omega);rw[A,B] at this;exact this _ rfl rfl
end Go.PM
namespace Go.Na
def dQ:Nat→Nat→List Nat
 | 0,_=>[]
 | k+1,n=>(n%4294967296)::dQ k (n/4294967296)
theorem kR:∀ k n,(dQ k n).length=k
 | 0,_=>rfl
 | k+1,n=>by simp[dQ,kR k]
theorem EU {xs:List Nat} (h:Lim xs):dQ xs.length (val xs)=xs:=by
 induction xs with
 | nil=>rfl
 | cons x xs i =>have l:=h x (by simp);have c:(x+4294967296*val xs)%4294967296=x:=Om;have d:(x+4294967296*val xs)/4294967296=val xs:=Om;simp only[a3E,dQ,val];rw[c,d,i fun y e=>h y (by simp[e])]
theorem lZ:∀ k n,Lim (dQ k n)
 | 0,_=>fun x hx=>by cases hx
 | k+1,n=>fun x hx=>by
  simp only[dQ,a1R] at hx;rcases hx with rfl | hx
  ·exact a3C _ (by decide)
  ·exact lZ k _ x hx
theorem yI:∀ k n,val (dQ k n)=n%4294967296 ^ k
 | 0,n=>by simp[dQ,val,Nat.mod_one]
 | k+1,n=>by simp only[dQ,val,yI k];rw[a3F,a2M (4294967296 ^ k) 4294967296,Nat.mod_mul]
theorem nM {k n:Nat} (h:n<4294967296 ^ k):val (dQ k n)=n:=by rw[yI,a2U h]
end Go.Na
namespace Go.PM
open Go Go.Na
theorem aTE {a b:Nat} (c:a<18446744073709551616) (d:b<18446744073709551616):(BitVec.ofInt 64 (a:Int) ||| BitVec.ofInt 64 (b:Int)).toNat=a ||| b:=by
 rw[BitVec.ofInt_natCast,BitVec.ofInt_natCast,BitVec.toNat_or,BitVec.toNat_ofNat,BitVec.toNat_ofNat,a2U (by simpa using c),a2U (by simpa using d)]
theorem I9 {c x s:Nat} (d:c<2 ^ s) (h:c+2 ^ s*x<18446744073709551616):c ||| (2 ^ s*x)=c+2 ^ s*x:=by
 rw[Nat.or_comm,← Nat.two_pow_add_eq_or_of_lt d,Nat.add_comm]
theorem orI {a b n:Nat} (c:a<18446744073709551616) (d:b<18446744073709551616) (h:a ||| b=n) (e:n<18446744073709551616):kO .or .u64 (a:Int) (b:Int)=some (.int .u64 (n:Int)):=by
 show some (PV.int .u64 (IntKind.u64.wrap (((BitVec.ofInt 64 (a:Int) ||| BitVec.ofInt 64 (b:Int)).toNat:Nat):Int)))=_;rw[aTE c d,h,bD e]
theorem IH {x s:Nat} (c:s≤64) (h:x*2 ^ s<18446744073709551616):shift .shl .u64 (x:Int) (s:Int)=some (.int .u64 ((2 ^ s*x:Nat):Int)):=by
 unfold shift;rw[if_neg Om];simp only;have:min (Int.toNat (s:Int)) IntKind.u64.bits=s:=by rw[show IntKind.u64.bits=64 from rfl]; omega
 rw[this,show (x:Int)*2 ^ s=((x*2 ^ s:Nat):Int) by simp,bD h,a2M]
def azE (a:List Nat) (s o i c:Nat):PF:=(((((((PF.nil.set 0 (aG a)).set 1 (.int .u64 s)).set 5 (.osl o 1 0 (a.length+1))).set 6 (.int .u64 c)).set 13 (aG a)).set 14 (.int .i64 (a.length:Nat))).set 15 (.int .i64 i))
def upR (a:List Nat) (s:Nat) (r:PV) (H:PH):Prop:=∃ o,r=.osl o 1 0 (a.length+1)∧H=PH.nil.set o (.rows 1 (aI (dQ (a.length+1) (val a*2 ^ s))))
theorem alH {C:Ctx} (a:List Nat) (s:Nat) (ha:Lim a) (hs:s<32) (h1:a.length≤1000):XC.wp C (aX nup.res (upR a s)) (PF.args [aG a,.int .u64 s]) .nil:=by
 have F:IntKind.i64.wrap ((a.length:Int)+1)=((a.length+1:Nat):Int):=dC Om;have S:((a.length+1:Nat):Int)*((4:Nat):Int)≤140737488355328:=Om;have U:((a.length+1:Nat):Int)≤9223372036854775807:=Om;have hz:a1M (a.length+1) [PV.int .u32 0]=aI ([]++a1M (a.length+1) 0):=by simp[aI]
 have N:2 ^ s≤2147483648:=a4Y (show 0<2 by decide) (Om:s≤31);have B:0<2 ^ s:=a4F (by decide);simp only[go_sem,XC,alI,alJ,nup,F,S,U,hz];refine aQ fun o ho=>?_;simp only[go_sem,alK,alL];refine wp_loop (α:=List Nat × Nat × Nat) (fun t=>azE a s t.2.2 t.1.length t.2.1) (fun t=>PH.nil.set t.2.2 (.rows 1 (aI (t.1++a1M (a.length+1-t.1.length) 0))))
  (fun t=>t.1.length≤a.length∧Lim t.1∧t.2.1<2 ^ s∧val t.1+4294967296 ^ t.1.length*t.2.1=val (a.take t.1.length)*2 ^ s) (fun t=>a.length-t.1.length) ([],0,o) ⟨by simp,by simp[Lim],B,by simp[val]⟩ ?_ ?_ ?_
 ·unfold azE;exact Lq
 ·exact PH.aL a_ (by simp only[go_sem,a3Z])
 rintro⟨P,c,q⟩ ⟨Z,d,X,l⟩;simp only at Z d X l;simp only[go_sem,U3,alM,azE];by_cases J:P.length<a.length
 ·have p:(P.length:Int)<(a.length:Nat):=Om;have β:=ha _ (a1N J);obtain⟨k,R⟩:∃ k,a.length+1-P.length=k+1:=⟨a.length-P.length,by omega⟩;have w:(aI (P++a1M (k+1) 0))[P.length]?=some [.int .u32 ((0:Nat):Int)]:=by rw[bL _ (by simp)]; simp
  have A:a.length+1-(P.length+1)=k:=Om;have u:(P.length:Int)<((a.length+1:Nat):Int):=Om;have V:=cA a J;generalize W:a[P.length]=x at *
  have γ:x*2 ^ s≤4294967295*2147483648:=a4S Om N;have ex:IntKind.u64.wrap ((x:Nat):Int)=((x:Nat):Int):=bD Om;have H:2 ^ s*x=x*2 ^ s:=a2M _ _;have M:shift .shl .u64 (x:Int) (s:Int)=some (.int .u64 ((2 ^ s*x:Nat):Int)):=IH Om Om;have K:=orI (a:=c) (b:=2 ^ s*x) (n:=c+2 ^ s*x) Om Om (I9 X Om) Om;have E:(c+2 ^ s*x)/4294967296<2 ^ s:=by rw[a4L (by decide)];have:2 ^ s*(x+1)≤2 ^ s*4294967296:=a3X _ Om;rw[a1U,Nat.mul_one] at this;omega
  have i:(aI (P++a1M (k+1) 0)).set P.length [.int .u32 (((c+2 ^ s*x)%4294967296:Nat):Int)]=aI ((P++[(c+2 ^ s*x)%4294967296])++a1M k 0):=by rw[fH,wZ]
  have Q:(aI a)[P.length]?=some [.int .u32 ((x:Nat):Int)]:=by rw[bL a J,W]
  simp only[go_sem,p,alN,alO,Q,ex,M,K,alP,cF,R,u,w,i,alQ,wH,alR,dC (Om:P.length<9223372036854775807)];refine aK (P++[(c+2 ^ s*x)%4294967296],(c+2 ^ s*x)/4294967296,q) ⟨by simp; omega,d.app fun y Y=>by simp at Y; subst Y; exact a3C _ (by decide),E,?_⟩ (by simp; omega) ?_ (PH.aL a_ ?_)
  ·simp only;rw[jD,a1P,a1T,a3F,a2E,a3V,← a1U,Nat.mod_add_div,V,a1U,a2R,← a3V,l,H,a2E]
  ·simp only;rw[a1P,a1T];exact Lq
  ·simp only;rw[a1P,a1T,A];simp only[go_sem]
 ·have e:P.length=a.length:=Om;have p:¬ (P.length:Int)<(a.length:Nat):=Om;have R:a1M (a.length+1-P.length) 0=[0]:=by rw[show a.length+1-P.length=1 by omega]; rfl
  have w:(aI (P++[0]))[a.length]?=some [.int .u32 ((0:Nat):Int)]:=by rw[bL _ (by simp; omega)];simp[e]
  have i:(aI (P++[0])).set a.length [.int .u32 ((c%4294967296:Nat):Int)]=aI (P++[c]):=by have:=wZ P 0 (c%4294967296);simp only[List.replicate_zero,a3J,a2H,List.replicate_one] at this;rw[← e,fH,this,a2U Om]
  have u:(a.length:Int)<((a.length+1:Nat):Int):=Om;have hV:val (P++[c])=val a*2 ^ s:=by rw[jD,l,e,a2O]
  have O:Lim (P++[c]):=d.app fun x W=>by simp at W; omega
  have hD:dQ (a.length+1) (val a*2 ^ s)=P++[c]:=by have:=EU O;rw[hV,a1P,a1T,e] at this;exact this
  simp only[go_sem,p,U4,cF,R,w,u,i,U5];exact aZ (vs:=[.osl q 1 0 (a.length+1)]) (.inr rfl) (PH.nil.set q (.rows 1 (aI (P++[c])))) Ev (PH.aL a_ Sq) ⟨q,rfl,by rw[hD]⟩
def mi (a:List Nat) (d o k r:Nat):PF:=(((((PF.nil.set 0 (aG a)).set 1 (.int .u32 d)).set 6 (.osl o 1 0 a.length)).set 7 (.int .u64 r)).set 8 (.int .i64 ((k:Int)-1)))
theorem vb {C:Ctx} (L:oS C) (a:List Nat) (d:Nat) (ha:Lim a) (i:0<d) (hd:d<4294967296) (h1:a.length≤1000) :
  BK.wp C (aX gs.res (aH (.tup [aG (aE (val a/d)),.int .u32 ((val a%d:Nat):Int)]))) (PF.args [aG a,.int .u32 d]) .nil:=by
 have W:(a.length:Int)*((4:Nat):Int)≤140737488355328:=Om;have X:(a.length:Int)≤9223372036854775807:=Om;have hz:a1M a.length [PV.int .u32 0]=aI (a1M a.length 0++[]):=by simp[aI]
 simp only[go_sem,BK,vd,ve,gs,W,X,hz];refine aQ fun o ho=>?_;simp only[go_sem,vf,vh];refine wp_loop (α:=Nat × List Nat × Nat × Nat) (fun t=>mi a d t.2.2.2 t.1 t.2.2.1) (fun t=>PH.nil.set t.2.2.2 (.rows 1 (aI (a1M t.1 0++t.2.1))))
  (fun t=>t.1+t.2.1.length=a.length∧Lim t.2.1∧t.2.2.1<d∧val t.2.1*d+t.2.2.1=val (a.drop t.1)) (fun t=>t.1) (a.length,[],0,o) ⟨by simp,by simp[Lim],i,by simp[val]⟩ ?_ ?_ ?_
 ·unfold mi
  (repeat' (first|exact d_|refine c_ ?_ ?_))<;>first|(simp only[go_sem,wrap_i64 (Om:-9223372036854775808≤(a.length:Int)-1) (Om:(a.length:Int)-1≤9223372036854775807)]<;>rfl)|rfl
 ·exact PH.aL a_ Sq
 rintro⟨k,S,r,q⟩ ⟨hk,c,K,e⟩;simp only at hk c K e;simp only[go_sem,va,vi,mi];by_cases h0:0<k
 ·obtain⟨m,rfl⟩:∃ m,k=m+1:=⟨k-1,by omega⟩;have u:((m+1:Nat):Int)-1=(m:Int):=Om;have U:(m:Int)≥0:=Om;have p:m<a.length:=Om;have hlt:(m:Int)<(a.length:Nat):=Om;have β:=ha _ (a1N p);have l:val (a.drop m)=a[m]+4294967296*val (a.drop (m+1)):=by rw[a3K p]; rfl
  generalize hx:a[m]=x at *
  have N:(aI a)[m]?=some [.int .u32 ((x:Nat):Int)]:=by rw[bL a p,hx]
  have ex:IntKind.u64.wrap ((x:Nat):Int)=((x:Nat):Int):=bD Om;have ed:IntKind.u64.wrap ((d:Nat):Int)=((d:Nat):Int):=bD Om;have E:shift .shl .u64 (r:Int) 32=some (.int .u64 ((2 ^ 32*r:Nat):Int)):=IH (s:=32) Om Om;have M:(2:Nat) ^ 32=4294967296:=by decide
  have w:=orI (a:=2 ^ 32*r) (b:=x) (n:=2 ^ 32*r+x) Om Om (Nat.two_pow_add_eq_or_of_lt Om r).symm Om;rw[M] at E w;have J:(4294967296*r+x)/d<4294967296:=by rw[a4L i];have:4294967296*(r+1)≤4294967296*d:=a3X _ K;omega
  have O:¬ ((d:Nat):Int)=0:=Om;have A:IntKind.u64.wrap (Int.tdiv ((4294967296*r+x:Nat):Int) ((d:Nat):Int))=(((4294967296*r+x)/d:Nat):Int):=by rw[show Int.tdiv ((4294967296*r+x:Nat):Int) ((d:Nat):Int)=(((4294967296*r+x)/d:Nat):Int) from rfl];exact bD Om
  have B:Int.tmod ((4294967296*r+x:Nat):Int) ((d:Nat):Int)=(((4294967296*r+x)%d:Nat):Int):=rfl;have Z:IntKind.u32.wrap (((4294967296*r+x)/d:Nat):Int)=(((4294967296*r+x)/d:Nat):Int):=by rw[cF,a2U J]
  have F:a1M (m+1) 0++S=a1M m 0++(0::S):=by rw[List.replicate_succ',a2T]; rfl
  have V:(aI (a1M m 0++(0::S)))[m]?=some [.int .u32 ((0:Nat):Int)]:=by rw[bL _ (by simp)]; simp
  have H:(aI (a1M m 0++(0::S))).set m [.int .u32 (((4294967296*r+x)/d:Nat):Int)]=aI (a1M m 0++(((4294967296*r+x)/d)::S)):=by rw[fH,a4P _ _ (by simp)]; simp
  simp only[go_sem,u,U,vj,E,N,ex,w,vk,ed,O,A,Z,hlt,F,V,H,vm,B,vn];refine aK (m,((4294967296*r+x)/d)::S,(4294967296*r+x)%d,q) ⟨by simp only[a3E]; omega,fun y hy=>?_,a3C _ i,?_⟩ (by simp only; omega) ?_ (PH.aL a_ Sq)
  ·rw[a1R] at hy;rcases hy with rfl | hy
   ·exact J
   ·exact c y hy
  ·simp only[val];rw[l,← e,a2R,a1U,a2E];have:=a4W (4294967296*r+x) d;rw[a2M d] at this;omega
  ·(repeat' (first|exact d_|refine c_ ?_ ?_))<;>first|(simp only[go_sem,wrap_i64 (Om:-9223372036854775808≤(m:Int)-1) (Om:(m:Int)-1≤9223372036854775807)]<;>rfl)|rfl
 ·have:k=0:=Om;subst this;have u:¬ ((0:Nat):Int)-1≥0:=by decide
  rw[a2S] at e;have hS:S.length=a.length:=Om;have J:val S=val a/d:=by rw[← e,a2M,Nat.mul_add_div i,a4X K,a3S]
  have Y:r=val a%d:=by rw[← e,a2M,Nat.mul_add_mod,a2U K]
  have γ:a1M 0 0++S=S:=by simp
  simp only[go_sem,u,gt,List.nil_append];have hl:=L.length S c Om;have δ:=fG c;have hc:((nl (val S):Nat):Int)≤(S.length:Nat):=Om;refine pK (o:=q) (s:=1) (k:=a.length) (rs:=aI S) (v:=.int .i64 (nl (val S):Nat)) ?_ Sq Sq (by rw[bU]; omega) ?_
  ·rw[a2C (by rw[bU]; omega)]; exact hl
  ·have R:PV.frz q 1 (aI S) (.osl q 1 0 a.length)=aG S:=by
    have:0+a.length≤(aI S).length:=by rw[bU]; omega
    simp only[PV.frz,PV.rV,PV.cV,if_true,true_and,if_pos this,a2S];rw[a2C (by rw[bU]; omega)]
   have Q:∀ n:Int,∀ k,PV.frz q 1 (aI S) (.int k n)=.int k n:=fun _ _=>rfl;have er:IntKind.u32.wrap ((r:Nat):Int)=((r:Nat):Int):=by rw[cF,a2U Om]
   simp only[go_sem,R,Q,hc,or_true,a2S,jA c,er];refine aZ (vs:=[aG (aE (val S)),.int .u32 ((r:Nat):Int)]) (.inr rfl) .nil Ev a_ ⟨?_,rfl⟩;simp only[cO,← J,← Y]
end Go.PM
namespace Go.Na
theorem DI {L:List Nat} {i:Nat} (h:i<L.length) (v:Nat):val (L.set i v)+4294967296 ^ i*L[i]=val L+4294967296 ^ i*v:=by
 have c:i<(L.set i v).length:=by rw[a3U]; exact h
 rw[rF L h,rF (L.set i v) c,List.getElem_set_self,List.take_set_of_le (a1O _),List.drop_set_of_lt Om,a1U,a1U];omega
theorem j7 {L:List Nat} {i:Nat} (h:∀ (j x:Nat),i≤j→L[j]?=some x→x=0) (k v:Nat) (e:k<i):∀ (j x:Nat),i≤j→(L.set k v)[j]?=some x→x=0:=fun j x d c=>by
 rw[List.getElem?_set_ne Om] at c;exact h j x d c
end Go.Na
namespace Go.PM
open Go Go.Na
def kJ (a b:List Nat) (o i:Nat):PF:=((((((PF.nil.set 0 (aG a)).set 1 (aG b)).set 6 (.osl o 1 0 (a.length+b.length))).set 32 (aG a)).set 33 (.int .i64 (a.length:Nat))).set 34 (.int .i64 i))
def aaO (a b:List Nat) (o i x c j:Nat):PF:=((((((((((((PF.nil.set 0 (aG a)).set 1 (aG b)).set 6 (.osl o 1 0 (a.length+b.length))).set 32 (aG a)).set 33 (.int .i64 (a.length:Nat))).set 34 (.int .i64 i)).set 7 (.int .i64 i)).set 8 (.int .u32 x)).set 9 (.int .u64 c)).set 39 (aG b)).set 40 (.int .i64 (b.length:Nat))).set 41 (.int .i64 j))
structure CL (a b L:List Nat) (i:Nat):Prop where
 len:L.length=a.length+b.length
 lim:Lim L
 v:val L=val (a.take i)*val b
 z:∀ j x,i+b.length≤j→L[j]?=some x→x=0
theorem To {x y:Nat} (c:x<4294967296) (d:y<4294967296):IntKind.u64.wrap ((x:Int)*(y:Int))=((x*y:Nat):Int):=by
 have:x*y≤4294967295*4294967295:=a4S Om Om;rw[show (x:Int)*(y:Int)=((x*y:Nat):Int) by simp];exact bD Om
theorem fX {a b:Nat} (h:a+b≤9223372036854775807):IntKind.i64.wrap ((a:Int)+(b:Int))=((a+b:Nat):Int):=by
 rw[wrap_i64 Om Om]; omega
theorem azC {C:Ctx} (a b:List Nat) (ha:Lim a) (hb:Lim b) (h1:a.length≤1000) (h2:b.length≤1000) (L:List Nat) (i:Nat) (hi:i<a.length) (N:CL a b L i) (q:Nat) (K:bV) (F:PF) (H:PH) (J:(kJ a b q i).le F) (hH:H q=some (.rows 1 (aI L)))
  (hK:∀ L' F' H',CL a b L' (i+1)→(kJ a b q i).le F'→H' q=some (.rows 1 (aI L'))→K .normal F' H') :
  aC.wp C (.block 1 (.seq (.region mf) (.seq (.region mg) (.seq (.seq (.region mh) (.block 2 (.loop WR))) (.region WT))))) K F H:=by
 have f0:=J 0 _ (by unfold kJ; simp only[go_sem]; rfl);have f1:=J 1 _ (by unfold kJ; simp only[go_sem]; rfl);have f6:=J 6 _ (by unfold kJ; simp only[go_sem]; rfl);have S:=J 32 _ (by unfold kJ; simp only[go_sem]; rfl);have η:=J 33 _ (by unfold kJ; simp only[go_sem]; rfl);have U:=J 34 _ (by unfold kJ; simp only[go_sem]; rfl);have hx:=ha _ (a1N hi);have β:=cA a hi;generalize δ:a[i]=x at *
 have X:(aI a)[i]?=some [.int .u32 ((x:Nat):Int)]:=by rw[bL a hi,δ]
 simp only[go_sem,mf,mg,mh,S,U,f1,X];refine wp_loop (α:=List Nat × Nat × Nat) (fun t=>aaO a b q i x t.2.1 t.2.2) (fun t=>PH.nil.set q (.rows 1 (aI t.1)))
  (fun t=>t.2.2≤b.length∧t.1.length=a.length+b.length∧Lim t.1∧t.2.1<4294967296∧val t.1+4294967296 ^ (i+t.2.2)*t.2.1=val (a.take i)*val b+4294967296 ^ i*(x*val (b.take t.2.2))∧∀ j y,i+b.length≤j→t.1[j]?=some y→y=0) (fun t=>b.length-t.2.2) (L,0,0)
  ⟨by simp,N.len,N.lim,by simp,by simp[val,N.v],N.z⟩ ?_ (PH.aL a_ hH) ?_
 ·unfold aaO;exact Lq
 rintro⟨M,c,j⟩ ⟨hj,W,e,Z,u,Q⟩;simp only at hj W e Z u Q;simp only[go_sem,WR,Ip,aaO];by_cases R:j<b.length
 ·have w:(j:Int)<(b.length:Nat):=Om;have O:=hb _ (a1N R);have γ:=cA b R;generalize ε:b[j]=y at *
  have Y:(aI b)[j]?=some [.int .u32 ((y:Nat):Int)]:=by rw[bL b R,ε]
  have d:i+j<M.length:=Om;have E:=e _ (a1N d);have p:=DI d;generalize ζ:M[i+j]=z at *
  have B:(aI M)[i+j]?=some [.int .u32 ((z:Nat):Int)]:=by rw[bL M d,ζ]
  have ex:IntKind.u64.wrap ((x:Nat):Int)=((x:Nat):Int):=bD Om;have ey:IntKind.u64.wrap ((y:Nat):Int)=((y:Nat):Int):=bD Om;have ez:IntKind.u64.wrap ((z:Nat):Int)=((z:Nat):Int):=bD Om;have em:=To hx O;have ι:x*y≤4294967295*4294967295:=a4S Om Om;have e1:IntKind.u64.wrap (((x*y:Nat):Int)+(z:Int))=((x*y+z:Nat):Int):=eZ Om;have e2:IntKind.u64.wrap ((c:Int)+((x*y+z:Nat):Int))=((c+(x*y+z):Nat):Int):=eZ Om;have A:IntKind.i64.wrap ((i:Int)+(j:Int))=((i+j:Nat):Int):=fX Om;have hlt:((i+j:Nat):Int)<((a.length+b.length:Nat):Int):=Om;generalize ht:c+(x*y+z)=t at *
  have θ:t<4294967296*4294967296:=Om;have l:(aI M).set (i+j) [.int .u32 ((t%4294967296:Nat):Int)]=aI (M.set (i+j) (t%4294967296)):=fH M (i+j) _;simp only[go_sem,w,Iq,Y,Ir,ex,ey,em,A,hlt,B,ez,e1,e2,Is,cF,l,It,wH,Iu,wZz j];refine aK (M.set (i+j) (t%4294967296),t/4294967296,j+1) ⟨by simp only; omega,by simp only[a3U]; exact W,e.set _ (a3C _ (by decide)),by simp only; omega,?_,j7 Q _ _ Om⟩ (by simp only; omega) ?_ (PH.aL a_ Sq)
  ·simp only;have V:=p (t%4294967296);have h4:4294967296 ^ (i+(j+1))*(t/4294967296)+4294967296 ^ (i+j)*(t%4294967296)=4294967296 ^ (i+j)*t:=by rw[← a3V,a3F,a2E,← a1U,a4W]
   have h5:4294967296 ^ (i+j)*t=4294967296 ^ (i+j)*c+(4294967296 ^ (i+j)*(x*y)+4294967296 ^ (i+j)*z):=by rw[← ht,a1U,a1U]
   have h6:4294967296 ^ i*(x*val (b.take (j+1)))=4294967296 ^ i*(x*val (b.take j))+4294967296 ^ (i+j)*(x*y):=by rw[γ,a1U,a1U,Nat.pow_add];congr 1;rw[Nat.mul_left_comm x,a2E]
   omega
  ·exact Lq
 ·have he:j=b.length:=Om;have w:¬ (j:Int)<(b.length:Nat):=Om;subst he;have d:i+b.length<M.length:=Om;have E:M[i+b.length]=0:=Q _ _ (a1O _) (a1V d);have p:=DI d;have B:(aI M)[i+b.length]?=some [.int .u32 ((0:Nat):Int)]:=by rw[bL M d,E]
  have A:IntKind.i64.wrap ((i:Int)+(b.length:Int))=((i+b.length:Nat):Int):=fX Om;have hlt:((i+b.length:Nat):Int)<((a.length+b.length:Nat):Int):=Om;have l:(aI M).set (i+b.length) [.int .u32 ((c%4294967296:Nat):Int)]=aI (M.set (i+b.length) c):=by rw[a2U Z]; exact fH M _ _
  simp only[go_sem,w,WT,A,cF,hlt,B,l];refine hK (M.set (i+b.length) c) _ _ ⟨by rw[a3U]; exact W,e.set _ Z,?_,fun j y hj O=>?_⟩ (by unfold kJ; exact Lq) Sq
  ·have V:=p c;rw[E,Nat.mul_zero,a3S] at V;rw[V,u,a2O,β,a2R,a2E]
  ·rw[List.getElem?_set_ne Om] at O;exact Q j y Om O
theorem alD {C:Ctx} (L:oS C) (a b:List Nat) (R:Lim a) (S:Lim b) (O:a.length≤1000) (Q:b.length≤1000) (F:PF) (f0:F 0=some (aG a)) (f1:F 1=some (aG b)) :
  aC.wp C (.seq (.region mb) (.seq (.seq (.region me) (.block 0 (.loop WS))) (.seq (.region WU) .ret))) (aX [.tmp 4,.tmp 5] (cD (szV (val a*val b)))) F .nil:=by
 have l:IntKind.i64.wrap ((a.length:Int)+(b.length:Int))=((a.length+b.length:Nat):Int):=fX Om;have A:((a.length+b.length:Nat):Int)*((4:Nat):Int)≤140737488355328:=Om;have B:((a.length+b.length:Nat):Int)≤9223372036854775807:=Om;have V:a1M (a.length+b.length) [PV.int .u32 0]=aI (a1M (a.length+b.length) 0):=by simp[aI]
 simp only[go_sem,mb,f0,f1,l,A,B,V];refine aQ fun o Y=>?_;simp only[go_sem,me,f0];refine wp_loop (α:=List Nat × Nat) (fun t=>kJ a b o t.2) (fun t=>PH.nil.set o (.rows 1 (aI t.1))) (fun t=>t.2≤a.length∧CL a b t.1 t.2) (fun t=>a.length-t.2) (a1M (a.length+b.length) 0,0)
  ⟨by simp,by simp,uM _,by simp[val,rH],fun j x _ H=>by rw[List.getElem?_replicate] at H; split at H<;>simp_all⟩ ?_ (PH.aL a_ Sq) ?_
 ·unfold kJ;exact Lq
 rintro⟨M,i⟩ ⟨hi,d⟩;simp only at hi d;simp only[go_sem,WS,Uu,kJ];by_cases J:i<a.length
 ·have e:(i:Int)<(a.length:Nat):=Om;have p:=azC (C:=C) a b R S O Q M i J d o;simp only[go_sem] at p;simp only[go_sem,e];refine p _ _ _ (by unfold kJ; exact Lq) Sq ?_;intro L' W H' y c w;have u:=c 34 _ (by unfold kJ; simp only[go_sem]; rfl);have g0:=c 0 _ (by unfold kJ; simp only[go_sem]; rfl);have g1:=c 1 _ (by unfold kJ; simp only[go_sem]; rfl);have X:=c 6 _ (by unfold kJ; simp only[go_sem]; rfl);have K:=c 32 _ (by unfold kJ; simp only[go_sem]; rfl);have N:=c 33 _ (by unfold kJ; simp only[go_sem]; rfl);simp only[go_sem,Iv,u,wZz i];refine aK (L',i+1) ⟨by simp only; omega,y⟩ (by simp only; omega) ?_ (PH.aL a_ w);exact Lq
 ·have U:i=a.length:=Om;subst U;have e:¬ (a.length:Int)<(a.length:Nat):=Om;have hV:val M=val a*val b:=by rw[d.v,a2O]
  simp only[go_sem,WU];have E:=L.sized _ d.lim (by rw[d.len]; omega);rw[hV] at E;refine pK (o:=o) (s:=1) (k:=a.length+b.length) (rs:=aI M) (v:=szV (val a*val b)) ?_ rfl Sq (by rw[bU,d.len]; exact a1O _) ?_
  ·rw[a2C (by rw[bU,d.len]; exact a1O _)]; exact E
  ·simp only[go_sem,szV];exact aZ (.inr rfl) .nil rfl a_ ⟨.refl _,rfl⟩
theorem Uq {C:Ctx} (L:oS C) (a b:List Nat) (i:Lim a) (l:Lim b) (w:a.length≤35184372087808) (x:b.length≤35184372087808) :
  NP.wp C (aX aaN.res (cD (opV (dT (val a) (val b)) (val a*val b)))) (PF.args [aG a,aG b]) .nil:=by
 simp only[go_sem,NP,Ur,Us,aaN];refine aA (L.large a i w) rfl ?_;by_cases c:nl (val a)>512
 ·simp only[go_sem,c,ma];rw[show opV (dT (val a) (val b)) (val a*val b)=.tup [aG [],.int .i64 2] by simp[opV,dT,c]];exact eO rfl
 simp only[go_sem,c];refine aA (L.large b l x) rfl ?_;by_cases d:nl (val b)>512
 ·simp only[go_sem,d,ma];rw[show opV (dT (val a) (val b)) (val a*val b)=.tup [aG [],.int .i64 2] by simp[opV,dT,d]];exact eO rfl
 have e:opV (dT (val a) (val b)) (val a*val b)=szV (val a*val b):=by simp[opV,dT,c,d]
 rw[e];simp only[go_sem,d];refine bX .nil Z9 a_ ?_;simp only[go_sem,Ut];have B:=fG i;have E:=fG l;have p:((nl (val a):Nat):Int)≤(a.length:Nat):=Om;have u:((nl (val b):Nat):Int)≤(b.length:Nat):=Om;refine cK (nJ a) (L.length a i w) rfl a_ ?_;simp only[go_sem,p,or_true,a2S,jA i];refine cK (nJ b) (L.length b l x) rfl a_ ?_;simp only[go_sem,u,or_true,a2S,jA l];have y:=aT (val a);have A:=aT (val b);have:=alD L (aE (val a)) (aE (val b)) (aU _) (aU _) (by rw[aW]; omega) (by rw[aW]; omega);rw[y,A] at this;have:=fun F f0 f1=>this F f0 f1;simp only[go_sem] at this;exact this _ rfl rfl
open Go Go.Na
theorem io {A P W Z:List Nat} {i:Nat} (d:P.length=i) (hi:i<W.length):(aI (A++(P++W.drop i)++Z))[A.length+i]?=some [.int .u32 ((W[i]:Nat):Int)]:=by
 have c:A.length+i<(A++(P++W.drop i)++Z).length:=by simp; omega
 rw[bL _ c];congr 4;rw[List.getElem_append_left (by simp; omega),a5D Om,a5D Om,List.getElem_drop];congr 1;omega
theorem DF {A P W Z:List Nat} {i:Nat} (c:P.length=i) (hi:i<W.length) (v:Nat):(aI (A++(P++W.drop i)++Z)).set (A.length+i) [.int .u32 (v:Int)]=aI (A++((P++[v])++W.drop (i+1))++Z):=by
 rw[fH];congr 1;rw[List.set_append_left _ _ (by simp; omega),a4P _ _ Om,a4P _ _ Om,a3K hi];rw[show A.length+i-A.length-P.length=0 by omega,a4R];simp
theorem avC {t:Nat} (h:t<18446744073709551616):kO .and .u64 (t:Int) 4294967295=some (.int .u64 ((t%4294967296:Nat):Int)):=by
 show some (PV.int .u64 (IntKind.u64.wrap (((BitVec.ofInt 64 (t:Int) &&& BitVec.ofInt 64 (4294967295:Int)).toNat:Nat):Int)))=_;have e:BitVec.ofInt 64 (4294967295:Int)=BitVec.ofNat 64 4294967295:=by rfl
 rw[e,BitVec.ofInt_natCast,BitVec.toNat_and,BitVec.toNat_ofNat,BitVec.toNat_ofNat,a2U (by simpa using h)];have c:(4294967295:Nat)%2 ^ 64=2 ^ 32-1:=by decide
 rw[c,Nat.and_two_pow_sub_one_eq_mod];rw[bD (Nat.lt_of_lt_of_le (a3C _ (by decide)) (by decide))]
theorem avO {c f x:Nat} (e:c<4294967296) (d:f≤4294967296) (i:x<4294967296):c+f*x<18446744073709551616∧(c+f*x)/4294967296<4294967296∧f*x≤4294967296*4294967295:=by
 have:f*x≤4294967296*4294967295:=a4S d Om;refine⟨by omega,?_,this⟩;omega
def I1 (v:List Nat) (j o i c b:Nat) (f:Nat):PF:=((((((((PF.nil.set 0 (.osl o 1 j (v.length+1))).set 1 (aG v)).set 2 (.int .u64 f)).set 7 (.int .u64 c)).set 8 (.int .u64 b)).set 13 (aG v)).set 14 (.int .i64 (v.length:Nat))).set 15 (.int .i64 i))
def IK (n w m:Nat):Nat:=if w<m then w+4294967296 ^ n-m else w-m
theorem NT {C:Ctx} (A W Z v:List Nat) (f:Nat) (hW:Lim W) (hv:Lim v) (hl:W.length=v.length+1) (h1:A.length+v.length≤100000) (hf:f≤4294967296) (ν:val v*f≤val W+4294967296 ^ (v.length+1)) (o:Nat) :
  tD.wp C (aX zJ.res (fun r H'=>r=.bool (decide (val W<val v*f))∧H'=PH.nil.set o (.rows 1 (aI (A++dQ (v.length+1) (IK (v.length+1) (val W) (val v*f))++Z)))))
   (PF.args [.osl o 1 A.length (v.length+1),aG v,.int .u64 f]) (PH.nil.set o (.rows 1 (aI (A++W++Z)))):=by
 simp only[go_sem,tD,NU,NV,NW,zJ];refine wp_loop (α:=List Nat × Nat × Nat) (fun t=>I1 v A.length o t.1.length t.2.1 t.2.2 f) (fun t=>PH.nil.set o (.rows 1 (aI (A++(t.1++W.drop t.1.length)++Z))))
  (fun t=>t.1.length≤v.length∧Lim t.1∧t.2.1<4294967296∧t.2.2≤1∧val (W.take t.1.length)+4294967296 ^ t.1.length*t.2.2+4294967296 ^ t.1.length*t.2.1=val t.1+val (v.take t.1.length)*f) (fun t=>v.length-t.1.length) ([],0,0)
  ⟨by simp,by simp[Lim],by simp,by simp,by simp[val]⟩ ?_ (PH.aL a_ (by simp only[go_sem,a3Z,a2S,List.nil_append])) ?_
 ·unfold I1;exact Lq
 rintro⟨P,c,b⟩ ⟨hP,i,hc,hb,u⟩;simp only at hP i hc hb u;simp only[go_sem,JS,NX,I1];by_cases X:P.length<v.length
 ·have F:(P.length:Int)<(v.length:Nat):=Om;have B:P.length<W.length:=Om;have H:(P.length:Int)<((v.length+1:Nat):Int):=Om;have hx:=hv _ (a1N X);have hw:=hW _ (a1N B);have η:=cA v X;have E:=cA W B;have K:=io (A:=A) (Z:=Z) (P:=P) rfl B;have p:=DF (A:=A) (Z:=Z) (P:=P) rfl B;generalize μ:v[P.length]=x at *
  generalize κ:W[P.length]=y at *
  have ι:(aI v)[P.length]?=some [.int .u32 ((x:Nat):Int)]:=by rw[bL v X,μ]
  obtain⟨k1,k2,k3⟩:=avO hc hf hx;have ex:IntKind.u64.wrap ((x:Nat):Int)=((x:Nat):Int):=bD Om;have Y:IntKind.u64.wrap ((y:Nat):Int)=((y:Nat):Int):=bD Om;have em:IntKind.u64.wrap ((f:Int)*(x:Int))=((f*x:Nat):Int):=by rw[show (f:Int)*(x:Int)=((f*x:Nat):Int) by simp];exact bD Om
  have l:c+f*x<18446744073709551616:=k1;have ea:IntKind.u64.wrap ((c:Int)+((f*x:Nat):Int))=((c+f*x:Nat):Int):=eZ l;have Q:=avC l;have θ:val (v.take (P.length+1))*f=val (v.take P.length)*f+4294967296 ^ P.length*(f*x):=by rw[η,a2R,a2E,a2M x f]
  generalize f*x=w at *
  have S:(c+w)%4294967296<4294967296:=a3C _ (by decide);obtain⟨s1,s2,s3,s4⟩:=J1 (a:=y) (bor:=b) (b:=(c+w)%4294967296) hw S hb (IntKind.u64.wrap (IntKind.u64.wrap ((y:Int)-(((c+w)%4294967296:Nat):Int))-(b:Int))) (by rw[fO,fO]; omega);generalize hd:OW y b ((c+w)%4294967296)=d at *
  generalize δ:XJ y b ((c+w)%4294967296)=V at *
  have γ:V≤1:=by rw[← δ]; unfold XJ; split<;>omega
  have hs:=p d;simp only[go_sem,F,NY,ι,NZ,ex,em,ea,OA,H,K,Y,Q,OB,s1,hs,OC,abR,s2,OD,wH,JT,dC (Om:P.length<9223372036854775807)];refine aK (P++[d],(c+w)/4294967296,V) ⟨by simp; omega,i.app fun z hz=>by simp at hz; omega,k2,γ,?_⟩ (by simp; omega) ?_ (PH.aL a_ ?_)
  ·simp only;rw[a1P,a1T,jD,E,θ,a3F,a2E,a2E];have h4:4294967296 ^ P.length*y+4294967296 ^ P.length*(4294967296*V)=4294967296 ^ P.length*d+4294967296 ^ P.length*((c+w)%4294967296)+4294967296 ^ P.length*b:=by rw[← a1U,s3,a1U,a1U]
   have h5:4294967296 ^ P.length*(4294967296*((c+w)/4294967296))+4294967296 ^ P.length*((c+w)%4294967296)=4294967296 ^ P.length*c+4294967296 ^ P.length*w:=by rw[← a1U,a4W,a1U]
   omega
  ·simp only;rw[a1P,a1T];exact Lq
  ·simp only;rw[a1P,a1T];simp only[go_sem]
 ·have e:P.length=v.length:=Om;have F:¬ (P.length:Int)<(v.length:Nat):=Om;have B:v.length<W.length:=Om;have H:(v.length:Int)<((v.length+1:Nat):Int):=Om;have hw:=hW _ (a1N B);have E:=cA W B;have K:=io (A:=A) (Z:=Z) (P:=P) e B;have p:=DF (A:=A) (Z:=Z) (P:=P) e B;have J:val (W.take (v.length+1))=val W:=by rw[a2C Om]
  generalize κ:W[v.length]=y at *
  have Y:IntKind.u64.wrap ((y:Nat):Int)=((y:Nat):Int):=bD Om;have β:=eY i;rw[e] at u β;rw[a2O] at u;rw[J] at E;have U:4294967296 ^ (v.length+1)=4294967296 ^ v.length*4294967296:=a3F _ _;have ο:val W+4294967296 ^ v.length*(b+c)=val P+val v*f+4294967296 ^ v.length*y:=by rw[E,a1U]; omega
  have ξ:b+c≤y+4294967296:=by
   rcases a2D (y+4294967296) (b+c) with h | h
   ·exfalso;have:4294967296 ^ v.length*(y+4294967296+1)≤4294967296 ^ v.length*(b+c):=a3X _ h;rw[a1U,a1U,Nat.mul_one] at this;omega
   ·exact h
  have N:∃ d k:Nat,d<4294967296∧k≤1∧y+4294967296*k=d+(b+c)∧IntKind.u32.wrap (IntKind.u64.wrap (IntKind.u64.wrap ((y:Int)-(c:Int))-(b:Int)))=(d:Int)∧((IntKind.u64.wrap (IntKind.u64.wrap ((y:Int)-(c:Int))-(b:Int))/9223372036854775808==1)=decide (k=1)):=by
   rw[TS,fO,fO];by_cases h:y<b+c
   ·refine⟨y+4294967296-(b+c),1,by omega,by omega,by omega,by omega,?_⟩;simp only[decide_true];exact bN Om
   ·refine⟨y-(b+c),0,by omega,by omega,by omega,by omega,?_⟩;exact bF Om
  obtain⟨d,k,hd,hk,hy,w1,w2⟩:=N;have hs:=p d;have hN:val (P++[d])+val v*f=val W+4294967296 ^ (v.length+1)*k:=by
   have:4294967296 ^ v.length*y+4294967296 ^ v.length*(4294967296*k)=4294967296 ^ v.length*d+4294967296 ^ v.length*(b+c):=by rw[← a1U,hy,a1U]
   rw[jD,e,U,a2E];omega
  have R:Lim (P++[d]):=i.app fun z hz=>by simp at hz; omega
  have ε:=eY R;rw[a1P,a1T,e] at ε;have M:decide (k=1)=decide (val W<val v*f):=by
   congr 1;apply propext;constructor
   ·intro h; subst h; omega
   ·intro h;rcases a4D k with h0 | h0
    ·subst h0; omega
    ·omega
  have O:IK (v.length+1) (val W) (val v*f)=val (P++[d]):=by
   unfold IK;split
   ·rename_i h;have:k=1:=by simpa [h] using M
    subst this; omega
   ·rename_i h;have:k=0:=by
     have:¬ k=1:=by simpa [h] using M
     omega
    subst this; omega
  have hD:dQ (v.length+1) (IK (v.length+1) (val W) (val v*f))=P++[d]:=by have:=EU R;rw[a1P,a1T,e] at this;rw[O,this]
  have ζ:W.drop (v.length+1)=[]:=a5C Om;simp only[go_sem,F,JU,e,H,K,Y,JV,w1,hs,JW,abR,w2,M];refine aZ (vs:=[.bool (decide (val W<val v*f))]) (.inr rfl) (PH.nil.set o (.rows 1 (aI (A++(P++[d]++W.drop (v.length+1))++Z)))) rfl (PH.aL a_ Sq) ⟨rfl,?_⟩;rw[hD,ζ,a3J]
end Go.PM
namespace Go.Na
theorem Sv {xs ys:List Nat} (e:Lim xs) (i:Lim ys) (c:xs.length=ys.length) (d:val xs=val ys):xs=ys:=by
 rw[← EU e,← EU i,c,d]
theorem aGY {k n:Nat} {xs:List Nat} (e:Lim xs) (c:xs.length=k) (d:val xs=n%4294967296 ^ k):dQ k n=xs :=
 Sv (lZ k n) e (by rw[kR,c]) (by rw[yI,d])
end Go.Na
namespace Go.PM
open Go Go.Na
def Iw (v:List Nat) (j o i c:Nat):PF:=((((((PF.nil.set 0 (.osl o 1 j (v.length+1))).set 1 (aG v)).set 4 (.int .u64 c)).set 7 (aG v)).set 8 (.int .i64 (v.length:Nat))).set 9 (.int .i64 i))
theorem SQ {C:Ctx} (A W Z v:List Nat) (hW:Lim W) (hv:Lim v) (hl:W.length=v.length+1) (h1:A.length+v.length≤100000) (o:Nat) :
  uY.wp C (aX HV.res (fun r H'=>r=.tup []∧H'=PH.nil.set o (.rows 1 (aI (A++dQ (v.length+1) (val W+val v)++Z)))))
   (PF.args [.osl o 1 A.length (v.length+1),aG v]) (PH.nil.set o (.rows 1 (aI (A++W++Z)))):=by
 simp only[go_sem,uY,SR,SS,HV];refine wp_loop (α:=List Nat × Nat) (fun t=>Iw v A.length o t.1.length t.2) (fun t=>PH.nil.set o (.rows 1 (aI (A++(t.1++W.drop t.1.length)++Z))))
  (fun t=>t.1.length≤v.length∧Lim t.1∧t.2≤1∧val (W.take t.1.length)+val (v.take t.1.length)=val t.1+4294967296 ^ t.1.length*t.2) (fun t=>v.length-t.1.length) ([],0)
  ⟨by simp,by simp[Lim],by simp,by simp[val]⟩ ?_ (PH.aL a_ (by simp only[go_sem,a3Z,a2S,List.nil_append])) ?_
 ·unfold Iw;exact Lq
 rintro⟨P,c⟩ ⟨hP,d,hc,l⟩;simp only at hP d hc l;simp only[go_sem,SP,ST,Iw];by_cases M:P.length<v.length
 ·have u:(P.length:Int)<(v.length:Nat):=Om;have p:P.length<W.length:=Om;have w:(P.length:Int)<((v.length+1:Nat):Int):=Om;have hx:=hv _ (a1N M);have hw:=hW _ (a1N p);have S:=cA v M;have F:=cA W p;have E:=io (A:=A) (Z:=Z) (P:=P) rfl p;have i:=DF (A:=A) (Z:=Z) (P:=P) rfl p;generalize X:v[P.length]=x at *
  generalize V:W[P.length]=y at *
  have U:(aI v)[P.length]?=some [.int .u32 ((x:Nat):Int)]:=by rw[bL v M,X]
  have ex:IntKind.u64.wrap ((x:Nat):Int)=((x:Nat):Int):=bD Om;have N:IntKind.u64.wrap ((y:Nat):Int)=((y:Nat):Int):=bD Om;have Y:IntKind.u64.wrap ((y:Int)+(x:Int))=((y+x:Nat):Int):=eZ Om;have e2:IntKind.u64.wrap ((c:Int)+((y+x:Nat):Int))=((c+(y+x):Nat):Int):=eZ Om;have R:=i ((c+(y+x))%4294967296);simp only[go_sem,u,SU,U,SV,w,E,ex,N,Y,e2,SW,cF,R,SX,wH,SY,dC (Om:P.length<9223372036854775807)];refine aK (P++[(c+(y+x))%4294967296],(c+(y+x))/4294967296) ⟨by simp; omega,d.app fun z K=>by simp at K; subst K; exact a3C _ (by decide),by simp only; omega,?_⟩ (by simp; omega) ?_ (PH.aL a_ ?_)
  ·simp only;rw[a1P,a1T,jD,F,S,a3F,a2E];have h5:4294967296 ^ P.length*(4294967296*((c+(y+x))/4294967296))+4294967296 ^ P.length*((c+(y+x))%4294967296)=4294967296 ^ P.length*c+(4294967296 ^ P.length*y+4294967296 ^ P.length*x):=by rw[← a1U,a4W,a1U,a1U]
   omega
  ·simp only;rw[a1P,a1T];exact Lq
  ·simp only;rw[a1P,a1T];simp only[go_sem]
 ·have e:P.length=v.length:=Om;have u:¬ (P.length:Int)<(v.length:Nat):=Om;have p:v.length<W.length:=Om;have w:(v.length:Int)<((v.length+1:Nat):Int):=Om;have hw:=hW _ (a1N p);have F:=cA W p;have E:=io (A:=A) (Z:=Z) (P:=P) e p;have i:=DF (A:=A) (Z:=Z) (P:=P) e p;have B:val (W.take (v.length+1))=val W:=by rw[a2C Om]
  generalize V:W[v.length]=y at *
  have O:=eY d;rw[e] at l O;rw[a2O] at l;rw[B] at F;have ec:IntKind.u32.wrap ((c:Nat):Int)=((c:Nat):Int):=by rw[cF,a2U Om]
  have N:IntKind.u32.wrap ((y:Int)+(c:Int))=(((y+c)%4294967296:Nat):Int):=by rw[show (y:Int)+(c:Int)=((y+c:Nat):Int) by omega,cF]
  have R:=i ((y+c)%4294967296);have H:Lim (P++[(y+c)%4294967296]):=d.app fun z K=>by simp at K; subst K; exact a3C _ (by decide)
  have J:=eY H;rw[a1P,a1T,e] at J;have hD:dQ (v.length+1) (val W+val v)=P++[(y+c)%4294967296]:=by
   refine aGY H (by rw[a1P,a1T,e]) ?_;have:val W+val v=val (P++[(y+c)%4294967296])+4294967296 ^ (v.length+1)*((y+c)/4294967296):=by rw[jD,e,a3F,a2E,a3V,← a1U,Nat.mod_add_div,a1U];omega
   rw[this,Nat.add_mul_mod_self_left,a2U J]
  have Q:W.drop (v.length+1)=[]:=a5C Om;simp only[go_sem,u,SZ,e,w,E,ec,N,R];refine aZ (vs:=[]) (.inl rfl) (PH.nil.set o (.rows 1 (aI (A++(P++[(y+c)%4294967296]++W.drop (v.length+1))++Z)))) rfl (PH.aL a_ Sq) ⟨rfl,?_⟩;rw[hD,Q,a3J]
def aaL (o n:Nat) (len:Nat):PF:=((PF.nil.set 0 (.osl o 1 0 len)).set 3 (.int .i64 n))
theorem SO {C:Ctx} (xs:List Nat) (w:Lim xs) (A:xs.length≤35184372087808) (o:Nat):oL.wp C (aX wX.res (fun r H'=>r=.int .i64 (nl (val xs):Nat)∧H'=PH.nil.set o (.rows 1 (aI xs)))) (PF.args [.osl o 1 0 xs.length]) (PH.nil.set o (.rows 1 (aI xs))):=by
 simp only[go_sem,oL,HQ,HR,wX];refine wp_loop (α:=Nat) (fun n=>aaL o n xs.length) (fun _=>PH.nil.set o (.rows 1 (aI xs))) (fun n=>n≤xs.length∧∀ j x,n≤j→xs[j]?=some x→x=0) (fun n=>n) xs.length ⟨a1O _,fun j x h e=>by rw[a2Z h] at e; cases e⟩ ?_ b_ ?_
 ·unfold aaL;exact Lq
 rintro n ⟨u,p⟩;have out:(∀ x,0<n→xs[n-1]?=some x→x≠0)→nl (val xs)=n:=fun h=>Vf w u p h;simp only[go_sem,HP,HS,aaL];by_cases i:(n:Int)>0
 ·have l:0<n:=Om;have hi:=bL xs (Om:n-1<xs.length);have hlt:((n-1:Nat):Int)<(xs.length:Nat):=Om;simp only[go_sem,i,uV (Om:n≤9223372036854775807) l,hi,hlt];by_cases d:xs[n-1]=0
  ·simp only[go_sem,bN (Om:((xs[n-1]:Nat):Int)=0),HT,uV (Om:n≤9223372036854775807) l];refine aK (n-1) ⟨by omega,fun j x y c=>?_⟩ Om ?_ b_
   ·rcases a2D j n with h | h
    ·have:j=n-1:=Om;subst this;rw[a1V Om] at c;cases c; exact d
    ·exact p j x h c
   ·exact Lq
  ·simp only[go_sem,bF (Om:((xs[n-1]:Nat):Int)≠0),sE];refine aZ (.inr rfl) _ rfl b_ ⟨?_,rfl⟩;rw[out fun x _ c=>by rw[a1V Om] at c; cases c; exact d];rfl
 ·simp only[go_sem,i,sE];refine aZ (.inr rfl) _ rfl b_ ⟨?_,rfl⟩;rw[out fun x h=>by omega];rfl
end Go.PM
namespace Go.Na
structure Kn (V W top next Vr head u2 Wr p:Nat):Prop where
 hV:V=top*(4294967296*p)+next*p+Vr
 hW:W=head*(4294967296*p)+u2*p+Wr
 hVr:Vr<p
 hWr:Wr<p
 htop:2147483648≤top
 a0V:next<4294967296
 hu2:u2<4294967296
 hlt:W<V*4294967296
section
variable {V W top next Vr head u2 Wr p:Nat}
theorem Kn.low (K:Kn V W top next Vr head u2 Wr p):next*p+Vr<4294967296*p∧u2*p+Wr<4294967296*p:=by
 have c:(next+1)*p≤4294967296*p:=a2Q _ K.a0V;have d:(u2+1)*p≤4294967296*p:=a2Q _ K.hu2;rw[a2R,Nat.one_mul] at c d;have:=K.hVr;have:=K.hWr;omega
theorem Kn.An (K:Kn V W top next Vr head u2 Wr p):0<V∧4294967296*p≤V∧0<p:=by
 have:=K.hVr;have h:1*(4294967296*p)≤top*(4294967296*p):=a2Q _ (by have:=K.htop; omega);have:=K.hV;omega
theorem Kn.aPV (K:Kn V W top next Vr head u2 Wr p):W/V<4294967296:=by
 rw[a4L K.An.1,a2M]; exact K.hlt
theorem Kn.g0 (K:Kn V W top next Vr head u2 Wr p):W/V≤head/top:=by
 have c:0<top:=by have:=K.htop; omega
 rw[Nat.le_div_iff_mul_le c];have d:W/V*V≤W:=Nat.div_mul_le_self W V;have e:W/V*(top*(4294967296*p))≤W/V*V:=a3X _ (by have:=K.hV; omega);have i:=K.low.2;have l:=K.hW;have h5:(W/V*top)*(4294967296*p)<(head+1)*(4294967296*p):=by rw[a2E,a2R,Nat.one_mul]; omega
 have:=Nat.lt_of_mul_lt_mul_right h5;omega
theorem Kn.g1 (K:Kn V W top next Vr head u2 Wr p) {g r:Nat} (i:g*top+r=head) (A:W/V≤g) (h:g≥4294967296∨g*next>r*4294967296+u2):1≤g∧W/V≤g-1:=by
 have u:=K.aPV;have c:=Nat.div_mul_le_self W V;generalize W/V=Q at *
 rcases h with h | h
 ·omega
 ·have l:Q≠g:=by
   intro e;have w:g*V≤W:=by rw[← e]; exact c
   have x:g*V=g*top*(4294967296*p)+g*next*p+g*Vr:=by rw[K.hV,a1U,a1U,a2E,a2E]
   have d:(r*4294967296+u2+1)*p≤g*next*p:=a2Q _ h
   rw[a2R,a2R,Nat.one_mul,a2E r] at d;have y:g*top*(4294967296*p)+r*(4294967296*p)=head*(4294967296*p):=by rw[← a2R,i]
   have:=K.hW;have:=K.hWr;omega
  omega
theorem Kn.g2 (K:Kn V W top next Vr head u2 Wr p) {g r:Nat} (l:g*top+r=head) (u:g≤4294967296) (h:g*next≤r*4294967296+u2):g≤W/V+1:=by
 rcases a4D g with e | e
 ·rw[e]; exact a1X _
 have d:g*V=g*top*(4294967296*p)+g*next*p+g*Vr:=by rw[K.hV,a1U,a1U,a2E,a2E]
 have c:g*next*p≤(r*4294967296+u2)*p:=a2Q _ h
 rw[a2R,a2E r] at c;have i:g*top*(4294967296*p)+r*(4294967296*p)=head*(4294967296*p):=by rw[← a2R,l]
 have h5:g*Vr≤4294967296*Vr:=a2Q _ u;have w:4294967296*(Vr+1)≤4294967296*p:=a3X _ K.hVr;have hV:=K.An;have hW:=K.hW;have h7:(g-1)*V≤W:=by
  have:g*V=(g-1)*V+V:=by obtain⟨k,rfl⟩:∃ k,g=k+1:=⟨g-1,by omega⟩;rw[a2R,Nat.one_mul]; rfl
  omega
 have:=(Nat.le_div_iff_mul_le hV.1).2 h7;generalize W/V=Q at *
 clear d c i h5 h7;omega
theorem Kn.g3 (K:Kn V W top next Vr head u2 Wr p) {g r:Nat} (l:g*top+r=head) (u:g≤4294967296) (w:4294967296≤r):g≤W/V+1:=by
 have c:=K.low.1;have hV:=K.An;have d:g*V=g*top*(4294967296*p)+g*(next*p+Vr):=by rw[K.hV,a3V,a1U,a2E]
 have e:g*(next*p+Vr)≤4294967296*(4294967296*p):=a4S u Om;have i:g*top*(4294967296*p)+r*(4294967296*p)=head*(4294967296*p):=by rw[← a2R,l]
 have h5:4294967296*(4294967296*p)≤r*(4294967296*p):=a2Q _ w;have hW:=K.hW;have h7:g*V≤W:=Om;have:=(Nat.le_div_iff_mul_le hV.1).2 h7;generalize W/V=Q at *
 clear d e i h5 h7;omega
theorem Kn.g4 (K:Kn V W top next Vr head u2 Wr p):head/top≤4294967296+1:=by
 have c:=K.low.1;have hV:=K.An;have hW:=K.hW;have hlt:=K.hlt;have u:=K.htop;have i:head<(top+1)*4294967296:=by
  have d:V<(top+1)*(4294967296*p):=by rw[K.hV,a2R,Nat.one_mul]; omega
  have l:V*4294967296≤(top+1)*(4294967296*p)*4294967296:=a2Q _ (Nat.le_of_lt d);have e:head*(4294967296*p)<(top+1)*4294967296*(4294967296*p):=by
   have:(top+1)*(4294967296*p)*4294967296=(top+1)*4294967296*(4294967296*p):=by rw[a2E,a2M (4294967296*p) 4294967296,← a2E]
   omega
  exact Nat.lt_of_mul_lt_mul_right e
 have h5:head/top<4294967296+2:=by rw[a4L Om];omega
 omega
end
theorem uH:∀ (k n:Nat),dQ (k+1) n=dQ k n++[n/4294967296 ^ k%4294967296]
 | 0,n=>by simp[dQ]
 | k+1,n=>by show (n%4294967296)::dQ (k+1) (n/4294967296)=(n%4294967296)::dQ k (n/4294967296)++[n/4294967296 ^ (k+1)%4294967296];rw[uH k (n/4294967296),Nat.div_div_eq_div_mul,a3F,a2M 4294967296];rfl
theorem tM {xs:List Nat} (h:Lim xs):∀ {k:Nat},k≤xs.length→val (xs.drop k)=val xs/4294967296 ^ k:=by
 intro k c;have e:val xs=val (xs.take k)+4294967296 ^ k*val (xs.drop k):=by
  conv=>lhs; rw[← a4H k xs,fS,a2A,a3W c]
 have d:=eY (h.take k);rw[a2A,a3W c] at d;rw[e,Nat.add_mul_div_left _ _ (a4F (by decide)),a4X d,a2H]
theorem TB {R s i c d X:Nat} (u:s<32) (h:R/4294967296 ^ i=c+4294967296*(d+4294967296*X)):(R/2 ^ s)/4294967296 ^ i%4294967296=(4294967296*d+c)/2 ^ s%4294967296:=by
 rw[Nat.div_div_eq_div_mul,a2M (2 ^ s),← Nat.div_div_eq_div_mul,h];have l:4294967296*4294967296=2 ^ s*(2 ^ (32-s)*4294967296):=by rw[← a2E,← Nat.pow_add,show s+(32-s)=32 by omega]
 have e:c+4294967296*(d+4294967296*X)=(4294967296*d+c)+2 ^ s*(2 ^ (32-s)*X*4294967296):=by
  have:4294967296*(4294967296*X)=2 ^ s*(2 ^ (32-s)*X*4294967296):=by rw[← a2E,l,a2E,a2E,a2E,a2M 4294967296 X]
  rw[a1U,this]; omega
 rw[e,Nat.add_mul_div_left _ _ (a4F (by decide)),Nat.add_mul_mod_self_right]
end Go.Na
namespace Go.PM
open Go Go.Na
theorem aKH {A W Z:List Nat} {i:Nat} (hi:i<W.length):(aI (A++W++Z))[A.length+i]?=some [.int .u32 ((W[i]:Nat):Int)]:=by
 have c:A.length+i<(A++W++Z).length:=by simp; omega
 rw[bL _ c];congr 4;rw[List.getElem_append_left (by simp; omega),a5D Om];congr 1;omega
def dF (u v:PV) (n:Nat) (q:PV) (top next j s:Nat):PF:=((((((((PF.nil.set 8 (.int .u64 s)).set 9 (u)).set 10 (v)).set 11 (.int .i64 n)).set 12 (q)).set 13 (.int .u64 top)).set 14 (.int .u64 next)).set 15 (.int .i64 j))
def dG (u v:PV) (n:Nat) (q:PV) (top next j s g r:Nat):PF:=((((((((((PF.nil.set 8 (.int .u64 s)).set 9 (u)).set 10 (v)).set 11 (.int .i64 n)).set 12 (q)).set 13 (.int .u64 top)).set 14 (.int .u64 next)).set 15 (.int .i64 j)).set 17 (.int .u64 g)).set 18 (.int .u64 r))
theorem yj {C:Ctx} {V y top next Z head e Wr p:Nat} (i:Kn V y top next Z head e Wr p) (htop:top<4294967296) (o l m j s:Nat) (v q:PV) (ζ:j+m+2<l) (η:l≤100000) (U:List Nat) (hU:(aI U)[j+m]?=some [.int .u32 (e:Nat)]) (K:bV) (F:PF) (H:PH)
  (hF:(dG (.osl o 1 0 l) v (m+2) q top next j s (head/top) (head%top)).le F) (hH:H o=some (.rows 1 (aI U)))
  (Y:∀ g r x,y/V≤g→g≤y/V+1→g≤4294967296→(dG (.osl o 1 0 l) v (m+2) q top next j s g r).le x→K .normal x H) :
  aC.wp C (.block 4 (.loop tV)) K F H:=by
 have X:0<top:=by have:=i.htop; omega
 have hn:=i.a0V;have hu2:=i.hu2;simp only[go_sem];refine wp_loop (α:=Nat × Nat) (fun t=>dG (.osl o 1 0 l) v (m+2) q top next j s t.1 t.2) (fun _=>H) (fun t=>t.1*top+t.2=head∧y/V≤t.1∧t.1≤4294967296+1∧t.2<4294967296) (fun t=>t.1) (head/top,head%top)
  ⟨by simp only; rw[a2M]; exact a4W head top,i.g0,i.g4,Nat.lt_trans (a3C _ X) htop⟩ hF b_ ?_
 rintro⟨g,r⟩ ⟨J,W,S,hr⟩;simp only at J W S hr;have e1:IntKind.i64.wrap ((j:Int)+((m+2:Nat):Int))=((j+(m+2):Nat):Int):=fX Om;have e2:IntKind.i64.wrap (((j+(m+2):Nat):Int)-2)=((j+m:Nat):Int):=by rw[wrap_i64 Om Om]; omega
 have hlt:((j+m:Nat):Int)<(l:Nat):=Om;have O:IntKind.u64.wrap ((e:Nat):Int)=((e:Nat):Int):=bD Om;have B:shift .shl .u64 (r:Int) 32=some (.int .u64 ((2 ^ 32*r:Nat):Int)):=IH (s:=32) Om Om;have N:(2:Nat) ^ 32=4294967296:=by decide
 have A:=orI (a:=2 ^ 32*r) (b:=e) (n:=2 ^ 32*r+e) Om Om (Nat.two_pow_add_eq_or_of_lt Om r).symm Om;rw[N] at B A;have more:(g≥4294967296∨g*next>r*4294967296+e)→∀ x:PF,(dG (.osl o 1 0 l) v (m+2) q top next j s g r).le x→aC.wp C (.block 5 (.seq (.region AZ) (.seq (.region BA) (.seq (.region BB) (.cond (.tmp 136) (.exit 4) .skip)))))
   (jS (fun t:Nat × Nat=>dG (.osl o 1 0 l) v (m+2) q top next j s t.1 t.2) (fun _=>H) (fun t=>t.1*top+t.2=head∧y/V≤t.1∧t.1≤4294967296+1∧t.2<4294967296) (fun t=>t.1) g (fQ 4 K)) x H:=by
  intro hc x d;obtain⟨g1,g2⟩:=i.g1 J W hc;have f8:=d 8 _ (by unfold dG; simp only[go_sem]; rfl);have f9:=d 9 _ (by unfold dG; simp only[go_sem]; rfl);have β:=d 10 _ (by unfold dG; simp only[go_sem]; rfl);have f11:=d 11 _ (by unfold dG; simp only[go_sem]; rfl);have γ:=d 12 _ (by unfold dG; simp only[go_sem]; rfl);have f13:=d 13 _ (by unfold dG; simp only[go_sem]; rfl);have f14:=d 14 _ (by unfold dG; simp only[go_sem]; rfl);have δ:=d 15 _ (by unfold dG; simp only[go_sem]; rfl);have Q:=d 17 _ (by unfold dG; simp only[go_sem]; rfl);have R:=d 18 _ (by unfold dG; simp only[go_sem]; rfl);have w1:IntKind.u64.wrap ((g:Int)-1)=((g-1:Nat):Int):=by rw[wrap_u64 Om Om]; omega
  have w2:IntKind.u64.wrap ((r:Int)+(top:Int))=((r+top:Nat):Int):=eZ Om;have E:(g-1)*top+(r+top)=head:=by obtain⟨k,rfl⟩:∃ k,g=k+1:=⟨g-1,by omega⟩;rw[a2R,Nat.one_mul] at J;simp only[Nat.add_sub_cancel];omega
  simp only[go_sem,AZ,BA,BB,Q,R,f13,w1,w2];by_cases c:r+top≥4294967296
  ·have M:((r+top:Nat):Int)≥4294967296:=Om;simp only[go_sem,M];refine Y (g-1) (r+top) _ g2 (i.g3 E Om c) Om ?_;unfold dG;exact Lq
  ·have M:¬ ((r+top:Nat):Int)≥4294967296:=Om;simp only[go_sem,M];refine aK (g-1,r+top) ⟨E,g2,by simp only; omega,by simp only; omega⟩ (by simp only; omega) ?_ b_;unfold dG;exact Lq
 simp only[go_sem,tV,SH,dG];by_cases c1:g≥4294967296
 ·have u:(g:Int)≥4294967296:=Om;simp only[go_sem,u];have:=more (.inl c1);simp only[go_sem,dG] at this;refine this _ ?_;exact Lq
 ·have u:¬ (g:Int)≥4294967296:=Om;have ε:g*next≤4294967295*4294967295:=a4S Om Om
  have em:IntKind.u64.wrap ((g:Int)*(next:Int))=((g*next:Nat):Int):=by rw[show (g:Int)*(next:Int)=((g*next:Nat):Int) by simp];exact bD Om
  simp only[go_sem,u,em,B,e1,e2,hlt,hH,hU,O,A];by_cases c2:g*next>r*4294967296+e
  ·have w:((g*next:Nat):Int)>((4294967296*r+e:Nat):Int):=Om;simp only[go_sem,w];have:=more (.inr c2);simp only[go_sem,dG] at this;refine this _ ?_;exact Lq
  ·have w:¬ ((g*next:Nat):Int)>((4294967296*r+e:Nat):Int):=Om;simp only[go_sem,w];refine Y g r _ W (i.g2 J Om Om) Om ?_;unfold dG;exact Lq
end Go.PM
namespace Go.Na
theorem aTV {W v:List Nat} {m:Nat} (hW:Lim W) (c:Lim v) (u:v.length=m+2) (p:W.length=m+3) (w:2147483648≤v[m+1]) (hlt:val W<val v*4294967296) :
  Kn (val v) (val W) (v[m+1]) (v[m]) (val (v.take m)) (W[m+2]*4294967296+W[m+1]) (W[m]) (val (W.take m)) (4294967296 ^ m):=by
 have i:val v=val (v.take m)+4294967296 ^ m*(v[m]+4294967296*v[m+1]):=by
  rw[rF v (Om:m<v.length)];congr 4;have:v.drop (m+1)=[v[m+1]]:=by rw[a3K Om,a5C Om]
  rw[this]; simp[val]
 have l:val W=val (W.take m)+4294967296 ^ m*(W[m]+4294967296*(W[m+1]+4294967296*W[m+2])):=by
  rw[rF W (Om:m<W.length)];congr 4;have:W.drop (m+1)=[W[m+1],W[m+2]]:=by rw[a3K Om,a3K Om,a5C Om]
  rw[this]; simp[val]
 have d:=eY (c.take m);have e:=eY (hW.take m);rw[a2A,a3W Om] at d e;refine⟨?_,?_,d,e,w,c _ (a1N _),hW _ (a1N _),hlt⟩
 ·rw[i,a1U,a2M (4294967296 ^ m) (v[m]),← a2E (4294967296 ^ m),a2M (4294967296 ^ m*4294967296),a2M (4294967296 ^ m) 4294967296];omega
 ·rw[l,a1U,a2M (4294967296 ^ m) (W[m]),← a2E (4294967296 ^ m),a2M (4294967296 ^ m*4294967296),a2M (4294967296 ^ m) 4294967296,a2M (W[m+2]),Nat.add_comm (4294967296*W[m+2])];omega
end Go.Na
namespace Go.PM
open Go Go.Na
structure YB (C:Ctx):Prop where
 subtract:∀ (A W Z v:List Nat) (f o:Nat),Lim W→Lim v→W.length=v.length+1→A.length+v.length≤100000→f≤4294967296→val v*f≤val W+4294967296 ^ (v.length+1) →
  aF C 142 [.osl o 1 A.length (v.length+1),aG v,.int .u64 f] (PH.nil.set o (.rows 1 (aI (A++W++Z)))) (fun r H'=>r=.bool (decide (val W<val v*f))∧H'=PH.nil.set o (.rows 1 (aI (A++dQ (v.length+1) (IK (v.length+1) (val W) (val v*f))++Z))))
 restore:∀ (A W Z v:List Nat) (o:Nat),Lim W→Lim v→W.length=v.length+1→A.length+v.length≤100000 →
  aF C 139 [.osl o 1 A.length (v.length+1),aG v] (PH.nil.set o (.rows 1 (aI (A++W++Z)))) (fun r H'=>r=.tup []∧H'=PH.nil.set o (.rows 1 (aI (A++dQ (v.length+1) (val W+val v)++Z))))
theorem Cb (k n:Nat):dQ k (n%4294967296 ^ k)=dQ k n :=
 Sv (lZ _ _) (lZ _ _) (by rw[kR,kR]) (by rw[yI,yI,Nat.mod_mod])
theorem yi {C:Ctx} (D:YB C) (A W Z v Q:List Nat) (m o N M s:Nat) (X:N≠o) (hW:Lim W) (hv:Lim v) (ν:v.length=m+2) (μ:W.length=m+3) (ht:2147483648≤v[m+1]) (hlt:val W<val v*4294967296)
  (n':M=A.length+(m+3)+Z.length) (i':M≤10000) (Ψ:A.length<Q.length) (K:bV) (F:PF) (H:PH) (O:(dF (.osl o 1 0 M) (aG v) (m+2) (.osl N 1 0 Q.length) (v[m+1]) (v[m]) A.length s).le F)
  (hH:H o=some (.rows 1 (aI (A++W++Z)))) (θ:H N=some (.rows 1 (aI Q)))
  (hK:∀ F' H',(dF (.osl o 1 0 M) (aG v) (m+2) (.osl N 1 0 Q.length) (v[m+1]) (v[m]) A.length s).le F'→H' o=some (.rows 1 (aI (A++dQ (m+3) (val W%val v)++Z)))→H' N=some (.rows 1 (aI (Q.set A.length (val W/val v))))→K .normal F' H') :
  aC.wp C (.block 3 (.seq (.draw AX) (.seq (.draw AY) (.seq (.block 4 (.loop tV)) (.seq (.seq (.region BC) (.cond (.tmp 146) (.seq (.region BD) (.region BE)) .skip)) (.region tW)))))) K F H:=by
 have Kk:=aTV hW hv ν μ ht hlt;have l:∀ i (h:i<W.length),(aI (A++W++Z))[A.length+i]?=some [.int .u32 ((W[i]:Nat):Int)]:=fun i h=>aKH h;have g0:=l (m+2) Om;have g1:=l (m+1) Om;have g2:=l m Om;have hq:=Kk.aPV;have htop:v[m+1]<4294967296:=hv _ (a1N _);have r':=hW _ (a1N (Om:m+2<W.length));have s':=hW _ (a1N (Om:m+1<W.length));have V:=Kk.An.1;generalize q':v[m+1]=top at *
 generalize o':v[m]=next at *
 generalize t':W[m+2]=x at *
 generalize u':W[m+1]=Y at *
 generalize v':W[m]=u2 at *
 have f8:=O 8 _ (by unfold dF; simp only[go_sem]; rfl);have f9:=O 9 _ (by unfold dF; simp only[go_sem]; rfl);have Γ:=O 10 _ (by unfold dF; simp only[go_sem]; rfl);have f11:=O 11 _ (by unfold dF; simp only[go_sem]; rfl);have Δ:=O 12 _ (by unfold dF; simp only[go_sem]; rfl);have f13:=O 13 _ (by unfold dF; simp only[go_sem]; rfl);have f14:=O 14 _ (by unfold dF; simp only[go_sem]; rfl);have δ:=O 15 _ (by unfold dF; simp only[go_sem]; rfl);have e1:IntKind.i64.wrap ((A.length:Int)+((m+2:Nat):Int))=((A.length+(m+2):Nat):Int):=fX Om;have e2:IntKind.i64.wrap (((A.length+(m+2):Nat):Int)-1)=((A.length+(m+1):Nat):Int):=by rw[wrap_i64 Om Om]; omega
 have c0:((A.length+(m+2):Nat):Int)<(M:Nat):=Om;have c1:((A.length+(m+1):Nat):Int)<(M:Nat):=Om;have ψ:IntKind.u64.wrap ((x:Nat):Int)=((x:Nat):Int):=bD Om;have ω:IntKind.u64.wrap ((Y:Nat):Int)=((Y:Nat):Int):=bD Om;have γ:shift .shl .u64 (x:Int) 32=some (.int .u64 ((2 ^ 32*x:Nat):Int)):=IH (s:=32) Om Om;have χ:(2:Nat) ^ 32=4294967296:=by decide
 have S:=orI (a:=2 ^ 32*x) (b:=Y) (n:=2 ^ 32*x+Y) Om Om (Nat.two_pow_add_eq_or_of_lt Om x).symm Om;rw[χ] at γ S;have Λ:4294967296*x+Y=x*4294967296+Y:=Om;rw[Λ] at S;simp only[go_sem];refine bX H eH b_ ?_;simp only[go_sem,AX,f9,δ,f11,e1,e2,c0,c1,hH,g0,g1,ψ,ω,γ,S];refine bX H eH b_ ?_;have p':0<top:=Om;have c':¬ ((top:Nat):Int)=0:=Om;generalize m':x*4294967296+Y=head at *
 have α:IntKind.u64.wrap (Int.tdiv ((head:Nat):Int) ((top:Nat):Int))=((head/top:Nat):Int):=by rw[show Int.tdiv ((head:Nat):Int) ((top:Nat):Int)=((head/top:Nat):Int) from rfl];exact bD (by have:=Kk.g4; omega)
 have β:Int.tmod ((head:Nat):Int) ((top:Nat):Int)=((head%top:Nat):Int):=rfl;simp only[go_sem,AY,f13,c',α,β];have e:=yj (C:=C) Kk htop o M m A.length s (aG v) (.osl N 1 0 Q.length) Om Om (A++W++Z) g2;simp only[go_sem] at e;refine e _ _ H ?_ hH ?_
 ·unfold dG;refine c_ (c_ (c_ (c_ (c_ (c_ (c_ (c_ (c_ (c_ d_ ?_) ?_) ?_) ?_) ?_) ?_) ?_) ?_) ?_) ?_<;>simp only[go_sem,f8,f9,Γ,f11,Δ,f13,f14,δ]
 clear e;intro g r F' q1 q2 q3 c;have h8:=c 8 _ (by unfold dG; simp only[go_sem]; rfl);have h9:=c 9 _ (by unfold dG; simp only[go_sem]; rfl);have y:=c 10 _ (by unfold dG; simp only[go_sem]; rfl);have B:=c 11 _ (by unfold dG; simp only[go_sem]; rfl);have ε:=c 12 _ (by unfold dG; simp only[go_sem]; rfl);have ζ:=c 13 _ (by unfold dG; simp only[go_sem]; rfl);have η:=c 14 _ (by unfold dG; simp only[go_sem]; rfl);have E:=c 15 _ (by unfold dG; simp only[go_sem]; rfl);have U:=c 17 _ (by unfold dG; simp only[go_sem]; rfl);have e3:IntKind.i64.wrap (((A.length+(m+2):Nat):Int)+1)=((A.length+(m+3):Nat):Int):=by rw[wrap_i64 Om Om]; omega
 have c3:(A.length:Int)≤((A.length+(m+3):Nat):Int):=Om;have c4:((A.length+(m+3):Nat):Int)≤(M:Nat):=Om;have e4:A.length+(m+3)-A.length=v.length+1:=Om;have u:v.length+1=m+3:=Om;have l':val v*(val W/val v)+val W%val v=val W:=a4W _ _;have ι:=eY hW;rw[μ] at ι;have φ:val W%val v<val v:=a3C _ V;have σ:=eY hv;rw[ν] at σ;have ο:4294967296 ^ (m+3)=4294967296 ^ (m+2)*4294967296:=a3F _ _;generalize j':val W/val v=w at *
 generalize k':val W%val v=rd at *
 have R:∀ (p:PF) (H2:PH),p 8=some (.int .u64 s)→p 9=some (.osl o 1 0 M)→p 10=some (aG v)→p 11=some (.int .i64 ((m+2:Nat):Int))→p 12=some (.osl N 1 0 Q.length)→p 13=some (.int .u64 top)→p 14=some (.int .u64 next)→p 15=some (.int .i64 A.length)→p 17=some (.int .u64 w) →
   H2 o=some (.rows 1 (aI (A++dQ (m+3) rd++Z)))→H2 N=some (.rows 1 (aI Q))→aC.wp C (.region tW) (fQ 3 K) p H2:=by
  intro p H2 k8 k9 d' e' τ f' g' υ h' kH kQ;have b':(aI Q)[A.length]?=some [.int .u32 ((Q[A.length]:Nat):Int)]:=bL Q Ψ;have a':(A.length:Int)<(Q.length:Nat):=Om;have eq:IntKind.u32.wrap ((w:Nat):Int)=((w:Nat):Int):=by rw[cF,a2U hq]
  have ρ:=fH Q A.length w;have ξ:¬ o=N:=fun h=>X h.symm;simp only[go_sem,tW,τ,υ,h',eq,a',kQ,b',ρ];refine hK _ _ ?_ (by simp only[go_sem,ξ,kH]) Sq;unfold dF;refine c_ (c_ (c_ (c_ (c_ (c_ (c_ (c_ d_ ?_) ?_) ?_) ?_) ?_) ?_) ?_) ?_<;>simp only[go_sem,k8,k9,d',e',τ,f',g',υ]
 have Ω:(PH.nil.set o (.rows 1 (aI (A++W++Z)))).le H:=PH.aL a_ hH;have κ:val v*g≤val W+4294967296 ^ (v.length+1):=by have:val v*g≤val v*(w+1):=a3X _ q2;rw[a1U,Nat.mul_one] at this;rw[u,ο]; omega
 simp only[go_sem,BC,h9,E,B,e1,e3,c3,c4,e4,y,U];refine lY (D.subtract A W Z v g o hW hv Om Om q3 κ) rfl Ω ?_;rintro rr H' ⟨rfl,rfl⟩ -;rw[PH.sG];by_cases Φ:g=w
 ·subst Φ;have d:¬ val W<val v*g:=Om;have hN:IK (v.length+1) (val W) (val v*g)=rd:=by unfold IK; rw[if_neg d]; omega
  rw[hN,u];simp only[go_sem,d];have:=R;simp only[go_sem] at this;refine this _ _ ?_ ?_ ?_ ?_ ?_ ?_ ?_ ?_ ?_ ?_ ?_<;>simp only[go_sem,h8,h9,y,B,ε,ζ,η,E,U,X,θ]
 ·have Ξ:g=w+1:=Om;subst Ξ;rw[a1U,Nat.mul_one];have d:val W<val v*w+val v:=Om;have hN:IK (v.length+1) (val W) (val v*w+val v)=rd+4294967296 ^ (m+3)-val v:=by unfold IK; rw[if_pos d,u]; omega
  rw[hN];have w1:IntKind.u64.wrap (((w+1:Nat):Int)-1)=((w:Nat):Int):=by rw[wrap_u64 Om Om]; omega
  simp only[go_sem,d,BD,U,w1,BE,h9,E,B,e1,e3,c3,c4,e4,y];have Θ:val (dQ (v.length+1) (rd+4294967296 ^ (m+3)-val v))=rd+4294967296 ^ (m+3)-val v:=nM (by rw[u]; omega);refine lY (D.restore A (dQ (v.length+1) (rd+4294967296 ^ (m+3)-val v)) Z v o (lZ _ _) hv (kR _ _) Om) rfl (PH.aL a_ Sq) ?_;rintro rr H' ⟨rfl,rfl⟩ -;rw[PH.sG,PH.set_set,Θ];have J:dQ (v.length+1) (rd+4294967296 ^ (m+3)-val v+val v)=dQ (m+3) rd:=by rw[u,← Cb (m+3) (rd+4294967296 ^ (m+3)-val v+val v)];rw[show rd+4294967296 ^ (m+3)-val v+val v=rd+4294967296 ^ (m+3) by omega,Nat.add_mod_right,Cb]
  rw[J];simp only[go_sem];have:=R;simp only[go_sem] at this;refine this _ _ ?_ ?_ ?_ ?_ ?_ ?_ ?_ ?_ ?_ ?_ ?_<;>simp only[go_sem,h8,h9,y,B,ε,ζ,η,E,X,θ]
open Go
section
variable {C:Ctx} {K:bV} {F:PF} {H Hs:PH} {S:Spec}
theorem Qd {name:Nat} {vs:List PV} {R:PV→PH→Prop} {args:List aN} {st:Bool} {d:Option Nat} {K:PF→PH→Prop} (p:S name vs=some ([],fun _=>R)) (h:aF C name vs .nil R) (c:aN.evs F args=some vs)
  (e:∀ G:PH,∃ r H',R r H'∧lJ G .nil H') (u:∀ r H',R r H'→lJ H .nil H'→Hs.le (H.over .nil H')∧K (F.put d r) (H.over .nil H')):dOp C Hs S st (.call name args) d K F H:=by
 refine⟨vs,[],fun _=>R,c,p,fun o w=>by simp at w,by rw[HX]; exact h,fun G=>?_,fun r H' y c=>?_⟩
 ·obtain⟨r,H',i,l⟩:=e G;exact⟨r,H',i,fun o x A B=>l o x A (by simp[PH.nil])⟩
 ·rw[HX] at c ⊢;exact u r H' y c
theorem PH.over_self (c:PH) (h:c.le H):H.over c c=H:=PH.ext fun q=>by
 rw[gS];cases e:c q with
 | none=>rfl
 | some x=>exact (h q x e).symm
theorem XE {o:Nat} {x:bY} (h:H o=some x):H.only [o]=PH.nil.set o x:=PH.ext fun q=>by
 rw[rB,aV];by_cases e:q=o
 ·subst e; simp[h]
 ·simp[e,QM]
theorem UE {name o:Nat} {x:bY} {vs:List PV} {v:PV} {R:PH→PV→PH→Prop} {args:List aN} {st:Bool} {d:Option Nat} {K:PF→PH→Prop} (B:S name vs=some ([o],R)) (w:H o=some x)
  (h:aF C name vs (PH.nil.set o x) (fun r H'=>r=v∧H'=PH.nil.set o x)) (c:R (PH.nil.set o x) v (PH.nil.set o x)) (l:∀ r H',R (PH.nil.set o x) r H'→r=v∧H'=PH.nil.set o x) (E:aN.evs F args=some vs) (p:Hs.le H) (J:K (F.put d v) H) :
  dOp C Hs S st (.call name args) d K F H:=by
 have e:=XE w;refine⟨vs,[o],_,E,B,fun q A=>?_,?_,fun G=>⟨v,_,by rw[e]; exact c,fun q y M u=>?_⟩,fun r H' i _=>?_⟩
 ·simp at A; subst A; exact⟨x,w⟩
 ·rw[e];exact h.post fun r H' i=>⟨r,.refl _,by rw[i.1,i.2]; exact c⟩
 ·rw[e] at u; rw[M] at u; cases u
 ·rw[e] at i;obtain⟨rfl,rfl⟩:=l r H' i;rw[e,PH.over_self _ (by rw[← e]; exact QX H [o])];exact⟨p,J⟩
theorem Pb {c:aC} {α:Type} (d:α→PF) (Hs:α→PH) (e:α→Prop) (m:α→Nat) (i:α) (o:Nat) {s:Nat} {rs:List (List PV)} (x:H o=some (.rows s rs)) (l:e i) (p:(d i).le (F.frz o s rs)) (u:(Hs i).le (H.frz o s rs))
  (w:∀ a,e a→c.wp C (jS d Hs e m (m a) K) (d a) (Hs a)):aC.wp C (.loop c) K F H :=
 ⟨α,d,Hs,e,m,i,_,_,.step o x (.refl _ _),l,p,u,w⟩
@[go_sem] theorem tB (o s:Nat) (rs:List (List PV)) (q:Nat):(H.frz o s rs) q=if q=o then none else (H q).map (bY.frz o s rs):=(rfl)
theorem amB {t u o1 o2 s1 s2 k1 k2:Nat} {rs1 rs2:List (List PV)} {R:PV→PH→Prop} {e:kY} (N:e=.normal∨e=.ret) (d:o1≠o2) (E:F t=some (.osl o1 s1 0 k1)) (J:F u=some (.osl o2 s2 0 k2)) (i:H o1=some (.rows s1 rs1)) (l:H o2=some (.rows s2 rs2))
  (O:k1≤rs1.length) (Q:k2≤rs2.length) (p:rs2.map (fun r=>r.map (PV.cV o1 s1 rs1))=rs2) (U:(rs1.take k1)=rs1.take k1) (M:R (.tup [.sl s1 (rs1.take k1),.sl s2 (rs2.take k2)]) .nil):aX [.tmp t,.tmp u] R e F H:=by
 have x:∃ vs,dH.evs F H [.tmp t,.tmp u]=some vs∧∃ y A H2,iW (PF.nil.set 0 (cO vs)) H y A∧H2.le A∧∃ w,y 0=some w∧R w H2:=by
  have c:o2≠o1:=fun h=>d h.symm;have B:(H.frz o1 s1 rs1) o2=some (.rows s2 rs2):=by rw[tB,if_neg c,l]; simp only[a2V,bY.frz,p]
  refine⟨[.osl o1 s1 0 k1,.osl o2 s2 0 k2],by rw[jZ,mM,E,jZ,mM,J,nK],_,_,.nil,.step o1 i (.step o2 B (.refl _ _)),a_,_,?_,M⟩;have a1:0+k1≤rs1.length:=Om;have a2:0+k2≤rs2.length:=Om;simp only[PF.frz,kC,if_true,cO,a2V,PV.frz,PV.rV,PV.cV,a2Y,a3Q,true_and,if_pos a1,if_pos a2,a2S,if_neg c]
 rcases N with rfl | rfl<;>exact x
end
end Go.PM
namespace Go.Na
structure oF (U0 V n lu lq:Nat) (k:Nat) (U Q:List Nat):Prop where
 lu':U.length=lu
 lq':Q.length=lq
 limU:Lim U
 limQ:Lim Q
 v:val U+val Q*V=U0
 r:val (U.drop k)<V
 z:∀ i x,i<k→Q[i]?=some x→x=0
theorem Cc {J V n H u j:Nat} {U Q:List Nat} (h:oF J V n H u (j+1) U Q) (hV:V<4294967296 ^ n) (hj:j<u) (hl:H=u+n) :
  val ((U.drop j).take (n+1))<V*4294967296∧oF J V n H u j (U.take j++dQ (n+1) (val ((U.drop j).take (n+1))%V)++U.drop (j+(n+1))) (Q.set j (val ((U.drop j).take (n+1))/V)):=by
 have S:=h.lu';have E:=h.lq';have c:0<V:=by have:=h.r; omega
 have e:j<U.length:=Om;have X:val (U.drop j)=U[j]+4294967296*val (U.drop (j+1)):=by rw[a3K e]; rfl
 have O:=h.limU _ (a1N e);have hlt:val (U.drop j)<V*4294967296:=by have:=h.r; omega
 have B:((U.drop j).take (n+1)).length=n+1:=by rw[a2A,a3M]; omega
 have K:val (U.drop j)=val ((U.drop j).take (n+1))+4294967296 ^ (n+1)*val (U.drop (j+(n+1))):=by
  conv=>lhs; rw[← a4H (n+1) (U.drop j),fS,B,List.drop_drop]
 have M:4294967296 ^ (n+1)=4294967296 ^ n*4294967296:=a3F _ _;have R:V*4294967296≤4294967296 ^ n*4294967296:=a2Q _ (Nat.le_of_lt hV);have y:val (U.drop (j+(n+1)))=0:=by
  rcases a4D (val (U.drop (j+(n+1)))) with h0 | h0
  ·exact h0
  ·have:=a3X (4294967296 ^ (n+1)) h0;omega
 rw[y,Nat.mul_zero,a3S] at K;generalize hW:val ((U.drop j).take (n+1))=W at *
 have Y:val U=val (U.take j)+4294967296 ^ j*W:=by
  conv=>lhs; rw[← a4H j U,fS,a2A,a3W Om,K]
 have p:W%V<V:=a3C _ c;have A:V*(W/V)+W%V=W:=a4W _ _;have F:W/V<4294967296:=by rw[a4L c,a2M]; omega
 have hD:val (dQ (n+1) (W%V))=W%V:=nM Om;have w:Q[j]=0:=h.z j _ Om (a1V Om);have d:=DI (Om:j<Q.length) (W/V);rw[w,Nat.mul_zero,a3S] at d;have l:(U.take j).length=j:=by rw[a2A]; omega
 refine⟨by omega,?_,?_,?_,?_,?_,?_,?_⟩
 ·simp only[a1P,kR,a3M,a2A]; omega
 ·rw[a3U]; exact E
 ·exact ((h.limU.take j).app (lZ _ _)).app (h.limU.drop _)
 ·exact h.limQ.set _ F
 ·rw[a2T,fS,fS,l,hD,kR,y,Nat.mul_zero,a3S,d];have:=h.v;have h5:(val Q+4294967296 ^ j*(W/V))*V=val Q*V+4294967296 ^ j*(V*(W/V)):=by rw[a2R,a2E,a2M (W/V) V]
  have Z:4294967296 ^ j*W=4294967296 ^ j*(V*(W/V))+4294967296 ^ j*(W%V):=by rw[← a1U,A]
  omega
 ·rw[a2T,List.drop_append_of_le_length Om,a5C Om,List.nil_append,fS,hD,y,Nat.mul_zero,a3S];exact p
 ·intro i x hi N;rw[List.getElem?_set_ne Om] at N;exact h.z i x Om N
end Go.Na
namespace Go.PM
open Go Go.Na
def dI (u v:PV) (n:Nat) (q:PV) (top next s:Nat) (j:Int):PF:=((((((((PF.nil.set 8 (.int .u64 s)).set 9 (u)).set 10 (v)).set 11 (.int .i64 n)).set 12 (q)).set 13 (.int .u64 top)).set 14 (.int .u64 next)).set 15 (.int .i64 j))
theorem qX (o s:Nat) (rs:List (List PV)) (L:List Nat):(aI L).map (fun r=>r.map (PV.cV o s rs))=aI L:=by
 unfold aI;rw[List.map_map];rfl
theorem Ig {C:Ctx} (D:YB C) (S m p e o o2 i s:Nat) (v c:List Nat) (h2:o2≠o) (h3:i≠o) (h4:i≠o2) (hv:Lim v) (M:v.length=m+2) (ψ:(aI c).take (m+2)=aI v) (ω:m+2≤c.length) (ht:2147483648≤v[m+1])
  (χ:p=e+(m+2)) (N:p≤10000) (U:List Nat) (x:oF S (val v) (m+2) p e e U (a1M e 0)) (K:bV) (F:PF) (H:PH)
  (w:(dI (.osl o 1 0 p) (.osl o2 1 0 (m+2)) (m+2) (.osl i 1 0 e) (v[m+1]) (v[m]) s ((e:Int)-1)).le F) (hH:H o=some (.rows 1 (aI U))) (ι:H o2=some (.rows 1 (aI c))) (θ:H i=some (.rows 1 (aI (a1M e 0))))
  (hK:∀ U' Q' R,oF S (val v) (m+2) p e 0 U' Q'→(dI (.osl o 1 0 p) (aG v) (m+2) (.osl i 1 0 e) (v[m+1]) (v[m]) s (-1)).le R→K .normal R ((PH.nil.set o (.rows 1 (aI U'))).set i (.rows 1 (aI Q')))) :
  aC.wp C (.block 2 (.loop AV)) K F H:=by
 have f8:=w 8 _ (by unfold dI; simp only[go_sem]; rfl);have f9:=w 9 _ (by unfold dI; simp only[go_sem]; rfl);have W:=w 10 _ (by unfold dI; simp only[go_sem]; rfl);have f11:=w 11 _ (by unfold dI; simp only[go_sem]; rfl);have X:=w 12 _ (by unfold dI; simp only[go_sem]; rfl);have f13:=w 13 _ (by unfold dI; simp only[go_sem]; rfl);have f14:=w 14 _ (by unfold dI; simp only[go_sem]; rfl);have Y:=w 15 _ (by unfold dI; simp only[go_sem]; rfl);have y:¬ o=o2:=fun h=>h2 h.symm;have A:¬ i=o2:=h4;have O:¬ o=i:=fun h=>h3 h.symm;have ρ:∀ (k:IntKind) (n:Int),PV.frz o2 1 (aI c) (.int k n)=.int k n:=fun _ _=>rfl;have τ:∀ l,PV.frz o2 1 (aI c) (.osl o 1 0 l)=.osl o 1 0 l:=fun l=>by simp only[PV.frz,PV.rV,PV.cV,if_neg y]
 have σ:∀ l,PV.frz o2 1 (aI c) (.osl i 1 0 l)=.osl i 1 0 l:=fun l=>by simp only[PV.frz,PV.rV,PV.cV,if_neg A]
 have υ:PV.frz o2 1 (aI c) (.osl o2 1 0 (m+2))=aG v:=by
  have:0+(m+2)≤(aI c).length:=by rw[bU]; omega
  simp only[PV.frz,PV.rV,PV.cV,if_true,true_and,if_pos this,a2S,ψ]
 simp only[go_sem];refine Pb (α:=Nat × List Nat × List Nat) (fun t=>dI (.osl o 1 0 p) (aG v) (m+2) (.osl i 1 0 e) (v[m+1]) (v[m]) s ((t.1:Int)-1)) (fun t=>(PH.nil.set o (.rows 1 (aI t.2.1))).set i (.rows 1 (aI t.2.2)))
  (fun t=>t.1≤e∧oF S (val v) (m+2) p e t.1 t.2.1 t.2.2) (fun t=>t.1) (e,U,a1M e 0) o2 ι ⟨a1O _,x⟩ ?_ ?_ ?_
 ·unfold dI;refine c_ (c_ (c_ (c_ (c_ (c_ (c_ (c_ d_ ?_) ?_) ?_) ?_) ?_) ?_) ?_) ?_<;>simp only[go_sem,f8,f9,W,f11,X,f13,f14,Y,ρ,τ,σ,υ]
 ·refine PH.aL (PH.aL a_ ?_) ?_
  ·simp only[go_sem,y,hH,bY.frz,qX]
  ·simp only[go_sem,A,θ,bY.frz,qX]
 rintro⟨k,U,Q⟩ ⟨hk,x⟩;simp only at hk x;simp only[go_sem,AV,SG,dI];by_cases h0:0<k
 ·obtain⟨j,rfl⟩:∃ j,k=j+1:=⟨k-1,by omega⟩;have hz:((j+1:Nat):Int)-1=(j:Int):=Om;have φ:(j:Int)≥0:=Om;have J:val v<4294967296 ^ (m+2):=by have:=eY hv; rw[M] at this; exact this
  obtain⟨hlt,κ⟩:=Cc x J Om χ;have ν:=x.lu';have μ:=x.lq';have hA:(U.take j).length=j:=by rw[a2A]; omega
  have ξ:((U.drop j).take (m+3)).length=m+3:=by rw[a2A,a3M]; omega
  have u:U.take j++(U.drop j).take (m+3)++U.drop (j+(m+3))=U:=by rw[a2T,← List.drop_drop,a4H,a4H]
  have ο:(U.drop (j+(m+3))).length=p-(j+(m+3)):=by rw[a3M,ν]
  have B:=yi (C:=C) D (U.take j) ((U.drop j).take (m+3)) (U.drop (j+(m+3))) v Q m o i p s h3 ((x.limU.drop _).take _) hv M ξ ht hlt (by rw[hA,ο]; omega) N (by rw[hA]; omega);rw[hA,u,μ] at B;have V:IntKind.i64.wrap ((j:Int)-1)=(j:Int)-1:=wrap_i64 Om Om;simp only[go_sem,hz,φ];simp only[go_sem] at B;refine B _ _ _ ?_ (by simp only[go_sem,O]) Sq ?_
  ·unfold dF;exact Lq
  ·intro R H' d η E;have g8:=d 8 _ (by unfold dF; simp only[go_sem]; rfl);have g9:=d 9 _ (by unfold dF; simp only[go_sem]; rfl);have Z:=d 10 _ (by unfold dF; simp only[go_sem]; rfl);have β:=d 11 _ (by unfold dF; simp only[go_sem]; rfl);have γ:=d 12 _ (by unfold dF; simp only[go_sem]; rfl);have δ:=d 13 _ (by unfold dF; simp only[go_sem]; rfl);have ε:=d 14 _ (by unfold dF; simp only[go_sem]; rfl);have ζ:=d 15 _ (by unfold dF; simp only[go_sem]; rfl);simp only[go_sem,SI,ζ,V];refine aK (j,_,_) ⟨by simp only; omega,κ⟩ (by simp only; omega) ?_ (PH.aL (PH.aL a_ η) E);refine c_ (c_ (c_ (c_ (c_ (c_ (c_ (c_ d_ ?_) ?_) ?_) ?_) ?_) ?_) ?_) ?_<;>simp only[go_sem,g8,g9,Z,β,γ,δ,ε]
 ·have:k=0:=Om;subst this;have hz:¬ ((0:Nat):Int)-1≥0:=by decide
  simp only[go_sem,hz];refine hK U Q _ x ?_;unfold dI
  (repeat' (first|exact d_|refine c_ ?_ ?_))<;>first|(simp only[go_sem,show ((0:Nat):Int)-1=-1 from rfl]<;>rfl)|rfl
open Go Go.Na
def rFr (o d e c or n s i:Nat):PF:=((((((PF.nil.set 8 (.int .u64 s)).set 9 (.osl o 1 0 d)).set 12 (.osl e 1 0 c)).set 19 (.osl or 1 0 n)).set 166 (.int .i64 n)).set 167 (.int .i64 i))
theorem aQM {x s:Nat} (c:s≤64):shift .shr .u64 (x:Int) (s:Int)=some (.int .u64 ((x/2 ^ s:Nat):Int)):=by
 unfold shift;rw[if_neg Om];simp only;have:min (Int.toNat (s:Int)) IntKind.u64.bits=s:=by rw[show IntKind.u64.bits=64 from rfl]; omega
 rw[this,Int.fdiv_eq_ediv_of_nonneg _ (by exact_mod_cast a1X _)]
 norm_cast
theorem Ih {C:Ctx} (o l c lq n s:Nat) (U Q:List Nat) (hs:s<32) (h3:c≠o) (W:Lim U) (hl:U.length=l) (hn:n<l) (β:l≤10000) (K:bV) (F:PF)
  (f8:F 8=some (.int .u64 s)) (f9:F 9=some (.osl o 1 0 l)) (f11:F 11=some (.int .i64 n)) (γ:F 12=some (.osl c 1 0 lq))
  (hK:∀ or F' H',or≠o→or≠c→(rFr o l c lq or n s n).le F'→H' c=some (.rows 1 (aI Q))→H' or=some (.rows 1 (aI (dQ n (val U/2 ^ s))))→K .normal F' H') :
  aC.wp C (.seq (.region BF) (.seq (.region BG) (.block 6 (.loop AW)))) K F ((PH.nil.set o (.rows 1 (aI U))).set c (.rows 1 (aI Q))):=by
 have Y:((n:Nat):Int)*((4:Nat):Int)≤140737488355328:=Om;have Z:((n:Nat):Int)≤9223372036854775807:=Om;have hz:a1M n [PV.int .u32 0]=aI ([]++a1M n 0):=by simp[aI]
 simp only[go_sem,BF,f11,Y,Z,hz];refine aQ fun or J=>?_;have n1:¬ or=c:=(gZ.1 J).1;have n2:¬ or=o:=(gZ.1 (gZ.1 J).2).1;have u:¬ c=or:=fun h=>n1 h.symm;have w:¬ o=or:=fun h=>n2 h.symm;have n3:¬ c=o:=h3;have y:¬ o=c:=fun h=>n3 h.symm;simp only[go_sem,BG];refine wp_loop (α:=List Nat) (fun P=>rFr o l c lq or n s P.length) (fun P=>((PH.nil.set o (.rows 1 (aI U))).set c (.rows 1 (aI Q))).set or (.rows 1 (aI (P++a1M (n-P.length) 0)))) (fun P=>P.length≤n∧P=dQ P.length (val U/2 ^ s)) (fun P=>n-P.length) []
  ⟨by simp,rfl⟩ ?_ ?_ ?_
 ·unfold rFr;exact Lq
 ·refine PH.aL (PH.aL (PH.aL a_ ?_) ?_) ?_<;>simp only[go_sem,n1,u,n2,w,n3,y,a3Z]
 rintro P ⟨hP,hD⟩;simp only[go_sem,AW,SJ,rFr];by_cases c1:P.length<n
 ·have i:(P.length:Int)<(n:Nat):=Om;obtain⟨k,hk⟩:∃ k,n-P.length=k+1:=⟨n-P.length-1,by omega⟩;have X:(aI (P++a1M (k+1) 0))[P.length]?=some [.int .u32 ((0:Nat):Int)]:=by rw[bL _ (by simp)]; simp
  have O:P.length<U.length:=Om;have a1:P.length+1<U.length:=Om;have b0:(P.length:Int)<(l:Nat):=Om;have b1:((P.length+1:Nat):Int)<(l:Nat):=Om;have δ:=W _ (a1N O);have ε:=W _ (a1N a1);have e:val U/4294967296 ^ P.length=U[P.length]+4294967296*(U[P.length+1]+4294967296*val (U.drop (P.length+2))):=by rw[← tM W Om,a3K O,a3K a1];rfl
  have H:=TB hs e;have g0:=bL U O;have g1:=bL U a1;generalize ζ:U[P.length]=p at *
  generalize η:U[P.length+1]=d at *
  have e1:IntKind.i64.wrap ((P.length:Int)+1)=((P.length+1:Nat):Int):=dC Om;have S:IntKind.u64.wrap ((p:Nat):Int)=((p:Nat):Int):=bD Om;have V:IntKind.u64.wrap ((d:Nat):Int)=((d:Nat):Int):=bD Om;have B:shift .shl .u64 (d:Int) 32=some (.int .u64 ((2 ^ 32*d:Nat):Int)):=IH (s:=32) Om Om;have R:(2:Nat) ^ 32=4294967296:=by decide
  have A:=orI (a:=2 ^ 32*d) (b:=p) (n:=2 ^ 32*d+p) Om Om (Nat.two_pow_add_eq_or_of_lt Om d).symm Om;rw[R] at B A;have E:=aQM (x:=4294967296*d+p) (s:=s) Om;have N:(aI (P++a1M (k+1) 0)).set P.length [.int .u32 (((4294967296*d+p)/2 ^ s%4294967296:Nat):Int)]=aI ((P++[(4294967296*d+p)/2 ^ s%4294967296])++a1M k 0):=by rw[fH,wZ]
  simp only[go_sem,i,SK];refine bX .nil eH a_ ?_;simp only[go_sem,SL,i,e1,b0,b1,w,y,g0,g1,S,V,B,A,E,cF,hk,X,N];refine⟨a_,?_⟩;simp only[go_sem,SM,e1];refine aK (P++[(4294967296*d+p)/2 ^ s%4294967296]) ⟨by simp; omega,?_⟩ (by simp; omega) ?_ (PH.aL (PH.aL (PH.aL a_ ?_) ?_) ?_)
  ·rw[a1P,a1T,uH,← hD,H]
  ·rw[a1P,a1T];exact Lq
  ·simp only[go_sem,w,y]
  ·simp only[go_sem,u]
  ·rw[a1P,a1T,show n-(P.length+1)=k by omega];simp only[go_sem]
 ·have e:P.length=n:=Om;have i:¬ (P.length:Int)<(n:Nat):=Om;have M:a1M (n-P.length) 0=[]:=by rw[show n-P.length=0 by omega]; rfl
  rw[e] at hD;simp only[go_sem,i,M,a3J];refine hK or _ _ n2 n1 ?_ (by simp only[go_sem,u]) (by simp only[go_sem]; rw[← hD]);unfold rFr;rw[e];exact Lq
structure TV (C:Ctx):Prop where
 L:oS C
 D:YB C
 up:∀ (a:List Nat) (s:Nat),Lim a→s<32→a.length≤1000→aF C 143 [aG a,.int .u64 s] .nil (upR a s)
 short:∀ (a:List Nat) (d:Nat),Lim a→0<d→d<4294967296→a.length≤1000→aF C 140 [aG a,.int .u32 d] .nil (aH (.tup [aG (aE (val a/d)),.int .u32 ((val a%d:Nat):Int)]))
 lengthO:∀ (xs:List Nat) (o:Nat),Lim xs→xs.length≤35184372087808→aF C 138 [.osl o 1 0 xs.length] (PH.nil.set o (.rows 1 (aI xs))) (fun r H'=>r=.int .i64 (nl (val xs):Nat)∧H'=PH.nil.set o (.rows 1 (aI xs)))
def awJ:Spec:=fun name vs=>match name,vs with
 | 143,[x,.int _ s]=>some ([],fun _=>upR (jX x) s.toNat)
 | 138,[.osl q _ _ _]=>some ([q],fun c r H'=>H'=c∧∀ xs,Lim xs→c q=some (.rows 1 (aI xs))→r=.int .i64 (nl (val xs):Nat))
 | _,_=>none
theorem Qe (a:List Nat) (s:Nat):awJ 143 [aG a,.int .u64 s]=some ([],fun _=>upR a s):=by
 show some _=_; rw[eN,a3P]
theorem K8 (a:List Nat) (s:Nat):∀ G:PH,∃ r H',upR a s r H'∧lJ G .nil H':=fun G=>by
 obtain⟨o,d⟩:=G.fresh;refine⟨_,_,⟨o,rfl,rfl⟩,fun q x c _=>?_⟩;rw[aV] at c;split at c
 ·rename_i e; subst e; exact d
 ·cases c
theorem NR {xs ys:List Nat} (h:aI xs=aI ys):xs=ys:=by
 have:=congrArg jX (show aG xs=aG ys by show PV.sl 1 (aI xs)=PV.sl 1 (aI ys); rw[h])
 rwa [eN,eN] at this
theorem wd (q:Nat) (L:List Nat):(PH.nil.set q (.rows 1 (aI L)))=(PH.nil.set q (.rows 1 (aI L)))∧∀ xs,Lim xs→(PH.nil.set q (.rows 1 (aI L))) q=some (.rows 1 (aI xs))→(PV.int .i64 (nl (val L):Nat))=.int .i64 (nl (val xs):Nat):=by
 refine⟨rfl,fun xs c e=>?_⟩;rw[cP] at e;have:aI L=aI xs:=(bY.rows.inj (a3T.inj e)).2;rw[NR this]
def oJ (A B:Nat):PV:=.tup [aG (aE (A/B)),aG (aE (A%B))]
def aaD (a b:List Nat) (s:Nat):PF:=(((PF.nil.set 0 (aG a)).set 1 (aG b)).set 8 (.int .u64 s))
theorem aKK {x s:Nat} (c:s≤31) (h:x*2 ^ s<4294967296):shift .shl .u32 (x:Int) (s:Int)=some (.int .u32 ((x*2 ^ s:Nat):Int)):=by
 unfold shift;rw[if_neg Om];simp only;have:min (Int.toNat (s:Int)) IntKind.u32.bits=s:=by rw[show IntKind.u32.bits=32 from rfl]; omega
 rw[this,show (x:Int)*2 ^ s=((x*2 ^ s:Nat):Int) by simp,cF,a2U h]
theorem Mq {n i x:Nat} (c:(a1M n 0)[i]?=some x):x=0:=by
 have:=a3R c;rw[List.mem_replicate] at this;exact this.2
theorem fg {C:Ctx} (F:TV C) (A B:Nat) (hB:B≠0) (hA:nl A≤900) (i':nl B≤900) :
  xV.wp C (aX QV.res (cD (oJ A B))) (PF.args [aG (aE A),aG (aE B)]) .nil:=by
 have LA:=aU A;have Y:=aU B;have vA:=aT A;have vB:=aT B;have lA:(aE A).length=nl A:=rfl;have lB:(aE B).length=nl B:=rfl;simp only[go_sem,xV,fh,fi,QV];refine aA (F.L.cmp _ _ LA Y Om Om) rfl ?_;rw[vA,vB];by_cases c1:A<B
 ·have hc:cU A B<0:=by simp[cU,c1]
  simp only[go_sem,hc,fj];refine aA (F.L.trim _ LA Om) rfl ?_;rw[vA];simp only[go_sem];refine aZ (vs:=[.aB,aG (aE A)]) (.inr rfl) .nil rfl a_ ⟨?_,rfl⟩;rw[oJ,a4X c1,a2U c1,dO];refine .tup rfl fun j p q hp hq=>?_
  match j with
  | 0=>simp at hp hq; subst hp; subst hq; exact .nil 1
  | 1=>simp at hp hq; subst hp; subst hq; exact .refl _
  | j+2=>simp at hp
 have hc:¬ cU A B<0:=by unfold cU;rw[if_neg c1];split<;>decide
 have Q:0<B:=a4A hB;have l':nl B≠0:=fun h=>hB (gE.1 h);simp only[go_sem,hc,fk];by_cases c2:nl B=1
 ·have γ:B<4294967296:=by have:=(iJ B 1).1 Om; simpa using this
  have Ξ:aE B=[B]:=nI hB γ;have X:A%B<B:=a3C _ Q;have ew:IntKind.u64.wrap ((A%B:Nat):Int)=((A%B:Nat):Int):=bD Om;rw[Ξ];have ξ:=F.short (aE A) B LA Q γ Om;rw[vA] at ξ;simp only[go_sem,show (((1:Nat):Int)==1)=true from rfl,fl];refine aA ξ rfl ?_;simp only[go_sem,fm,ew];refine aA (F.L.make (A%B) Om) rfl ?_;simp only[go_sem];exact aZ (vs:=[aG (aE (A/B)),aG (aE (A%B))]) (.inr rfl) .nil rfl a_ ⟨.refl _,rfl⟩
 obtain⟨m,hm⟩:∃ m,nl B=m+2:=⟨nl B-2,by omega⟩;have h':nl B≤nl A:=fE Om;obtain⟨bt,u,e'⟩:=J6 Y (n:=m+1) (by rw[vB]; exact hm);have K:m+1<(aE B).length:=Om;have ι:bt<4294967296:=Y bt (a3R u);have j':B=val ((aE B).take (m+1))+4294967296 ^ (m+1)*bt:=by have e:=cA (aE B) K;rw[a2C Om,vB] at e;rw[a1V K] at u;rw[a3T.inj u] at e;exact e
 have S:=eY (Y.take (m+1));rw[a2A,a3W Om] at S;have ν:(aI (aE B))[m+1]?=some [.int .u32 ((bt:Nat):Int)]:=by rw[bL _ K];rw[a1V K] at u;rw[a3T.inj u]
 have i1:IntKind.i64.wrap ((((aE B).length:Nat):Int)-1)=((m+1:Nat):Int):=by rw[wrap_i64 Om Om]; omega
 have κ:¬ (((aE B).length:Nat):Int)=1:=Om;simp only[go_sem,bF κ,fp];refine wp_loop (α:=Nat) (fun s=>aaD (aE A) (aE B) s) (fun _=>.nil) (fun s=>s≤31∧bt*2 ^ s<4294967296) (fun s=>32-s) 0 ⟨by omega,by simpa using ι⟩ ?_ a_ ?_
 ·unfold aaD;exact Lq
 rintro s ⟨hs,Θ⟩;have υ:=aKK hs Θ;simp only[go_sem,ff,fq,aaD,i1,ν,υ];refine avZ ?_ ?_
 ·intro c3;have τ:=of_decide_eq_true c3;have f':s<31:=by
   rcases a2D s 31 with h | h
   ·exact h
   ·exfalso;have e:2147483648≤2 ^ s:=a4Y (show 0<2 by decide) h;have H:1*2 ^ s≤bt*2 ^ s:=a2Q _ Om;omega
  have es:IntKind.u64.wrap ((s:Int)+1)=((s+1:Nat):Int):=by rw[wrap_u64 Om Om]; omega
  simp only[go_sem,ft,es];refine aK (s+1) ⟨by omega,by rw[a3F,← a2E]; omega⟩ Om ?_ a_;exact Lq
 intro c3;have τ:=of_decide_eq_false c3;have y:s<32:=Om;have w:0<2 ^ s:=a4F (by decide);have O:2147483648*4294967296 ^ (m+1)≤B*2 ^ s:=by
  have e:2147483648*4294967296 ^ (m+1)≤(bt*2 ^ s)*4294967296 ^ (m+1):=a2Q _ Om;have H:(4294967296 ^ (m+1)*bt)*2 ^ s≤B*2 ^ s:=a2Q _ Om;have h3:(4294967296 ^ (m+1)*bt)*2 ^ s=(bt*2 ^ s)*4294967296 ^ (m+1):=by rw[a2E,a2M]
  omega
 have θ:B*2 ^ s<4294967296 ^ (m+2):=by
  have h0:(bt+1)*2 ^ s≤4294967296:=by
   have g':(4294967296:Nat)=2 ^ (32-s)*2 ^ s:=by rw[← Nat.pow_add,show 32-s+s=32 by omega]
   have:bt<2 ^ (32-s):=by
    rcases a2D bt (2 ^ (32-s)) with h | h
    ·exact h
    ·have:=a2Q (2 ^ s) h;omega
   have:=a2Q (2 ^ s) (show bt+1≤2 ^ (32-s) from this);omega
  have e:B<(bt+1)*4294967296 ^ (m+1):=by rw[a2R,Nat.one_mul,a2M bt]; omega
  have H:B*2 ^ s<(bt+1)*4294967296 ^ (m+1)*2 ^ s:=Nat.mul_lt_mul_of_pos_right e w;have h3:(bt+1)*4294967296 ^ (m+1)*2 ^ s=(bt+1)*2 ^ s*4294967296 ^ (m+1):=Nat.mul_right_comm _ _ _;have h4:(bt+1)*2 ^ s*4294967296 ^ (m+1)≤4294967296*4294967296 ^ (m+1):=a2Q _ h0;have h5:4294967296 ^ (m+2)=4294967296*4294967296 ^ (m+1):=by rw[a3F,a2M]
  omega
 have N:A<4294967296 ^ nl A:=(iJ A _).1 (a1O _);simp only[go_sem];refine bX .nil awJ a_ ?_;simp only[go_sem,SB];have ua:=F.up (aE A) s LA y Om;have ub:=F.up (aE B) s Y y Om;refine Qd (Qe (aE A) s) ua rfl (K8 _ _) ?_;rintro r H' ⟨o,rfl,rfl⟩ -;rw[PH.oM,lA,vA];refine⟨a_,?_⟩;simp only[go_sem];refine Qd (Qe (aE B) s) ub rfl (K8 _ _) ?_;rintro r H' ⟨o2,rfl,rfl⟩ Δ;rw[PH.oM,lB,vB,hm];refine⟨a_,?_⟩;have Λ:=Δ o2 _ (by rw[aV,if_pos rfl]) (by rfl);have ρ:¬ o2=o:=(gZ.1 Λ).1;have c':¬ o=o2:=fun h=>ρ h.symm;have k1:((m+2:Nat):Int)≤((m+2+1:Nat):Int):=Om;have k2:IntKind.i64.wrap (((nl A+1:Nat):Int)-((m+2:Nat):Int))=((nl A+1-(m+2):Nat):Int):=by rw[wrap_i64 Om Om]; omega
 obtain⟨c,Φ⟩:∃ c,nl A+1-(m+2)=c:=⟨_,rfl⟩;have Ψ:nl A+1=c+(m+2):=Om;rw[Φ] at k2;have k3:((c:Nat):Int)*((4:Nat):Int)≤140737488355328:=Om;have k4:((c:Nat):Int)≤9223372036854775807:=Om;have hz:a1M c [PV.int .u32 0]=aI (a1M c 0):=by simp[aI]
 have k5:m+2-0=m+2:=Om;simp only[go_sem,lB,hm,k1,k5,SC,SD,k2,k3,k4,hz];refine aQ fun E μ=>?_;have q2:¬ E=o2:=(gZ.1 μ).1;have q1:¬ E=o:=(gZ.1 (gZ.1 μ).2).1;have σ:¬ o2=E:=fun h=>q2 h.symm;have d':¬ o=E:=fun h=>q1 h.symm;have Ω:dQ (m+2+1) (B*2 ^ s)=dQ (m+2) (B*2 ^ s)++[B*2 ^ s/4294967296 ^ (m+2)%4294967296]:=uH _ _;have Lv:=lZ (m+2) (B*2 ^ s);have lv:=kR (m+2) (B*2 ^ s);have vv:val (dQ (m+2) (B*2 ^ s))=B*2 ^ s:=nM θ;have ο:(aI (dQ (m+2+1) (B*2 ^ s))).take (m+2)=aI (dQ (m+2) (B*2 ^ s)):=by unfold aI;rw[← List.map_take,Ω,List.take_append_of_le_length Om,a2C Om]
 generalize o':dQ (m+2) (B*2 ^ s)=v at *
 have p':(dQ (m+2+1) (B*2 ^ s)).length=m+2+1:=kR _ _;have M:∀ i (h:i<v.length),(aI (dQ (m+2+1) (B*2 ^ s)))[i]?=some [.int .u32 ((v[i]:Nat):Int)]:=by intro i h;have e:(aI v)[i]?=some [.int .u32 ((v[i]:Nat):Int)]:=bL v h;rw[← ο,List.getElem?_take_of_lt Om] at e;exact e
 have g1:=M (m+1) Om;have g0:=M m Om;have htop:2147483648≤v[m+1]:=by
  have e:=cA v (Om:m+1<v.length);rw[a2C Om,vv] at e;have H:=eY (Lv.take (m+1));rw[a2A,a3W Om] at H;rcases a2D v[m+1] 2147483648 with h | h
  ·exfalso;have h3:4294967296 ^ (m+1)*(v[m+1]+1)≤4294967296 ^ (m+1)*2147483648:=a3X _ h;rw[a1U,Nat.mul_one] at h3;rw[a2M 2147483648] at O;omega
  ·exact h
 have n':=Lv _ (a1N (Om:m+1<v.length));have m':=Lv _ (a1N (Om:m<v.length));have w1:IntKind.u64.wrap ((v[m+1]:Nat):Int)=((v[m+1]:Nat):Int):=bD Om;have w0:IntKind.u64.wrap ((v[m]:Nat):Int)=((v[m]:Nat):Int):=bD Om;have j1:IntKind.i64.wrap (((m+2:Nat):Int)-1)=((m+1:Nat):Int):=by rw[wrap_i64 Om Om]; omega
 have j0:IntKind.i64.wrap (((m+2:Nat):Int)-2)=((m:Nat):Int):=by rw[wrap_i64 Om Om]; omega
 have d1:((m+1:Nat):Int)<((m+2:Nat):Int):=Om;have d0:((m:Nat):Int)<((m+2:Nat):Int):=Om;have jq:IntKind.i64.wrap ((c:Int)-1)=(c:Int)-1:=wrap_i64 Om Om;simp only[go_sem];refine bX .nil eH a_ ?_;simp only[go_sem,SE,j1,j0,d1,d0,σ,g1,g0,w1,w0,SF,jq];have η:A*2 ^ s<4294967296 ^ (nl A+1):=by
  have h0:2 ^ s≤4294967296:=by have:(2:Nat) ^ s≤2 ^ 32:=a4Y (by decide) Om;simpa using this
  have e:A*2 ^ s<4294967296 ^ nl A*2 ^ s:=Nat.mul_lt_mul_of_pos_right N w;have H:4294967296 ^ nl A*2 ^ s≤4294967296 ^ nl A*4294967296:=a3X _ h0;rw[a3F]; omega
 have LU:=lZ (nl A+1) (A*2 ^ s);have lU:=kR (nl A+1) (A*2 ^ s);have vU:val (dQ (nl A+1) (A*2 ^ s))=A*2 ^ s:=nM η;have hI:oF (A*2 ^ s) (val v) (m+2) (nl A+1) c c (dQ (nl A+1) (A*2 ^ s)) (a1M c 0):=by
  refine⟨lU,List.length_replicate,LU,uM _,by rw[vU,rH]; omega,?_,fun i x _ hx=>Mq hx⟩
  ·rw[tM LU Om,vU,vv,a4L (a4F (by decide))];have e:A*2 ^ s<4294967296 ^ nl A*2 ^ s:=Nat.mul_lt_mul_of_pos_right N w;have hx:nl A=m+1+c:=Om;have H:4294967296 ^ nl A=4294967296 ^ (m+1)*4294967296 ^ c:=by rw[hx,Nat.pow_add]
   have h3:2 ^ s≤2147483648:=by have:(2:Nat) ^ s≤2 ^ 31:=a4Y (by decide) hs;simpa using this
   have h4:4294967296 ^ nl A*2 ^ s≤(2147483648*4294967296 ^ (m+1))*4294967296 ^ c:=by rw[H,a2M (4294967296 ^ (m+1)*4294967296 ^ c),← a2E];exact a2Q _ (a2Q _ h3)
   have h5:(2147483648*4294967296 ^ (m+1))*4294967296 ^ c≤B*2 ^ s*4294967296 ^ c:=a2Q _ O;omega
 have W:=Ig (C:=C) F.D (A*2 ^ s) m (nl A+1) c o o2 E s v (dQ (m+2+1) (B*2 ^ s)) ρ q1 q2 Lv lv ο Om htop Ψ Om _ hI;simp only[go_sem] at W;refine W _ _ _ ?_ (by simp only[go_sem,c',d']) (by simp only[go_sem,σ]) Sq ?_
 ·unfold dI;exact Lq
 clear W;intro U' l F' d J;have hu:val U'<val v:=by have:=d.r; rwa [a2S] at this
 have V:=d.v;rw[vv] at hu V;have Γ:0<B*2 ^ s:=Om;have ψ:val l=A/B:=by
  have:A*2 ^ s/(B*2 ^ s)=val l:=by rw[← V,Nat.add_mul_div_right _ _ Γ,a4X hu,a2H]
  rw[← this,Nat.mul_div_mul_right _ _ w]
 have ω:val U'/2 ^ s=A%B:=by
  have:A*2 ^ s%(B*2 ^ s)=val U':=by rw[← V,Nat.add_mul_mod_self_right,a2U hu]
  rw[← this,Nat.mul_mod_mul_right,Nat.mul_div_cancel _ w]
 have g8:=J 8 _ (by unfold dI; simp only[go_sem]; rfl);have g9:=J 9 _ (by unfold dI; simp only[go_sem]; rfl);have φ:=J 11 _ (by unfold dI; simp only[go_sem]; rfl);have χ:=J 12 _ (by unfold dI; simp only[go_sem]; rfl);have rest:=Ih (C:=C) o (nl A+1) E c (m+2) s U' l y q1 d.limU d.lu' Om Om;simp only[go_sem] at rest;simp only[go_sem];refine rest _ _ g8 g9 φ χ ?_;clear rest;intro or F2 H2 r1 r2 δ ε U;rw[ω] at U;have a':=δ 12 _ (by unfold rFr; simp only[go_sem]; rfl);have b':=δ 19 _ (by unfold rFr; simp only[go_sem]; rfl);have ζ:A%B<4294967296 ^ (m+2):=by have e:A%B<B:=a3C _ Q;have H:B<4294967296 ^ nl B:=(iJ B _).1 (a1O _);rw[hm] at H; omega
 have LR:=lZ (m+2) (A%B);have lR:=kR (m+2) (A%B);have vR:val (dQ (m+2) (A%B))=A%B:=nM ζ;have nQ:=fG d.limQ;have nR:=fG LR;have e1:=d.lq';generalize k':dQ (m+2) (A%B)=R at *
 simp only[go_sem];refine bX .nil awJ a_ ?_;simp only[go_sem,SN,a'];have Z:=F.lengthO l E d.limQ Om;rw[e1] at Z;have β:=F.lengthO R or LR Om;rw[lR] at β;refine UE (o:=E) (x:=.rows 1 (aI l)) (v:=.int .i64 (nl (val l):Nat)) rfl ε Z (wd E l) (fun r H' X=>⟨X.2 l d.limQ (by rw[cP]),X.1⟩) rfl a_ ?_;have c4:((nl (val l):Nat):Int)≤(c:Nat):=Om;simp only[go_sem,c4,b',Nat.sub_zero];refine UE (o:=or) (x:=.rows 1 (aI R)) (v:=.int .i64 (nl (val R):Nat)) rfl U β (wd or R) (fun r H' X=>⟨X.2 R LR (by rw[cP]),X.1⟩) rfl a_ ?_;have c5:((nl (val R):Nat):Int)≤((m+2:Nat):Int):=Om;simp only[go_sem,c5];refine amB (o1:=E) (o2:=or) (s1:=1) (s2:=1) (k1:=nl (val l)) (k2:=nl (val R)) (rs1:=aI l) (rs2:=aI R) (.inr rfl) (fun h=>r2 h.symm) rfl rfl ε U (by rw[bU]; exact nQ) (by rw[bU]; exact nR) (qX _ _ _ _) rfl ⟨?_,rfl⟩;have t1:(aI l).take (nl (val l))=aI (aE (A/B)):=by have:=jA d.limQ;rw[ψ] at this ⊢;exact this
 have t2:(aI R).take (nl (val R))=aI (aE (A%B)):=by have:=jA LR;rw[vR] at this ⊢;exact this
 rw[t1,t2];exact .refl _
def axD (a b:Nat):PF:=((PF.nil.set 0 (aG (aE a))).set 1 (aG (aE b)))
theorem Uh {C:Ctx} (L:oS C) (c:∀ A B:Nat,B≠0→nl A≤900→nl B≤900→aF C 136 [aG (aE A),aG (aE B)] .nil (aH (oJ A B))) (a b:List Nat) (p:Lim a) (u:Lim b) (E:a.length≤35184372087808) (F:b.length≤35184372087808) :
  NO.wp C (aX aaG.res (cD (if dT (val a) (val b) then .tup [aG [],.int .i64 2] else .tup [aG (aE (a1L (val a) (val b))),.int .i64 0]))) (PF.args [aG a,aG b]) .nil:=by
 simp only[go_sem,NO,Ui,Uj,aaG];refine aA (L.large a p E) rfl ?_;by_cases d:nl (val a)>512
 ·simp only[go_sem,d,l9];rw[if_pos (by simp[dT,d])];exact eO rfl
 simp only[go_sem,d];refine aA (L.large b u F) rfl ?_;by_cases e:nl (val b)>512
 ·simp only[go_sem,e,l9];rw[if_pos (by simp[dT,e])];exact eO rfl
 rw[if_neg (by simp[dT,d,e])];simp only[go_sem,e,Uk];refine aA (L.trim a p E) rfl ?_;simp only[go_sem];refine aA (L.trim b u F) rfl ?_;simp only[go_sem];refine wp_loop (α:=Nat × Nat) (fun t=>axD t.1 t.2) (fun _=>.nil) (fun t=>a1L t.1 t.2=a1L (val a) (val b)∧nl t.1≤512∧nl t.2≤512) (fun t=>t.2) (val a,val b) ⟨rfl,by simp only; omega,by simp only; omega⟩ ?_ a_ ?_
 ·unfold axD;exact Lq
 rintro⟨x,y⟩ ⟨l,H,w⟩;simp only at l H w;simp only[go_sem,Ug,Ul,axD,aW];by_cases i:y=0
 ·subst i;have:¬ ((nl 0:Nat):Int)>0:=by rw[wW]; decide
  simp only[go_sem,this,Uo];refine aZ (vs:=[aG (aE x),.int .i64 0]) (.inr rfl) .nil rfl a_ ⟨?_,rfl⟩;rw[← l,Nat.gcd_zero_right];exact .refl _
 ·have J:nl y≠0:=fun h=>i (gE.1 h);have:((nl y:Nat):Int)>0:=Om;simp only[go_sem,this,Um];refine aA (c x y i Om Om) rfl ?_;simp only[go_sem,oJ,Un];have hlt:x%y<y:=a3C _ (a4A i);refine aK (y,x%y) ⟨?_,w,?_⟩ hlt ?_ a_
  ·simp only;rw[← l,Nat.gcd_comm y,← Nat.gcd_rec y x,Nat.gcd_comm]
  ·have:=fE (Nat.le_of_lt hlt);simp only; omega
  ·exact Lq
def mD (A B:Nat):PV:=if dT A B then .tup [aG [],aG [],.int .i64 2] else if B=0 then .tup [aG [],aG [],.int .i64 3] else .tup [aG (aE (A/B)),aG (aE (A%B)),.int .i64 0]
def aaE:Spec:=fun name vs=>match name,vs with
 | 138,[x]=>some ([],fun _=>aH (.int .i64 (nl (val (jX x)):Nat)))
 | 136,[x,y]=>some ([],fun _=>aH (oJ (val (jX x)) (val (jX y))))
 | _,_=>none
theorem NL (xs:List Nat):aaE 138 [aG xs]=some ([],fun _=>aH (.int .i64 (nl (val xs):Nat))):=by
 show some _=_; rw[eN]
theorem If (A B:Nat):aaE 136 [aG (aE A),aG (aE B)]=some ([],fun _=>aH (oJ A B)):=by
 show some _=_; rw[eN,eN,aT,aT]
theorem rA {res:List dH} {F:PF} {H:PH} {e:Int} (h:dH.evs F H res=some [.aB,.aB,.int .i64 e]):aX res (cD (.tup [aG [],aG [],.int .i64 e])) .ret F H:=by
 refine aZ (.inr rfl) .nil h a_ ⟨?_,rfl⟩;refine .tup rfl fun j p q c d=>?_
 match j with
 | 0=>simp at c d; subst c; subst d; exact .nil 1
 | 1=>simp at c d; subst c; subst d; exact .nil 1
 | 2=>simp at c d; subst c; subst d; exact .refl _
 | j+3=>simp at c
theorem T9 {C:Ctx} (L:oS C) (i:∀ A B:Nat,B≠0→nl A≤900→nl B≤900→aF C 136 [aG (aE A),aG (aE B)] .nil (aH (oJ A B))) (a b:List Nat) (p:Lim a) (e:Lim b) (y:a.length≤35184372087808) (x:b.length≤35184372087808) :
  NM.wp C (aX aaC.res (cD (mD (val a) (val b)))) (PF.args [aG a,aG b]) .nil:=by
 simp only[go_sem,NM,Ua,Ub,aaC];refine aA (L.large a p y) rfl ?_;by_cases c:nl (val a)>512
 ·simp only[go_sem,c,l8];rw[show mD (val a) (val b)=.tup [aG [],aG [],.int .i64 2] by simp[mD,dT,c]];exact rA rfl
 simp only[go_sem,c];refine aA (L.large b e x) rfl ?_;by_cases l:nl (val b)>512
 ·simp only[go_sem,l,l8];rw[show mD (val a) (val b)=.tup [aG [],aG [],.int .i64 2] by simp[mD,dT,l]];exact rA rfl
 simp only[go_sem,l,Uc];refine aA (L.length b e x) rfl ?_;by_cases d:val b=0
 ·have:((nl (val b):Nat):Int)=0:=by rw[d,wW]; rfl
  simp only[go_sem,bN this,Ud];rw[show mD (val a) (val b)=.tup [aG [],aG [],.int .i64 3] by simp[mD,dT,c,d,wW]];exact rA rfl
 have E:nl (val b)≠0:=fun h=>d (gE.1 h);rw[show mD (val a) (val b)=.tup [aG (aE (val a/val b)),aG (aE (val a%val b)),.int .i64 0] by simp[mD,dT,c,l,d]];simp only[go_sem,bF (show ((nl (val b):Nat):Int)≠0 by omega)];refine bX .nil aaE a_ ?_;simp only[go_sem,Ue];have F:=fG p;have H:=fG e;have u:((nl (val a):Nat):Int)≤(a.length:Nat):=Om;have w:((nl (val b):Nat):Int)≤(b.length:Nat):=Om;refine cK (NL a) (L.length a p y) rfl a_ ?_;simp only[go_sem,u,or_true,a2S,jA p];refine cK (NL b) (L.length b e x) rfl a_ ?_;simp only[go_sem,w,or_true,a2S,jA e];refine cK (If (val a) (val b)) (i _ _ d Om Om) rfl a_ ?_;simp only[go_sem,oJ,Uf];exact aZ (.inr rfl) .nil rfl a_ ⟨.refl _,rfl⟩
def bv:Rg:=[iA 6 (.alloc [zB,.aB,.aB]),iI 7 0]
def bw:Rg:=[iM 11 1,iM 12 2,iK2 13 131 11 12,iM 10 13,iE 14 10 0,iE 15 10 1,iM 8 14,iM 9 15]
def bx:Rg:=[iM 16 8,iK 17 128 16,iC 18 .gtr 17 1]
def bz:Rg:=[iM 20 1,iM 21 8,iK2 22 130 20 21,iM 19 22,iE 23 19 0,iE 24 19 1,iE 25 19 2,iM 1 23]
def b8:Rg:=[iM 27 2,iM 28 8,iK2 29 130 27 28,iM 26 29,iE 30 26 0,iE 31 26 1,iE 32 26 2,iM 2 30]
def FA:Rg:=[iM 33 1,iK 34 128 33,iC 35 .gtr 34 4096,iM 36 35,gM 37 2 36 false,gK 38 128 37 36 false,gC 39 .gtr 38 4096 36 false,iQ 40 36 39]
def vM:Rg:=[iA 41 (.build [zB,.aB,.aB] []),iS 3 6 41,iI 7 2]
def FB:Rg:=[iM 42 0,iM 43 42,gM 44 1 43 true,gK 45 128 44 43 true,gC 46 .gtr 45 0 43 true,iP 47 43 46,iM 48 1,iK 49 135 48,iM 50 2,iK 51 135 50,iA 52 (.build [zB,.aB,.aB] [(0,1,(Tm 47)),(1,1,(Tm 49)),(2,1,(Tm 51))]),iS 3 6 52,iI 7 0]
def xM:aC:=(sq bv (.seq (sq bw (sq bx (.cond (Tm 18) (sq bz (.region b8)) .skip))) (.seq (sq FA (.cond (Tm 40) (sq vM .ret) .skip)) (sq FB .ret))))
def Ys:List Nat:=[]
def qW:aR:=⟨3,53,xM,[.cell 6 (some 3),.tmp 7]⟩
def rj:Rg:=[iZ 4]
def rk:Rg:=[iM 8 0,iM 9 1,iK2 10 133 8 9,iM 7 10,iE 11 7 0,iE 12 7 1,iM 5 11,iM 6 12]
def rp:Rg:=[iM 13 5,iM 4 13]
def AL:aC:=(sq rj (sq rk (sq rp .ret)))
def ajD:List Nat:=[]
def ch:aR:=⟨2,14,AL,[.tmp 4]⟩
def Da:Rg:=[iA 1 (.box true (Tm 0)),iT 2 false]
def Db:Rg:=[iF 3 1 1,iL 4 3,iK 5 128 4,iC 6 .eql 5 0,iM 2 6]
def FF:aC:=(sq Da (sq Db .ret))
def awZ:List Nat:=[1]
def y8:aR:=⟨1,7,FF,[.tmp 2]⟩
def C2:Rg:=[iA 4 (.alloc [zB,.aB,.aB]),iI 5 0]
def C3:Rg:=[iM 6 1,iC 7 .eql 6 0]
def C4:Rg:=[iA 8 (.build [zB,.aB,.aB] []),iS 3 4 8,iI 5 3]
def C5:Rg:=[iM 9 0,iC 10 .lss 9 0,iM 11 1,iC 12 .lss 11 0,iA 13 (.eqb true (Tm 10) (Tm 12)),iM 14 0,iK 15 119 14,iM 16 1,iK 17 119 16,iA 18 (.call 120 [(Tm 13),(Tm 15),(Tm 17)]),iE 19 18 0,iE 20 18 1,iS 3 4 19,iM 5 20]
def FC:aC:=(sq C2 (.seq (sq C3 (.cond (Tm 7) (sq C4 .ret) .skip)) (sq C5 .ret)))
def awX:List Nat:=[]
def b9:aR:=⟨2,21,FC,[.cell 4 (some 3),.tmp 5]⟩
def Qk:Rg:=[iZ 2]
def Ql:Rg:=[iM 3 0,iC 4 .lss 3 0]
def Qm:Rg:=[iM 5 0,iA 6 (.conv .u64 (Tm 5)),iA 7 (.un .neg (Tm 6)),iK 8 132 7,iM 2 8]
def Qn:Rg:=[iM 9 0,iA 10 (.conv .u64 (Tm 9)),iK 11 132 10,iM 2 11]
def LW:aC:=(sq Qk (.seq (sq Ql (.cond (Tm 4) (sq Qm .ret) .skip)) (sq Qn .ret)))
def aHF:List Nat:=[]
def Yn:aR:=⟨1,12,LW,[.tmp 2]⟩
def ru:Rg:=[iA 1 (.box true (Tm 0)),iT 2 false]
def rv:Rg:=[iF 4 2 1,iL 5 4,iK 6 128 5,iM 3 6]
def yZ:Rg:=[iM 7 3,iC 8 .gtr 7 0,iM 9 8,gM 10 3 9 true,gC 11 .leq 10 4096 9 true,iP 12 9 11,iM 13 12,gF 14 1 1 13 true,gL 15 14 13 true,gK 16 128 15 13 true,gC 17 .leq 16 4096 13 true,iP 18 13 17,iM 2 18]
def AM:aC:=(sq ru (sq rv (sq yZ .ret)))
def ajE:List Nat:=[1]
def ci:aR:=⟨1,19,AM,[.tmp 2]⟩
def cb:Rg:=[iA 1 (.box true (Tm 0)),iA 2 (.alloc [zB,.aB,.aB]),iI 3 0]
def cc:Rg:=[iO 4 3 1,iK 5 118 4,iA 6 (.un .not (Tm 5))]
def cd:Rg:=[iA 7 (.build [zB,.aB,.aB] []),iS 3 2 7,iI 3 1]
def ce:Rg:=[iF 8 0 1,iL 9 8,iF 10 1 1,iL 11 10,iF 12 2 1,iL 13 12,iA 14 (.call 120 [(Tm 9),(Tm 11),(Tm 13)]),iE 15 14 0,iE 16 14 1,iS 3 2 15,iM 3 16]
def xN:aC:=(sq cb (.seq (sq cc (.cond (Tm 6) (sq cd .ret) .skip)) (sq ce .ret)))
def Yu:List Nat:=[1]
def CY:aR:=⟨1,17,xN,[.cell 2 (some 3),.tmp 3]⟩
def Qz:Rg:=[iA 2 (.box true (Tm 0)),iA 3 (.box true (Tm 1)),iI 4 0,iI 5 0]
def Q1:Rg:=[iO 9 3 2,iK 10 118 9,iA 11 (.un .not (Tm 10)),iM 12 11,gO 13 3 3 12 false,gK 14 118 13 12 false,iG 15 (.un .not (Tm 14)) 12 false,iQ 16 12 15]
def kn:Rg:=[iI 4 0,iI 5 1]
def Q2:Rd:=[(iF 17 1 2,false),(iL 18 17,false),(iF 19 2 3,false),(iL 20 19,false),(iK2 21 121 18 20,true),(iF 22 1 3,true),(iL 23 22,true),(iF 24 2 2,true),(iL 25 24,true),(iK2 26 121 23 25,true),(iK2 27 129 21 26,true),(iM 6 27,false)]
def Q3:Rd:=[(iF 28 0 2,false),(iL 29 28,false),(iM 30 29,false),(gO 31 3 2 30 true,false),(gK 32 122 31 30 true,true),(iG 33 (.un .not (Tm 32)) 30 true,true),(iP 34 30 33,true),(iF 35 0 3,true),(iL 36 35,true),(iM 37 36,false),(gO 38 3 3 37 true,false),(gK 39 122 38 37 true,true),(iG 40 (.un .not (Tm 39)) 37 true,false),(iP 41 37 40,false),(iM 7 34,false),(iM 8 41,false)]
def wP:Rg:=[iM 43 7,iM 44 43,gM 45 8 44 true,iP 46 44 45,iM 42 46]
def ko:Rg:=[iM 47 6,iA 48 (.un .neg (Tm 47)),iM 4 48,iI 5 0]
def CV:Rg:=[iM 50 7,iM 49 50]
def kp:Rg:=[iI 4 (-1),iI 5 0]
def QH:Rg:=[iM 52 8,iM 51 52]
def UQ:Rg:=[iI 4 1,iI 5 0]
def UR:Rg:=[iM 53 6,iM 4 53,iI 5 0]
def LY:aC:=(sq Qz (.seq (sq Q1 (.cond (Tm 16) (sq kn .ret) .skip)) (dq Q2 (dq Q3 (.seq (.block 0 (sq wP (.cond (Tm 42) (sq ko .ret) (sq CV (.cond (Tm 49) (sq kp .ret) (sq QH (.cond (Tm 51) (sq UQ .ret) .skip))))))) (sq UR .ret))))))
def aHH:List Nat:=[2,3]
def Yo:aR:=⟨2,54,LY,[.tmp 4,.tmp 5]⟩
def Qp:Rg:=[iA 2 (.box true (Tm 0)),iA 3 (.box true (Tm 1)),iA 4 (.alloc [zB,.aB,.aB]),iI 5 0]
def Qq:Rg:=[iO 15 3 2,iK 16 118 15,iA 17 (.un .not (Tm 16)),iM 18 17,gO 19 3 3 18 false,gK 20 118 19 18 false,iG 21 (.un .not (Tm 20)) 18 false,iQ 22 18 21]
def kk:Rg:=[iA 23 (.build [zB,.aB,.aB] []),iS 3 4 23,iI 5 1]
def Qr:Rd:=[(iF 24 1 2,false),(iL 25 24,false),(iF 26 2 3,false),(iL 27 26,false),(iK2 28 121 25 27,true),(iF 29 1 3,true),(iL 30 29,true),(iF 31 2 2,true),(iL 32 31,true),(iK2 33 121 30 32,true),(iF 34 2 2,true),(iL 35 34,true),(iF 36 2 3,true),(iL 37 36,true),(iK2 38 121 35 37,true),(iM 6 28,false),(iM 7 33,false),(iM 8 38,false)]
def Qs:Rg:=[iF 39 0 2,iL 40 39,iF 41 0 3,iL 42 41,iA 43 (.eqb false (Tm 40) (Tm 42))]
def Qt:Rg:=[iM 45 6,iM 46 7,iK2 47 127 45 46,iM 44 47,iE 48 44 0,iE 49 44 1,iM 9 48,iM 10 49]
def Qu:Rg:=[iF 50 0 2,iL 51 50,iM 52 9,iM 53 8,iA 54 (.call 120 [(Tm 51),(Tm 52),(Tm 53)]),iE 55 54 0,iE 56 54 1,iS 3 4 55,iM 5 56]
def Qv:Rg:=[iM 57 6,iM 58 7,iK2 59 129 57 58,iC 60 .geq 59 0]
def Qw:Rg:=[iM 62 6,iM 63 7,iK2 64 134 62 63,iM 61 64,iE 65 61 0,iE 66 61 1,iM 11 65,iM 12 66]
def Qx:Rg:=[iF 67 0 2,iL 68 67,iM 69 11,iM 70 8,iA 71 (.call 120 [(Tm 68),(Tm 69),(Tm 70)]),iE 72 71 0,iE 73 71 1,iS 3 4 72,iM 5 73]
def Ct:Rg:=[iM 75 7,iM 76 6,iK2 77 134 75 76,iM 74 77,iE 78 74 0,iE 79 74 1,iM 13 78,iM 14 79]
def Cu:Rg:=[iF 80 0 3,iL 81 80,iM 82 13,iM 83 8,iA 84 (.call 120 [(Tm 81),(Tm 82),(Tm 83)]),iE 85 84 0,iE 86 84 1,iS 3 4 85,iM 5 86]
def LX:aC:=(sq Qp (.seq (sq Qq (.cond (Tm 22) (sq kk .ret) .skip)) (dq Qr (.seq (sq Qs (.cond (Tm 43) (sq Qt (sq Qu .ret)) .skip)) (.seq (sq Qv (.cond (Tm 60) (sq Qw (sq Qx .ret)) .skip)) (sq Ct (sq Cu .ret)))))))
def aHG:List Nat:=[2,3]
def UP:aR:=⟨2,87,LX,[.cell 4 (some 3),.tmp 5]⟩
def Ra:Rg:=[iA 2 (.alloc [zB,.aB,.aB]),iI 3 0]
def Rb:Rg:=[iA 9 (.call 132 [(.const (.int .u64 1))]),iA 10 (.build [zB,.aB,.aB] [(2,1,(Tm 9))]),iA 4 (.alloc [zB,.aB,.aB]),iS 3 4 10]
def Rc:Rg:=[iM 11 0,iN 12 11,iI 13 0]
def Re:Rg:=[iB 14 .lss 13 12]
def Rf:Rg:=[iX 15 3 11 13,iO 16 3 15,iA 6 (.alloc [zB,.aB,.aB]),iS 3 6 16]
def Rh:Rg:=[iO 18 3 4,iO 19 3 6,iK2 20 113 18 19,iM 17 20,iE 21 17 0,iE 22 17 1,iA 7 (.alloc [zB,.aB,.aB]),iS 3 7 21,iM 8 22]
def kx:Rg:=[iM 23 8,iC 24 .neq 23 0]
def Ri:Rg:=[iA 25 (.build [zB,.aB,.aB] []),iM 26 8,iS 3 2 25,iM 3 26]
def Rj:Rg:=[iO 27 3 7,iS 3 4 27]
def Rk:Rg:=[iC 28 .add 13 1,iM 13 28]
def C8:aC:=(sq Re (.seq (.cond (Tm 14) .skip (.exit 0)) (.seq (.block 1 (sq Rf (sq Rh (.seq (sq kx (.cond (Tm 24) (sq Ri .ret) .skip)) (.region Rj))))) (.region Rk))))
def UU:Rg:=[iO 29 3 4,iS 3 2 29,iI 3 0]
def MG:aC:=(sq Ra (sq Rb (.seq (sq Rc (.block 0 (.loop C8))) (sq UU .ret))))
def aHO:List Nat:=[]
def kw:aR:=⟨1,30,MG,[.cell 2 (some 3),.tmp 3]⟩
theorem CoL.nil:CoL [] []:=.refl _
theorem CoL.cons {p q:PV} {ps i:List PV} (h:Co p q) (e:CoL ps i):CoL (p::ps) (q::i) :=
 ⟨by simp[e.len],fun j a b c d=>by
  cases j with
  | zero=>simp at c d; subst c; subst d; exact h
  | succ j=>exact e.at_ j a b (by simpa using c) (by simpa using d)⟩
theorem CoL.agg {ps c:List PV} (h:CoL ps c):Co (.agg ps) (.agg c):=.agg h.len h.at_
theorem CoL.tup {ps c:List PV} (h:CoL ps c):Co (.tup ps) (.tup c):=.tup h.len h.at_
structure pU (C:Ctx):Prop extends oS C where
 bits:∀ xs,Lim xs→xs.length≤35184372087808→aF C 128 [aG xs] .nil (aH (.int .i64 (cJ (val xs):Nat)))
 add:∀ xs ys,Lim xs→Lim ys→xs.length≤35184372087808→ys.length≤35184372087808→aF C 127 [aG xs,aG ys] .nil (aH (opV (dT (val xs) (val ys)) (val xs+val ys)))
 sub:∀ xs ys,Lim xs→Lim ys→xs.length≤35184372087808→ys.length≤35184372087808→aF C 134 [aG xs,aG ys] .nil (aH (qQ (val xs) (val ys)))
 mul:∀ xs ys,Lim xs→Lim ys→xs.length≤35184372087808→ys.length≤35184372087808→aF C 133 [aG xs,aG ys] .nil (aH (opV (dT (val xs) (val ys)) (val xs*val ys)))
 gcd:∀ xs ys,Lim xs→Lim ys→xs.length≤35184372087808→ys.length≤35184372087808→aF C 131 [aG xs,aG ys] .nil (aH (if dT (val xs) (val ys) then .tup [aG [],.int .i64 2] else .tup [aG (aE (a1L (val xs) (val ys))),.int .i64 0]))
 div:∀ xs ys,Lim xs→Lim ys→xs.length≤35184372087808→ys.length≤35184372087808→aF C 130 [aG xs,aG ys] .nil (aH (mD (val xs) (val ys)))
theorem gV {a b:Nat} (c:nl a≤512) (d:nl b≤512):dT a b=false:=by
 simp[dT]; omega
theorem jL {a b m n:Nat} (c:nl a≤m) (d:nl b≤n):nl (a*b)≤m+n:=by
 rw[iJ] at c d ⊢;rw[Nat.pow_add];by_cases h:b=0
 ·subst h; exact Nat.mul_pos (a4F (by decide)) (a4F (by decide))
 ·calc a*b<4294967296 ^ m*b:=Nat.mul_lt_mul_of_pos_right c (a4A h)
   _≤4294967296 ^ m*4294967296 ^ n:=a3X _ (Nat.le_of_lt d)
theorem yG {n:Nat} (h:nl n≤512):szV n=.tup [aG (aE n),.int .i64 0]:=by
 have:¬ nl n>512:=Om;simp[szV,szL,szE,this]
theorem ri {C:Ctx} (L:pU C) (a b:List Nat) (c:Lim a) (d:Lim b) (e:a.length≤35184372087808) (i:b.length≤35184372087808) (l:nl (val a)≤256) (p:nl (val b)≤256) :
  AL.wp C (aX ch.res (aH (aG (aE (val a*val b))))) (PF.args [aG a,aG b]) .nil:=by
 simp only[go_sem,AL,rj,rk,ch];refine aA (L.mul a b c d e i) rfl ?_;have:=jL l p;rw[gV Om Om,opV,yG Om];simp only[go_sem,rp];refine bE (.inr rfl) rfl ?_;rfl
abbrev dN (neg:Bool) (a b:List Nat):List PV:=[.bool neg,aG a,aG b]
theorem C9 {C:Ctx} (L:pU C) (neg:Bool) (a b:List Nat) (d:Lim a) (e:a.length≤35184372087808) :
  FF.wp C (aX y8.res (aH (.bool (decide (val a=0))))) (PF.args [.agg (dN neg a b)]) .nil:=by
 simp only[go_sem,FF,Da,Db,y8];refine aA (L.bits a d e) rfl ?_;simp only[go_sem];refine bE (.inr rfl) rfl ?_;have:=@jN (val a);by_cases c:val a=0
 ·rw[bN Om,decide_eq_true c]; rfl
 ·rw[bF Om,decide_eq_false c]; rfl
def cG (a b:Nat):Bool:=decide (0<cJ b)&&decide (cJ b≤4096)&&decide (cJ a≤4096)
theorem rt {C:Ctx} (L:pU C) (neg:Bool) (a b:List Nat) (l:Lim a) (p:Lim b) (u:a.length≤35184372087808) (w:b.length≤35184372087808) :
  AM.wp C (aX ci.res (aH (.bool (cG (val a) (val b))))) (PF.args [.agg (dN neg a b)]) .nil:=by
 simp only[go_sem,AM,ru,rv,ci];refine aA (L.bits b p w) rfl ?_;by_cases e:0<cJ (val b)
 ·have c:((cJ (val b):Nat):Int)>0:=Om;by_cases i:cJ (val b)≤4096
  ·have d:((cJ (val b):Nat):Int)≤4096:=Om;simp only[go_sem,yZ,c,d];refine aA (L.bits a l u) rfl ?_;simp only[go_sem];refine bE (.inr rfl) rfl ?_;show PV.bool (decide _)=_;rw[cG,decide_eq_true e,decide_eq_true i,a2J,a2J];congr 1;rw[decide_eq_decide];omega
  ·have d:¬ ((cJ (val b):Nat):Int)≤4096:=Om;simp only[go_sem,yZ,c,d];refine bE (.inr rfl) rfl ?_;show PV.bool _=_;simp[cG,e,i]
 ·have c:¬ ((cJ (val b):Nat):Int)>0:=Om;simp only[go_sem,yZ,c];refine bE (.inr rfl) rfl ?_;show PV.bool _=_;simp[cG,e]
theorem Qj {C:Ctx} (L:pU C) (v:Int) (d:-9223372036854775808≤v) (i:v≤9223372036854775807) :
  LW.wp C (aX Yn.res (aH (aG (aE v.natAbs)))) (PF.args [.int .i64 v]) .nil:=by
 simp only[go_sem,LW,Qk,Ql,Yn];by_cases c:v<0
 ·have e:IntKind.u64.wrap (0-IntKind.u64.wrap v)=(v.natAbs:Int):=by rw[fO,fO]; omega
  simp only[go_sem,c,Qm,e];refine aA (L.make v.natAbs Om) rfl ?_;simp only[go_sem];refine bE (.inr rfl) rfl ?_;rfl
 ·have e:IntKind.u64.wrap v=(v.natAbs:Int):=by rw[fO]; omega
  simp only[go_sem,c,Qn,e];refine aA (L.make v.natAbs Om) rfl ?_;simp only[go_sem];refine bE (.inr rfl) rfl ?_;rfl
abbrev yY (e:Int):PV:=.tup [.agg (dN false [] []),.int .i64 e]
abbrev Yv (neg:Bool) (a b:Nat):PV:=.tup [.agg (dN neg (aE a) (aE b)),.int .i64 0]
def GK (neg:Bool) (a b:Nat):PV :=
 if cJ (a/a1L a b)>4096∨cJ (b/a1L a b)>4096 then yY 2 else Yv (neg&&decide (a/a1L a b≠0)) (a/a1L a b) (b/a1L a b)
theorem iY {res:List dH} {F:PF} {H:PH} {e:Int} (h:dH.evs F H res=some [.agg [.bool false,.aB,.aB],.int .i64 e]):aX res (cD (yY e)) .ret F H :=
 aZ (.inr rfl) .nil h a_ ⟨CoL.tup (.cons (CoL.agg (.cons (.refl _) (.cons (.nil 1) (.cons (.nil 1) .nil)))) (.cons (.refl _) .nil)),rfl⟩
theorem Ax {n:Nat}:cJ n>1↔n>1:=by
 have:=lH n 1;omega
theorem nC {a n:Nat} (g:Nat) (h:nl a≤n):nl (a/g)≤n:=a2X (fE (a4I _ _)) h
theorem MC {C:Ctx} (L:pU C) (neg:Bool) (a b:List Nat) (l:Lim a) (u:Lim b) (p:a.length≤35184372087808) (w:b.length≤35184372087808) (o:Nat) (F:PF) (H:PH)
  (f0:F 0=some (.bool neg)) (f1:F 1=some (aG a)) (f2:F 2=some (aG b)) (f6:F 6=some (.ptr o 3 0 0)) (f7:F 7=some (.int .i64 0)) (c:H o=some (.rows 3 [[.bool false,.aB,.aB]])) :
  aC.wp C (.seq (.seq (.region FA) (.cond (.tmp 40) (.seq (.region vM) .ret) .skip)) (.seq (.region FB) .ret)) (aX qW.res (cD (if cJ (val a)>4096∨cJ (val b)>4096 then yY 2 else Yv (neg&&decide (val a≠0)) (val a) (val b)))) F H:=by
 have fin:∀ (r:List (List PV)) F H,F 6=some (.ptr o 3 0 0)→F 7=some (.int .i64 2)→H o=some (.rows 3 [[.bool false,.aB,.aB]])→aX qW.res (cD (yY 2)) .ret F H:=by intro r F H A h7 h;refine iY ?_;simp only[go_sem,qW,A,h7,h]
 simp only[go_sem,FA,f1];refine aA (L.bits a l p) rfl ?_;by_cases x:cJ (val a)>4096
 ·have d:((cJ (val a):Nat):Int)>4096:=Om;rw[if_pos (.inl x)];simp only[go_sem,d,vM,f6,c];exact fin [] _ _ (by simp only[go_sem,f6]) rfl Sq
 ·have d:¬ ((cJ (val a):Nat):Int)>4096:=Om;simp only[go_sem,d,f2];refine aA (L.bits b u w) rfl ?_;by_cases y:cJ (val b)>4096
  ·have i:((cJ (val b):Nat):Int)>4096:=Om;rw[if_pos (.inr y)];simp only[go_sem,i,vM,f6,c];exact fin [] _ _ (by simp only[go_sem,f6]) rfl Sq
  ·have i:¬ ((cJ (val b):Nat):Int)>4096:=Om;rw[if_neg Om];have last:∀ F:PF,F 1=some (aG a)→F 2=some (aG b)→F 6=some (.ptr o 3 0 0)→∀ (q:Bool),q=(neg&&decide (val a≠0))→F 47=some (.bool q) →
     True:=fun _ _ _ _ _ _ _=>trivial
   simp only[go_sem,i,FB,f0,f1,f2,f6,c];cases neg with
   | false =>simp only[go_sem,f0,f1,f2,f6,c];refine aA (L.trim a l p) rfl ?_;simp only[go_sem,f0,f1,f2,f6,c];refine aA (L.trim b u w) rfl ?_;simp only[go_sem,f0,f1,f2,f6,c,a1Y];refine aZ (.inr rfl) .nil (vs:=[.agg (dN false (aE (val a)) (aE (val b))),.int .i64 0]) ?_ a_ ⟨.refl _,rfl⟩;simp only[go_sem,qW,f6,c]
   | true =>
    simp only[go_sem,f0,f1,f2,f6,c];refine aA (L.bits a l p) rfl ?_;have e:decide (((cJ (val a):Nat):Int)>0)=decide (val a≠0):=by have:=@jN (val a);rw[decide_eq_decide]; omega
    simp only[go_sem,f0,f1,f2,f6,c,e];refine aA (L.trim a l p) rfl ?_;simp only[go_sem,f0,f1,f2,f6,c];refine aA (L.trim b u w) rfl ?_;simp only[go_sem,f0,f1,f2,f6,c,a2J];refine aZ (.inr rfl) .nil (vs:=[.agg (dN (decide (val a≠0)) (aE (val a)) (aE (val b))),.int .i64 0]) ?_ a_ ⟨.refl _,rfl⟩;simp only[go_sem,qW,f6,c]
theorem bu {C:Ctx} (L:pU C) (neg:Bool) (a b:List Nat) (u:Lim a) (w:Lim b) (x:a.length≤35184372087808) (y:b.length≤35184372087808) (A:nl (val a)≤512) (l:nl (val b)≤512) (B:val b≠0) :
  xM.wp C (aX qW.res (cD (GK neg (val a) (val b)))) (PF.args [.bool neg,aG a,aG b]) .nil:=by
 simp only[go_sem,xM,bv,bw];refine aQ fun o J=>?_;simp only[go_sem];refine aA (L.gcd a b u w x y) rfl ?_;rw[gV A l];simp only[go_sem,bx];have e:a1L (val a) (val b)≠0:=by intro h; exact B (Nat.gcd_eq_zero_iff.1 h).2
 have i:nl (a1L (val a) (val b))≤512:=a2X (fE (Nat.gcd_le_right _ (a4A B))) l;have d:(aE (a1L (val a) (val b))).length≤35184372087808:=by rw[aW]; omega
 refine aA (L.bits _ (aU _) d) rfl ?_;rw[aT];by_cases c:a1L (val a) (val b)>1
 ·have p:((cJ (a1L (val a) (val b)):Nat):Int)>1:=by have:=Ax.2 c; omega
  simp only[go_sem,p,bz];refine aA (L.div a _ u (aU _) x d) rfl ?_;rw[aT,mD,gV A i,if_neg (by decide),if_neg e];simp only[go_sem,b8];refine aA (L.div b _ w (aU _) y d) rfl ?_;rw[aT,mD,gV l i,if_neg (by decide),if_neg e];simp only[go_sem];have:=MC L neg (aE (val a/a1L (val a) (val b))) (aE (val b/a1L (val a) (val b))) (aU _) (aU _) (by rw[aW]; have:=nC (a1L (val a) (val b)) A; omega) (by rw[aW]; have:=nC (a1L (val a) (val b)) l; omega) o;rw[aT,aT] at this;have:=fun F H=>this F H;simp only[aC.wp,go_sem] at this;exact this _ _ rfl rfl rfl rfl rfl Sq
 ·have p:¬ ((cJ (a1L (val a) (val b)):Nat):Int)>1:=by have:=(@Ax (a1L (val a) (val b))); omega
  have E:a1L (val a) (val b)=1:=Om;simp only[go_sem,p];rw[GK,E,Nat.div_one,Nat.div_one];have:=MC L neg a b u w x y o;simp only[aC.wp,go_sem] at this;exact this _ _ rfl rfl rfl rfl rfl Sq
structure yN (C:Ctx):Prop extends pU C where
 times:∀ a b,Lim a→Lim b→a.length≤35184372087808→b.length≤35184372087808→nl (val a)≤256→nl (val b)≤256→aF C 121 [aG a,aG b] .nil (aH (aG (aE (val a*val b))))
 zero:∀ neg a b,Lim a→a.length≤35184372087808→aF C 122 [.agg (dN neg a b)] .nil (aH (.bool (decide (val a=0))))
 valid:∀ neg a b,Lim a→Lim b→a.length≤35184372087808→b.length≤35184372087808→aF C 118 [.agg (dN neg a b)] .nil (aH (.bool (cG (val a) (val b))))
 abs:∀ v:Int,-9223372036854775808≤v→v≤9223372036854775807→aF C 119 [.int .i64 v] .nil (aH (aG (aE v.natAbs)))
 lowest:∀ neg a b,Lim a→Lim b→a.length≤35184372087808→b.length≤35184372087808→nl (val a)≤512→nl (val b)≤512→val b≠0→aF C 120 [.bool neg,aG a,aG b] .nil (aH (GK neg (val a) (val b)))
def GL (n d:Int):PV:=if d=0 then yY 3 else GK (decide (n<0) != decide (d<0)) n.natAbs d.natAbs
theorem jB {n k:Nat} (h:n<4294967296 ^ k):nl n≤k:=(iJ _ _).2 h
theorem Gk (neg:Bool) (a b:Nat):∃ c x y e,GK neg a b=.tup [.agg (dN c x y),.int .i64 e]:=by
 unfold GK;split
 ·exact⟨_,_,_,_,rfl⟩
 ·exact⟨_,_,_,_,rfl⟩
theorem C1 {C:Ctx} (L:yN C) (n d:Int) (l:-9223372036854775808≤n) (p:n≤9223372036854775807) (u:-9223372036854775808≤d) (w:d≤9223372036854775807) :
  FC.wp C (aX b9.res (cD (GL n d))) (PF.args [.int .i64 n,.int .i64 d]) .nil:=by
 simp only[go_sem,FC,C2,C3];refine aQ fun o B=>?_;unfold GL;by_cases c:d=0
 ·subst c;simp only[go_sem,C4];refine iY ?_;simp only[go_sem,b9]
 ·rw[if_neg c];simp only[go_sem,bF c,C5];refine aA (L.abs n l p) rfl ?_;simp only[go_sem];refine aA (L.abs d u w) rfl ?_;simp only[go_sem];have E:nl n.natAbs≤2:=jB Om;have F:nl d.natAbs≤2:=jB Om;have low:=L.lowest (decide (n<0) != decide (d<0)) (aE n.natAbs) (aE d.natAbs) (aU _) (aU _) (by rw[aW]; omega) (by rw[aW]; omega);rw[aT,aT] at low;have low:=low Om Om Om;refine aA low rfl ?_;obtain⟨i,x,y,e,A⟩:=Gk (decide (n<0) != decide (d<0)) n.natAbs d.natAbs;rw[A];simp only[go_sem];exact aZ (.inr rfl) .nil (vs:=[.agg (dN i x y),.int .i64 e]) (by simp only[go_sem,b9]) a_ ⟨.refl _,rfl⟩
theorem dU {a b:Nat}:cG a b=true↔b≠0∧nl b≤128∧nl a≤128:=by
 have c:=jE b 128;have d:=jE a 128;have e:=@jN b;simp only[cG,a1Z,decide_eq_true_eq];omega
def QZ (neg:Bool) (a b:Nat):PV:=if cG a b then GK neg a b else yY 1
theorem ca {C:Ctx} (L:yN C) (neg:Bool) (a b:List Nat) (d:Lim a) (i:Lim b) (l:a.length≤35184372087808) (p:b.length≤35184372087808) :
  xN.wp C (aX CY.res (cD (QZ neg (val a) (val b)))) (PF.args [.agg (dN neg a b)]) .nil:=by
 simp only[go_sem,xN,cb,cc];refine aQ fun o B=>?_;simp only[go_sem];refine aA (L.valid neg a b d i l p) rfl ?_;unfold QZ;cases w:cG (val a) (val b) with
 | false =>simp only[go_sem,cd,a2I];refine iY ?_;simp only[go_sem,CY]
 | true =>obtain⟨A,E,F⟩:=dU.1 w;simp only[go_sem,ce,a1W];refine aA (L.lowest neg a b d i l p Om Om A) rfl ?_;obtain⟨c,x,y,e,u⟩:=Gk neg (val a) (val b);rw[u];simp only[go_sem];exact aZ (.inr rfl) .nil (vs:=[.agg (dN c x y),.int .i64 e]) (by simp only[go_sem,CY]) a_ ⟨.refl _,rfl⟩
def pP (c:Bool) (a1 b1:Nat) (d:Bool) (a2 b2:Nat):Int :=
 match c&&decide (a1≠0),d&&decide (a2≠0) with
 | true,true=>- cU (a1*b2) (a2*b1)
 | true,false=>-1
 | false,true=>1
 | false,false=>cU (a1*b2) (a2*b1)
def vL (c:Bool) (a1 b1:Nat) (d:Bool) (a2 b2:Nat):PV :=
 if cG a1 b1&&cG a2 b2 then .tup [.int .i64 (pP c a1 b1 d a2 b2),.int .i64 0] else .tup [.int .i64 0,.int .i64 1]
def fr1:PV→List Nat
 | .agg [_,a,_]=>jX a
 | _=>[]
def frS:Spec:=fun name vs=>match name,vs with
 | 121,[x,y]=>some ([],fun _=>aH (aG (aE (val (jX x)*val (jX y)))))
 | 129,[x,y]=>some ([],fun _=>aH (.int .i64 (cU (val (jX x)) (val (jX y)))))
 | 122,[x]=>some ([],fun _=>aH (.bool (decide (val (fr1 x)=0))))
 | _,_=>none
theorem uI (a b:List Nat):frS 121 [aG a,aG b]=some ([],fun _=>aH (aG (aE (val a*val b)))):=by
 show some _=_; rw[eN,eN]
theorem aHK (a b:List Nat):frS 129 [aG a,aG b]=some ([],fun _=>aH (.int .i64 (cU (val a) (val b)))):=by
 show some _=_; rw[eN,eN]
theorem US (neg:Bool) (a b:List Nat):frS 122 [.agg (dN neg a b)]=some ([],fun _=>aH (.bool (decide (val a=0)))):=by
 show some _=_; rw[fr1,eN]
theorem avW (a b:Nat):IntKind.i64.wrap (0-cU a b)=- cU a b:=by
 unfold cU; split
 ·rfl
 ·split<;>rfl
theorem Qy {C:Ctx} (L:yN C) (p l:Bool) (a1 b1 a2 b2:List Nat) (e:Lim a1) (u:Lim b1) (c:Lim a2) (w:Lim b2)
  (i:a1.length≤35184372087808) (x:b1.length≤35184372087808) (d:a2.length≤35184372087808) (y:b2.length≤35184372087808) :
  LY.wp C (aX Yo.res (cD (vL p (val a1) (val b1) l (val a2) (val b2)))) (PF.args [.agg (dN p a1 b1),.agg (dN l a2 b2)]) .nil:=by
 simp only[go_sem,LY,Qz,Q1];refine aA (L.valid p a1 b1 e u i x) rfl ?_;unfold vL;cases N:cG (val a1) (val b1) with
 | false =>simp only[go_sem,a2I,kn,a1Y];exact aZ (.inr rfl) .nil (vs:=[.int .i64 0,.int .i64 1]) rfl a_ ⟨.refl _,rfl⟩
 | true =>
  obtain⟨Y,Q,R⟩:=dU.1 N;simp only[go_sem,a1W];refine aA (L.valid l a2 b2 c w d y) rfl ?_;cases O:cG (val a2) (val b2) with
  | false =>simp only[go_sem,a2I,kn,a2W];exact aZ (.inr rfl) .nil (vs:=[.int .i64 0,.int .i64 1]) rfl a_ ⟨.refl _,rfl⟩
  | true =>
   obtain⟨Z,S,U⟩:=dU.1 O;simp only[go_sem,a1W,a4B];refine bX .nil frS a_ ?_;simp only[go_sem,Q2];refine cK (uI a1 b2) (L.times a1 b2 e w i y Om Om) rfl a_ ?_;simp only[go_sem];refine cK (uI a2 b1) (L.times a2 b1 c u d x Om Om) rfl a_ ?_;simp only[go_sem];have W:=jL R S;have X:=jL U Q;have H:=L.cmp (aE (val a1*val b2)) (aE (val a2*val b1)) (aU _) (aU _) (by rw[aW]; omega) (by rw[aW]; omega);have J:=aHK (aE (val a1*val b2)) (aE (val a2*val b1));rw[aT,aT] at H J;refine cK J H rfl a_ ?_;simp only[go_sem];refine bX .nil frS a_ ?_;have V:(!decide (val a1=0))=decide (val a1≠0):=by by_cases h:val a1=0<;>simp[h]
   have K:(!decide (val a2=0))=decide (val a2≠0):=by by_cases h:val a2=0<;>simp[h]
   have fin:∀ (F:PF) (A B:Bool),F 6=some (.int .i64 (cU (val a1*val b2) (val a2*val b1)))→F 7=some (.bool A)→F 8=some (.bool B)→A=(p&&decide (val a1≠0))→B=(l&&decide (val a2≠0)) →
     aC.wp C (.seq (.block 0 (.seq (.region wP) (.cond (.tmp 42) (.seq (.region ko) .ret) (.seq (.region CV) (.cond (.tmp 49) (.seq (.region kp) .ret) (.seq (.region QH) (.cond (.tmp 51) (.seq (.region UQ) .ret) .skip))))))) (.seq (.region UR) .ret)) (aX Yo.res (cD (.tup [.int .i64 (pP p (val a1) (val b1) l (val a2) (val b2)),.int .i64 0]))) F .nil:=by
    intro F A B f6 f7 E M hB;rw[pP,← M,← hB];cases A<;>cases B
    ·simp only[go_sem,wP,CV,QH,UR,f6,f7,E];exact aZ (.inr rfl) .nil rfl a_ ⟨.refl _,rfl⟩
    ·simp only[go_sem,wP,CV,QH,UQ,f6,f7,E];exact aZ (.inr rfl) .nil rfl a_ ⟨.refl _,rfl⟩
    ·simp only[go_sem,wP,CV,kp,f6,f7,E];exact aZ (.inr rfl) .nil rfl a_ ⟨.refl _,rfl⟩
    ·simp only[go_sem,wP,ko,f6,f7,E,avW];exact aZ (.inr rfl) .nil rfl a_ ⟨.refl _,rfl⟩
   simp only[aC.wp,go_sem] at fin;simp only[go_sem,Q3];cases p with
   | false =>
    simp only[go_sem];cases l with
    | false =>simp only[go_sem];exact fin _ false false rfl rfl rfl rfl rfl
    | true =>simp only[go_sem];refine cK (US true a2 b2) (L.zero true a2 b2 c d) rfl a_ ?_;simp only[go_sem,K];exact fin _ false (decide (val a2≠0)) rfl rfl rfl rfl (by rw[a2J])
   | true =>
    simp only[go_sem];refine cK (US true a1 b1) (L.zero true a1 b1 e i) rfl a_ ?_;simp only[go_sem,V];cases l with
    | false =>simp only[go_sem];exact fin _ (decide (val a1≠0)) false rfl rfl rfl (by rw[a2J]) rfl
    | true =>simp only[go_sem];refine cK (US true a2 b2) (L.zero true a2 b2 c d) rfl a_ ?_;simp only[go_sem,K];exact fin _ (decide (val a1≠0)) (decide (val a2≠0)) rfl rfl rfl (by rw[a2J]) (by rw[a2J])
abbrev FV:=Bool × Nat × Nat
abbrev FR:=Except Int FV
def gD (neg:Bool) (a b:Nat):FR :=
 if cJ (a/a1L a b)>4096∨cJ (b/a1L a b)>4096 then .error 2 else .ok (neg&&decide (a/a1L a b≠0),a/a1L a b,b/a1L a b)
def frV:FR→PV
 | .ok (n,a,b)=>Yv n a b
 | .error e=>yY e
theorem QQ (neg:Bool) (a b:Nat):GK neg a b=frV (gD neg a b):=by
 unfold GK gD;split<;>rfl
def fU:FV→FV→FR
 | (c,a1,b1),(d,a2,b2)=>if cG a1 b1&&cG a2 b2 then
   (if c=d then gD c (a1*b2+a2*b1) (b1*b2) else if a2*b1≤a1*b2 then gD c (a1*b2-a2*b1) (b1*b2) else gD d (a2*b1-a1*b2) (b1*b2))
  else .error 1
theorem fv {a b m:Nat} (c:nl a≤m) (d:nl b≤m):nl (a+b)≤m+1:=by
 rw[iJ] at c d ⊢;rw[a3F]; omega
theorem QC (a b:Nat):(cU a b≥0)↔b≤a:=by
 unfold cU;split
 ·constructor
  ·intro h; exact absurd h (by decide)
  ·intro h; omega
 ·split
  ·constructor
   ·intro h; omega
   ·intro h; decide
  ·constructor
   ·intro h; omega
   ·intro h; decide
theorem sV (r:FR):∃ c x y e,frV r=.tup [.agg (dN c x y),.int .i64 e]:=by
 rcases r with e | ⟨n,a,b⟩
 ·exact⟨_,_,_,_,rfl⟩
 ·exact⟨_,_,_,_,rfl⟩
theorem Qo {C:Ctx} (L:yN C) (i p:Bool) (a1 b1 a2 b2:List Nat) (N:Lim a1) (E:Lim b1) (O:Lim a2) (J:Lim b2)
  (Q:a1.length≤35184372087808) (K:b1.length≤35184372087808) (R:a2.length≤35184372087808) (M:b2.length≤35184372087808) :
  LX.wp C (aX UP.res (cD (frV (fU (i,val a1,val b1) (p,val a2,val b2))))) (PF.args [.agg (dN i a1 b1),.agg (dN p a2 b2)]) .nil:=by
 simp only[go_sem,LX,Qp];refine aQ fun o ho=>?_;simp only[go_sem,Qq];refine aA (L.valid i a1 b1 N E Q K) rfl ?_;simp only[fU];cases hv:cG (val a1) (val b1) with
 | false =>simp only[go_sem,a2I,kk,a1Y];refine iY ?_;simp only[go_sem,UP]
 | true =>
  obtain⟨v1,v2,v3⟩:=dU.1 hv;simp only[go_sem,a1W];refine aA (L.valid p a2 b2 O J R M) rfl ?_;cases hw:cG (val a2) (val b2) with
  | false =>simp only[go_sem,a2I,kk,a2W];refine iY ?_;simp only[go_sem,UP]
  | true =>
   obtain⟨w1,w2,w3⟩:=dU.1 hw;simp only[go_sem,a1W,a4B];refine bX .nil frS a_ ?_;simp only[go_sem,Qr];refine cK (uI a1 b2) (L.times a1 b2 N J Q M Om Om) rfl a_ ?_;simp only[go_sem];refine cK (uI a2 b1) (L.times a2 b1 O E R K Om Om) rfl a_ ?_;simp only[go_sem];refine cK (uI b1 b2) (L.times b1 b2 E J K M Om Om) rfl a_ ?_;simp only[go_sem];have m1:=jL v3 w2;have m2:=jL w3 v2;have m3:=jL v2 w2;have d0:val b1*val b2≠0:=Nat.mul_ne_zero v1 w1;generalize hA:val a1*val b2=A at *
   generalize hB:val a2*val b1=B at *
   generalize hD:val b1*val b2=D at *
   have fin:∀ (F:PF) (H:PH) (r:FR),(∃ d x y e,frV r=.tup [.agg (dN d x y),.int .i64 e]∧F 4=some (.ptr o 3 0 0)∧F 5=some (.int .i64 e)∧H o=some (.rows 3 [dN d x y]))→aX UP.res (cD (frV r)) .ret F H:=by rintro F H r ⟨d,x,y,e,he,f4,f5,hH⟩;rw[he];exact aZ (.inr rfl) .nil (vs:=[.agg (dN d x y),.int .i64 e]) (by simp only[go_sem,UP,f4,f5,hH]) a_ ⟨.refl _,rfl⟩
   have V:(i==p)=decide (i=p):=by cases i<;>cases p<;>rfl
   have low:∀ neg x,nl x≤257→aF C 120 [.bool neg,aG (aE x),aG (aE D)] .nil (aH (frV (gD neg x D))):=by
    intro neg x hx;have W:(aE x).length≤35184372087808:=by rw[aW]; omega
    have Z:(aE D).length≤35184372087808:=by rw[aW]; omega
    have:=L.lowest neg (aE x) (aE D) (aU _) (aU _) W Z;rw[aT,aT,QQ] at this;exact this Om Om d0
   have lA:(aE A).length≤35184372087808:=by rw[aW]; omega
   have lB:(aE B).length≤35184372087808:=by rw[aW]; omega
   simp only[go_sem,Qs];by_cases c:i=p
   ·rw[if_pos c];have S:(i==p)=true:=by rw[V,decide_eq_true c]
    simp only[go_sem,S,Qt];have u:=L.add (aE A) (aE B) (aU _) (aU _) lA lB;have α:=fv m1 m2;rw[aT,aT,gV Om Om,opV,yG Om] at u;refine aA u rfl ?_;simp only[go_sem,Qu];refine aA (low i _ Om) rfl ?_;obtain⟨d,x,y,e,l⟩:=sV (gD i (A+B) D);rw[l];simp only[go_sem];rw[← l];exact fin _ _ _ ⟨d,x,y,e,l,by simp only[go_sem],by simp only[go_sem],by simp only[go_sem]⟩
   ·rw[if_neg c];have S:(i==p)=false:=by rw[V,decide_eq_false c]
    simp only[go_sem,S,Qv];have hc:=L.cmp (aE A) (aE B) (aU _) (aU _) lA lB;rw[aT,aT] at hc;refine aA hc rfl ?_;have w:∀ X Y:Nat,nl X≤256→nl Y≤256→Y≤X→aF C 134 [aG (aE X),aG (aE Y)] .nil (aH (.tup [aG (aE (X-Y)),.int .i64 0])):=by intro X Y W Z h;have:=L.sub (aE X) (aE Y) (aU _) (aU _) (by rw[aW]; omega) (by rw[aW]; omega);have h3:=fE (Om:X-Y≤X);rw[aT,aT,qQ,gV Om Om,if_neg (by decide),if_neg Om,yG Om] at this;exact this
    by_cases g:B≤A
    ·have U:cU A B≥0:=(QC A B).2 g;rw[if_pos g];simp only[go_sem,U,Qw];refine aA (w A B Om Om g) rfl ?_;simp only[go_sem,Qx];have h3:=fE (Om:A-B≤A);refine aA (low i (A-B) Om) rfl ?_;obtain⟨d,x,y,e,l⟩:=sV (gD i (A-B) D);rw[l];simp only[go_sem];rw[← l];exact fin _ _ _ ⟨d,x,y,e,l,by simp only[go_sem],by simp only[go_sem],by simp only[go_sem]⟩
    ·have U:¬ cU A B≥0:=fun h=>g ((QC A B).1 h);rw[if_neg g];simp only[go_sem,U,Ct];refine aA (w B A Om Om Om) rfl ?_;simp only[go_sem,Cu];have h3:=fE (Om:B-A≤B);refine aA (low p (B-A) Om) rfl ?_;obtain⟨d,x,y,e,l⟩:=sV (gD p (B-A) D);rw[l];simp only[go_sem];rw[← l];exact fin _ _ _ ⟨d,x,y,e,l,by simp only[go_sem],by simp only[go_sem],by simp only[go_sem]⟩
structure RF where
 neg:Bool
 num:List Nat
 den:List Nat
abbrev RF.cells (x:RF):List PV:=dN x.neg x.num x.den
def RF.Ok (x:RF):Prop:=Lim x.num∧Lim x.den∧x.num.length≤35184372087808∧x.den.length≤35184372087808
def RF.v (x:RF):FV:=(x.neg,val x.num,val x.den)
abbrev frs (l:List RF):PV:=.sl 3 (l.map RF.cells)
def FV.rf:FV→RF
 | (n,a,b)=>⟨n,aE a,aE b⟩
def FV.Small:FV→Prop
 | (_,a,b)=>nl a≤900000∧nl b≤900000
theorem FV.abA (x:FV):x.rf.v=x:=by
 obtain⟨n,a,b⟩:=x;show (n,val (aE a),val (aE b))=_;rw[aT,aT]
def pS (l:List FV):FR:=l.foldlM fU (false,0,1)
theorem rZ {neg:Bool} {a b:Nat} {r:FV} (h:gD neg a b=.ok r):r.Small∧r.rf.Ok:=by
 unfold gD at h;split at h
 ·cases h
 ·rename_i e;have c:=(jE (a/a1L a b) 128).1 Om;have d:=(jE (b/a1L a b) 128).1 Om;injection h with h
  subst h;refine⟨⟨by omega,by omega⟩,aU _,aU _,?_,?_⟩
  ·show (aE _).length≤_;rw[aW]; omega
  ·show (aE _).length≤_;rw[aW]; omega
theorem Pu {x y r:FV} (h:fU x y=.ok r):r.rf.Ok:=by
 obtain⟨c,a1,b1⟩:=x;obtain⟨d,a2,b2⟩:=y;simp only[fU] at h;split at h
 ·split at h
  ·exact (rZ h).2
  ·split at h
   ·exact (rZ h).2
   ·exact (rZ h).2
 ·cases h
theorem M2 {α β:Type} {f:β→α→Except Int β} (l:List α) (b:β) {k:Nat} (h:k<l.length):(l.take (k+1)).foldlM f b=((l.take k).foldlM f b).bind fun x=>f x l[k]:=by
 rw[a3I h,List.foldlM_append];cases (l.take k).foldlM f b with
 | error e=>rfl
 | ok x =>show ([l[k]]:List α).foldlM f x=f x l[k];rw[List.foldlM_cons];cases f x l[k]<;>rfl
theorem Yt {α β:Type} {f:β→α→Except Int β} (l:List α) (b:β) {k:Nat} {e:Int} (h:(l.take k).foldlM f b=.error e):l.foldlM f b=.error e:=by
 conv=>lhs; rw[← a4H k l,List.foldlM_append,h]
 rfl
def aBS (l:List RF) (o2 o4:Nat) (k:Nat):PF:=((((((PF.nil.set 2 (.ptr o2 3 0 0)).set 3 (.int .i64 0)).set 4 (.ptr o4 3 0 0)).set 11 (frs l)).set 12 (.int .i64 (l.length:Nat))).set 13 (.int .i64 k))
def XK (o2 o4:Nat) (c:List PV):PH:=(PH.nil.set o2 (.rows 3 [[.bool false,.aB,.aB]])).set o4 (.rows 3 [c])
theorem Q9 {C:Ctx} (L:yN C) (Q:∀ x y:RF,x.Ok→y.Ok→aF C 113 [.agg x.cells,.agg y.cells] .nil (aH (frV (fU x.v y.v)))) (l:List RF) (hl:∀ x∈l,x.Ok) (Y:l.length≤9223372036854775807) :
  MG.wp C (aX kw.res (cD (frV (pS (l.map RF.v))))) (PF.args [frs l]) .nil:=by
 simp only[go_sem,MG,Ra];refine aQ fun o2 β=>?_;simp only[go_sem,Rb];refine aA (L.make 1 (by decide)) rfl ?_;simp only[go_sem];refine aQ fun o4 R=>?_;have i:o4≠o2:=by rintro rfl; simp only[aV,if_true] at R; cases R
 have c:o2≠o4:=Ne.symm i;simp only[go_sem,Rc];refine wp_loop (α:=Nat × FV × PV) (fun t=>aBS l o2 o4 t.1) (fun t=>XK o2 o4 [.bool t.2.1.1,t.2.2,aG (aE t.2.1.2.2)]) (fun t=>t.1≤l.length∧((l.map RF.v).take t.1).foldlM fU (false,0,1)=.ok t.2.1∧(t.2.2=.aB∧t.2.1.2.1=0∨t.2.2=aG (aE t.2.1.2.1))∧(FV.rf t.2.1).Ok) (fun t=>l.length-t.1)
  (0,(false,0,1),.aB) ⟨a1X _,rfl,.inl ⟨rfl,rfl⟩,⟨aU _,aU _,?_,?_⟩⟩ ?_ ?_ ?_
 ·show (aE 0).length≤_;rw[dO]; simp
 ·show (aE 1).length≤_;rw[nI (by decide) (by decide)]; simp
 ·unfold aBS
  (repeat' (first|exact d_|refine c_ ?_ ?_))<;>first|(simp only[go_sem,a1K]<;>rfl)|rfl
 ·unfold XK;exact PH.aL (PH.aL a_ (by simp only[go_sem,c,i])) (by simp only[go_sem,c,i])
 rintro⟨k,⟨O,S,N⟩,X⟩ ⟨hk,V,M,H⟩;simp only at hk V M H ⊢;have J:CoL [.bool O,X,aG (aE N)] (FV.rf (O,S,N)).cells:=by
  refine .cons (.refl _) (.cons ?_ (.cons (.refl _) .nil));rcases M with ⟨rfl,rfl⟩ | rfl
  ·show Co .aB (aG (aE 0));rw[dO]; exact .nil 1
  ·exact .refl _
 simp only[go_sem,C8,Re,aBS];by_cases hlt:k<l.length
 ·have w:(k:Int)<(l.length:Nat):=Om;have hr:(l.map RF.cells)[k]?=some (l[k]).cells:=by simp[hlt]
  simp only[go_sem,w,Rf,hr];refine aQ fun o6 E=>?_;have A:o4≠o6:=by rintro rfl; simp only[XK,aV,if_true] at E; cases E
  have u:o2≠o6:=by rintro rfl; simp only[XK,aV,if_true,if_neg c] at E; cases E
  simp only[go_sem,Rh,XK,A,u,i,c];refine aA ((Q (FV.rf (O,S,N)) l[k] H (hl _ (a1N hlt))).args (.cons (CoL.agg J) (.cons (.refl _) .nil))) rfl ?_;rw[FV.abA];have d:=M2 (f:=fU) (l.map RF.v) (false,0,1) (k:=k) (by simpa using hlt);rw[V] at d;simp only[Except.bind,a3L] at d;cases U:fU (O,S,N) (l[k]).v with
  | error e =>
   simp only[go_sem,frV];refine aQ fun o7 p=>?_;have W:e≠0:=by
    revert U;obtain⟨n2,a2,b2⟩:=(l[k]).v;simp only[fU,gD]
    repeat' split
    all_goals (intro h; first | (injection h with h; subst h; decide) | cases h)
   have B:o2≠o7:=by rintro rfl; simp only[aV,u,c,if_true,if_false] at p; cases p
   simp only[go_sem,kx,dX W,Ri,B,u,c];rw[U] at d;rw[pS,Yt _ _ d];refine iY ?_;simp only[go_sem,kw]
  | ok r =>
   obtain⟨rn,Z,rb⟩:=r;simp only[go_sem,frV];refine aQ fun o7 p=>?_;have F:o4≠o7:=by rintro rfl; simp only[aV,A,if_true,if_false] at p; cases p
   have B:o2≠o7:=by rintro rfl; simp only[aV,u,c,if_true,if_false] at p; cases p
   simp only[go_sem,kx,Rj,F,B,A,u,i,c,Ne.symm F,Rk,wZz k];rw[U] at d;refine aK (k+1,(rn,Z,rb),aG (aE Z)) ⟨hlt,d,.inr rfl,Pu U⟩ (by simp only; omega) ?_ ?_
   ·exact Lq
   ·refine PH.aL (PH.aL a_ ?_) ?_
    ·simp only[go_sem,c,i,F,B,A,u]
    ·simp only[go_sem,c,i,F,B,A,u]
 ·have w:¬ (k:Int)<(l.length:Nat):=Om;have:k=l.length:=Om;subst this;rw[a2C (by simp)] at V;rw[pS,V];have K:cD (frV (.ok (O,S,N))) (cO [.agg [.bool O,X,aG (aE N)],.int .i64 0]) .nil:=⟨CoL.tup (.cons (CoL.agg J) (.cons (.refl _) .nil)),rfl⟩;rcases M with ⟨rfl,rfl⟩ | rfl
  ·simp only[go_sem,w,UU,XK,i,c];refine aZ (.inr rfl) .nil ?_ a_ K;simp only[go_sem,kw,i,c]
  ·simp only[go_sem,w,UU,XK,i,c];refine aZ (.inr rfl) .nil ?_ a_ K;simp only[go_sem,kw,i,c]
def pE:Rg:=[iT 2 false]
def pF:Rg:=[iM 3 0,iA 4 (.bin .geq (Tm 3) (.const (.int .u8 97))),iM 5 4,gM 6 0 5 true,iG 7 (.bin .leq (Tm 6) (.const (.int .u8 122))) 5 true,iP 8 5 7,iM 9 8,gM 10 0 9 false,iG 11 (.bin .geq (Tm 10) (.const (.int .u8 65))) 9 false,gM 12 11 9 false,gM 13 0 12 true,iG 14 (.bin .leq (Tm 13) (.const (.int .u8 90))) 12 true,iG 15 (.pick (Tm 12) (Tm 14) (.const zB)) 9 false,iQ 16 9 15,iM 2 16]
def kU:aC:=(sq pE (sq pF .ret))
def Zk:List Nat:=[]
def DB:aR:=⟨1,17,kU,[.tmp 2]⟩
def zF:Rg:=[iT 2 false]
def zG:Rg:=[iM 3 0,iA 4 (.bin .geq (Tm 3) (.const (.int .u8 48))),iM 5 4,gM 6 0 5 true,iG 7 (.bin .leq (Tm 6) (.const (.int .u8 57))) 5 true,iP 8 5 7,iM 2 8]
def pZ:aC:=(sq zF (sq zG .ret))
def ajU:List Nat:=[]
def MS:aR:=⟨1,9,pZ,[.tmp 2]⟩
def s8:Rg:=[iT 2 false]
def s9:Rg:=[iM 3 0,iK 4 126 3,iM 5 4,gM 6 0 5 false,gK 7 124 6 5 false,iQ 8 5 7,iM 9 8,gM 10 0 9 false,iG 11 (.bin .eql (Tm 10) (.const (.int .u8 45))) 9 false,iQ 12 9 11,iM 13 12,gM 14 0 13 false,iG 15 (.bin .eql (Tm 14) (.const (.int .u8 46))) 13 false,iQ 16 13 15,iM 2 16]
def AQ:aC:=(sq s8 (sq s9 .ret))
def akG:List Nat:=[]
def MU:aR:=⟨1,17,AQ,[.tmp 2]⟩
def GF:Rg:=[iT 2 false]
def GG:Rg:=[iM 4 0,iA 5 (.bin .eql (Tm 4) (.const (.str []))),iM 6 5,gM 7 0 6 false,iG 8 (.a0Z (Tm 7)) 6 false,gC 9 .gtr 8 16 6 false,iQ 10 6 9,iM 11 10,gM 12 0 11 false,iG 13 (.a1A (Tm 12) (Ci 0)) 11 false,gK 14 126 13 11 false,iG 15 (.un .not (Tm 14)) 11 false,iQ 16 11 15]
def GH:Rg:=[iT 2 false]
def Gb:Rg:=[iI 3 0]
def Gc:Rg:=[iM 17 3,iM 18 0,iA 19 (.a0Z (Tm 18)),iB 20 .lss 17 19]
def Gd:Rg:=[iM 23 0,iM 24 3,iA 25 (.a1A (Tm 23) (Tm 24)),iK 26 125 25,iA 27 (.un .not (Tm 26))]
def Ge:Rg:=[iT 2 false]
def Gf:Rg:=[iM 21 3,iC 22 .add 21 1,iM 3 22]
def F9:aC:=(.seq (sq Gc (.cond (Tm 20) .skip (.exit 0))) (.seq (.block 1 (sq Gd (.cond (Tm 27) (sq Ge .ret) .skip))) (.region Gf)))
def Gg:Rg:=[iT 2 true]
def rY:aC:=(sq GF (.seq (sq GG (.cond (Tm 16) (sq GH .ret) .skip)) (.seq (sq Gb (.block 0 (.loop F9))) (sq Gg .ret))))
def ayB:List Nat:=[]
def c8:aR:=⟨1,28,rY,[.tmp 2]⟩
def cl:Rg:=[iT 6 false]
def cn:Rg:=[iM 7 0,iM 8 1,iB 9 .geq 7 8,iM 10 9,gM 11 0 10 true,gM 12 2 10 true,gB 13 .leq 11 12 10 true,iP 14 10 13,iM 6 14]
def xO:aC:=(sq cl (sq cn .ret))
def aON:List Nat:=[]
def gin:aR:=⟨3,15,xO,[.tmp 6]⟩
def ry:Rg:=[iA 1 (.box true (Tm 0)),iT 2 false]
def rz:Rg:=[iF 3 1 1,iL 4 3,iK 5 128 4,iC 6 .gtr 5 0,iM 2 6]
def AN:aC:=(sq ry (sq rz .ret))
def ajF:List Nat:=[1]
def cj:aR:=⟨1,7,AN,[.tmp 2]⟩
def R2:Rg:=[iA 1 (.box true (Tm 0)),iT 2 false]
def R3:Rg:=[iO 6 3 1,iK 7 116 6,iM 5 7,iE 8 5 0,iE 9 5 1,iA 3 (.alloc [zB,.aB,.aB]),iS 3 3 8,iM 4 9]
def QK:Rg:=[iM 10 4,iC 11 .eql 10 0,iM 12 11,gF 13 0 3 12 true,gL 14 13 12 true,iG 15 (.un .not (Tm 14)) 12 true,iP 16 12 15,iM 17 16,gF 18 1 3 17 true,gL 19 18 17 true,gK 20 128 19 17 true,gC 21 .leq 20 32 17 true,iP 22 17 21,iM 23 22,gF 24 2 3 23 true,gL 25 24 23 true,gK 26 128 25 23 true,gC 27 .leq 26 32 23 true,iP 28 23 27,iM 2 28]
def MK:aC:=(sq R2 (sq R3 (sq QK .ret)))
def aHR:List Nat:=[1]
def Y1:aR:=⟨1,29,MK,[.tmp 2]⟩
def R9:Rg:=[iA 1 (.box true (Tm 0)),iT 2 false]
def Sa:Rg:=[iA 8 (.call 115 [(Ci 1),(Ci 1)]),iM 7 8,iE 9 7 0,iE 10 7 1,iA 3 (.alloc [zB,.aB,.aB]),iS 3 3 9,iM 4 10]
def Sb:Rg:=[iO 12 3 1,iO 13 3 3,iK2 14 114 12 13,iM 11 14,iE 15 11 0,iE 16 11 1,iM 5 15,iM 6 16]
def k0:Rg:=[iM 17 6,iC 18 .eql 17 0,iM 19 18,gM 20 5 19 true,gC 21 .leq 20 0 19 true,iP 22 19 21,iM 2 22]
def MM:aC:=(sq R9 (sq Sa (sq Sb (sq k0 .ret))))
def aHT:List Nat:=[1]
def gone:aR:=⟨1,23,MM,[.tmp 2]⟩
def Do:Rg:=[iT 4 false]
def Dp:Rg:=[iM 7 0,iN 8 7,iI 9 0]
def Dq:Rg:=[iB 10 .lss 9 8]
def Dr:Rg:=[iX 11 3 7 9,iO 12 3 11,iA 6 (.alloc [zB,.aB,.aB]),iS 3 6 12]
def Ds:Rg:=[iM 13 1,iO 14 3 6,iA 15 (.a1B (Tm 13) [(Tm 14)]),iA 16 (.un .not (Tm 15))]
def Dt:Rg:=[iT 4 false]
def Du:Rg:=[iC 17 .add 9 1,iM 9 17]
def Dm:aC:=(sq Dq (.seq (.cond (Tm 10) .skip (.exit 0)) (.seq (.block 1 (sq Dr (sq Ds (.cond (Tm 16) (sq Dt .ret) .skip)))) (.region Du))))
def Dv:Rg:=[iT 4 true]
def FH:aC:=(sq Do (.seq (sq Dp (.block 0 (.loop Dm))) (sq Dv .ret)))
def axB:List Nat:=[]
def za:aR:=⟨2,18,FH,[.tmp 4]⟩
def Dy:Rg:=[iT 4 false]
def Dz:Rg:=[iM 7 0,iN 8 7,iI 9 0]
def D0:Rg:=[iB 10 .lss 9 8]
def D1:Rg:=[iX 11 1 7 9,iL 12 11,iM 6 12]
def D2:Rg:=[iM 13 1,iM 14 6,iA 15 (.a1B (Tm 13) [(Tm 14)]),iA 16 (.un .not (Tm 15))]
def D3:Rg:=[iT 4 false]
def D4:Rg:=[iC 17 .add 9 1,iM 9 17]
def Dw:aC:=(sq D0 (.seq (.cond (Tm 10) .skip (.exit 0)) (.seq (.block 1 (sq D1 (sq D2 (.cond (Tm 16) (sq D3 .ret) .skip)))) (.region D4))))
def D5:Rg:=[iT 4 true]
def FI:aC:=(sq Dy (.seq (sq Dz (.block 0 (.loop Dw))) (sq D5 .ret)))
def axC:List Nat:=[]
def zb:aR:=⟨2,18,FI,[.tmp 4]⟩
def De:Rg:=[iT 4 false]
def Df:Rg:=[iM 7 0,iN 8 7,iI 9 0]
def Dg:Rg:=[iB 10 .lss 9 8]
def Dh:Rg:=[iX 11 1 7 9,iL 12 11,iM 6 12]
def Di:Rg:=[iM 13 1,iM 14 6,iA 15 (.a1B (Tm 13) [(Tm 14)]),iA 16 (.un .not (Tm 15))]
def Dj:Rg:=[iT 4 false]
def Dk:Rg:=[iC 17 .add 9 1,iM 9 17]
def Dc:aC:=(sq Dg (.seq (.cond (Tm 10) .skip (.exit 0)) (.seq (.block 1 (sq Dh (sq Di (.cond (Tm 16) (sq Dj .ret) .skip)))) (.region Dk))))
def Dl:Rg:=[iT 4 true]
def FG:aC:=(sq De (.seq (sq Df (.block 0 (.loop Dc))) (sq Dl .ret)))
def axA:List Nat:=[]
def y9:aR:=⟨2,18,FG,[.tmp 4]⟩
def r9:Rg:=[iT 2 false]
def sa:Rg:=[iM 3 0,iM 2 3]
def AO:aC:=(sq r9 (sq sa .ret))
def ajG:List Nat:=[]
def ck:aR:=⟨1,4,AO,[.tmp 2]⟩
def Eb:Rg:=[iA 1 (.box true (Tm 0)),iT 2 false]
def Ec:Rg:=[iF 8 3 1,iL 9 8,iN 10 9,iA 11 (.a0H 1 1 [zB] (Tm 10) (Tm 10)),iM 3 11]
def Ed:Rg:=[iI 4 0]
def Ee:Rg:=[iM 12 4,iM 13 3,iN 14 13,iB 15 .leq 12 14]
def Ef:Rg:=[iM 18 3,iN 19 18,iI 20 0]
def UV:Rg:=[iB 21 .lss 20 19]
def Eg:Rg:=[iM 22 20,iM 5 22]
def UW:Rg:=[iM 23 3,iM 24 5,iM 25 3,iM 26 5,iX 27 1 25 26,iL 28 27,iM 29 28,gF 30 3 1 29 false,gL 31 30 29 false,gM 32 5 29 false,iG 33 (.a0Q 3 (Tm 31) (Tm 32)) 29 false,gO 34 3 33 29 false,gK 35 97 34 29 false,iQ 36 29 35,iX 37 1 23 24,iS 1 37 36]
def UX:Rg:=[iF 38 2 1,iL 39 38,iM 40 5,iX 41 1 39 40,iL 42 41,iN 43 42,iI 44 0]
def Eh:Rg:=[iB 45 .lss 44 43]
def sd:Rg:=[iM 46 44,iX 47 3 42 44,iO 48 3 47,iA 7 (.alloc [zB,.aB,.aB]),iM 6 46,iS 3 7 48]
def MH:Rg:=[iM 49 3,iM 50 5,iM 51 3,iM 52 5,iX 53 1 51 52,iL 54 53,iM 55 54,gO 56 3 7 55 false,gK 57 97 56 55 false,gM 58 57 55 false,gM 59 3 58 true,gM 60 6 58 true,iG 61 (.a0Q 1 (Tm 59) (Tm 60)) 58 true,gL 62 61 58 true,iG 63 (.pick (Tm 58) (Tm 62) (.const zB)) 55 false,iQ 64 55 63,iX 65 1 49 50,iS 1 65 64]
def zE:Rg:=[iC 66 .add 44 1,iM 44 66]
def zC:aC:=(sq Eh (.seq (.cond (Tm 45) .skip (.exit 4)) (.seq (.block 5 (sq sd (.region MH))) (.region zE))))
def MI:Rg:=[iC 67 .add 20 1,iM 20 67]
def zD:aC:=(sq UV (.seq (.cond (Tm 21) .skip (.exit 2)) (.seq (.block 3 (sq Eg (sq UW (sq UX (.block 4 (.loop zC)))))) (.region MI))))
def se:Rg:=[iM 16 4,iC 17 .add 16 1,iM 4 17]
def sb:aC:=(.seq (sq Ee (.cond (Tm 15) .skip (.exit 0))) (.seq (.block 1 (sq Ef (.block 2 (.loop zD)))) (.region se)))
def sf:Rg:=[iM 68 3,iA 69 (.call 98 [(Tm 68),(.const (.fn 103 []))]),iM 2 69]
def FJ:aC:=(sq Eb (sq Ec (.seq (sq Ed (.block 0 (.loop sb))) (sq sf .ret))))
def axE:List Nat:=[1]
def zc:aR:=⟨1,70,FJ,[.tmp 2]⟩
def Rt:Rg:=[iA 1 (.box true (Tm 0)),iT 2 false]
def Ru:Rg:=[iF 12 1 1,iL 13 12,iN 14 13,iM 3 14]
def Rv:Rg:=[iM 15 3,iA 16 (.call 104 [(Tm 15),(Ci 1),(Ci 4)]),iA 17 (.un .not (Tm 16)),iM 18 17,gF 19 3 1 18 false,gL 20 19 18 false,gN 21 20 18 false,gM 22 3 18 false,gB 23 .neq 21 22 18 false,iQ 24 18 23,iM 25 24,gF 26 2 1 25 false,gL 27 26 25 false,gN 28 27 25 false,gM 29 3 25 false,gB 30 .neq 28 29 25 false,iQ 31 25 30,iM 32 31,gF 33 1 1 32 false,gL 34 33 32 false,iG 35 (.call 99 [(Tm 34),(.const (.fn 105 []))]) 32 false,iG 36 (.un .not (Tm 35)) 32 false,iQ 37 32 36,iM 38 37,gF 39 3 1 38 false,gL 40 39 38 false,iG 41 (.call 99 [(Tm 40),(.const (.fn 105 []))]) 38 false,iG 42 (.un .not (Tm 41)) 38 false,iQ 43 38 42]
def wR:Rg:=[iT 2 false]
def Rw:Rg:=[iF 44 2 1,iL 45 44,iN 46 45,iI 47 0]
def Rx:Rg:=[iB 48 .lss 47 46]
def Ry:Rg:=[iM 49 47,iX 50 1 45 47,iL 51 50,iM 4 49,iM 5 51]
def Rz:Rg:=[iM 52 5,iN 53 52,iM 54 3,iB 55 .neq 53 54,iM 56 55,gM 57 5 56 false,iG 58 (.call 99 [(Tm 57),(.const (.fn 105 []))]) 56 false,iG 59 (.un .not (Tm 58)) 56 false,iQ 60 56 59,iM 61 60,gM 62 5 61 false,gM 63 4 61 false,iG 64 (.a0Q 3 (Tm 62) (Tm 63)) 61 false,gO 65 3 64 61 false,gK 66 97 65 61 false,iQ 67 61 66]
def QJ:Rg:=[iT 2 false]
def R0:Rg:=[iC 68 .add 47 1,iM 47 68]
def Ei:aC:=(sq Rx (.seq (.cond (Tm 48) .skip (.exit 0)) (.seq (.block 1 (sq Ry (sq Rz (.cond (Tm 67) (sq QJ .ret) .skip)))) (.region R0))))
def UY:Rg:=[iF 70 1 1,iL 71 70,iK 72 117 71,iM 69 72,iE 73 69 0,iE 74 69 1,iA 6 (.alloc [zB,.aB,.aB]),iS 3 6 73,iM 7 74]
def FK:Rg:=[iA 76 (.call 115 [(Ci 1),(Ci 1)]),iM 75 76,iE 77 75 0,iE 78 75 1,iA 8 (.alloc [zB,.aB,.aB]),iS 3 8 77,iM 9 78]
def FL:Rg:=[iO 80 3 6,iO 81 3 8,iK2 82 114 80 81,iM 79 82,iE 83 79 0,iE 84 79 1,iM 10 83,iM 11 84]
def sZ:Rg:=[iM 85 7,iC 86 .eql 85 0,iM 87 86,gM 88 10 87 true,gC 89 .eql 88 0 87 true,iP 90 87 89,iM 91 90,gO 92 4 1 91 true,gK 93 102 92 91 true,iP 94 91 93,iM 2 94]
def MJ:aC:=(sq Rt (sq Ru (.seq (sq Rv (.cond (Tm 43) (sq wR .ret) .skip)) (.seq (sq Rw (.block 0 (.loop Ei))) (sq UY (sq FK (sq FL (sq sZ .ret))))))))
def aHQ:List Nat:=[1]
def Y0:aR:=⟨1,95,MJ,[.tmp 2]⟩
def E0:Rg:=[iT 2 false]
def E4:Rg:=[iA 6 (.a1F (false,[.str])),iM 3 6]
def E5:Rg:=[iM 7 0,iN 8 7,iI 9 0]
def E6:Rg:=[iB 10 .lss 9 8]
def E7:Rg:=[iX 11 1 7 9,iL 12 11,iM 5 12]
def E8:Rg:=[iM 13 5,iK 14 123 13,iA 15 (.un .not (Tm 14)),iM 16 15,gM 17 3 16 false,gM 18 5 16 false,iG 19 (.lookup (false,[.str]) zB (Tm 17) (Tm 18) false) 16 false,iQ 20 16 19]
def VC:Rg:=[iT 2 false]
def E9:Rg:=[iM 21 3,iM 22 5,⟨none,.a0R (false,[.str]) (Tm 21) (Tm 22) (.const (.bool true)),none⟩]
def Fa:Rg:=[iC 23 .add 9 1,iM 9 23]
def Ey:aC:=(sq E6 (.seq (.cond (Tm 10) .skip (.exit 0)) (.seq (.block 1 (sq E7 (.seq (sq E8 (.cond (Tm 20) (sq VC .ret) .skip)) (.region E9)))) (.region Fa))))
def sm:Rg:=[iT 2 true]
def FS:aC:=(sq E0 (sq E4 (.seq (sq E5 (.block 0 (.loop Ey))) (sq sm .ret))))
def axI:List Nat:=[]
def zf:aR:=⟨1,24,FS,[.tmp 2]⟩
def ky:Rg:=[iA 1 (.box true (Tm 0)),iT 2 false]
def kz:Rg:=[iF 6 3 1,iL 7 6,iN 8 7,iC 9 .eql 8 0]
def Rm:Rg:=[iT 2 false]
def Rn:Rg:=[iF 10 3 1,iL 11 10,iA 12 (.a0Q 7 (Tm 11) (Ci 0)),iO 13 7 12,iA 3 (.alloc [(.str []),zI,zI,zI,zB,.aB,.aB]),iS 7 3 13]
def wQ:Rg:=[iF 14 0 3,iL 15 14,iA 16 (.bin .neq (Tm 15) (.const (.str []))),iM 17 16,gF 18 1 3 17 false,gL 19 18 17 false,gC 20 .neq 19 0 17 false,iQ 21 17 20,iM 22 21,gF 23 2 3 22 false,gL 24 23 22 false,gC 25 .neq 24 (-1) 22 false,iQ 26 22 25,iM 27 26,gF 28 3 3 27 false,gL 29 28 27 false,gC 30 .neq 29 0 27 false,iQ 31 27 30,iM 32 31,gF 33 4 3 32 false,gO 34 3 33 32 false,gK 35 105 34 32 false,iG 36 (.un .not (Tm 35)) 32 false,iQ 37 32 36,iM 38 37,gF 39 4 3 38 false,gO 40 3 39 38 false,gK 41 97 40 38 false,iQ 42 38 41]
def sY:Rg:=[iT 2 false]
def Ro:Rg:=[iF 43 3 1,iL 44 43,iA 45 (.slice 7 (Tm 44) (some (Ci 1)) none none),iN 46 45,iI 47 0]
def Rp:Rg:=[iB 48 .lss 47 46]
def Rq:Rg:=[iM 49 47,iX 50 7 45 47,iO 51 7 50,iA 5 (.alloc [(.str []),zI,zI,zI,zB,.aB,.aB]),iM 4 49,iS 7 5 51]
def Rr:Rd:=[(iF 52 2 5,false),(iL 53 52,false),(iM 54 4,false),(iA 55 (.call 104 [(Tm 53),(Ci 0),(Tm 54)]),true),(iA 56 (.un .not (Tm 55)),false),(iM 57 56,false),(gF 58 3 1 57 false,false),(gL 59 58 57 false,false),(gF 60 2 5 57 false,false),(gL 61 60 57 false,false),(iG 62 (.a0Q 7 (Tm 59) (Tm 61)) 57 false,false),(gF 63 1 62 57 false,false),(gL 64 63 57 false,false),(gF 65 1 5 57 false,false),(gL 66 65 57 false,false),(gC 67 .sub 66 1 57 false,false),(gB 68 .neq 64 67 57 false,false),(iQ 69 57 68,false),(iM 70 69,false),(gF 71 1 5 70 false,false),(gL 72 71 70 false,false),(iG 73 (.call 104 [(Tm 72),(Ci 1),(Ci 4)]) 70 false,true),(iG 74 (.un .not (Tm 73)) 70 false,false),(iQ 75 70 74,false),(iM 76 75,false),(gF 77 3 5 76 false,false),(gL 78 77 76 false,false),(iG 79 (.call 104 [(Tm 78),(Ci 1),(Ci 64)]) 76 false,true),(iG 80 (.un .not (Tm 79)) 76 false,false),(iQ 81 76 80,false),(iM 82 81,false),(gF 83 4 5 82 false,false),(gO 84 3 83 82 false,false),(gK 85 105 84 82 false,true),(iG 86 (.un .not (Tm 85)) 82 false,false),(iQ 87 82 86,false)]
def sX:Rg:=[iT 2 false]
def D8:Rg:=[iC 88 .add 47 1,iM 47 88]
def D7:aC:=(sq Rp (.seq (.cond (Tm 48) .skip (.exit 0)) (.seq (.block 1 (sq Rq (dq Rr (.cond (Tm 87) (sq sX .ret) .skip)))) (.region D8))))
def D9:Rg:=[iT 2 true]
def zA:aC:=(sq ky (.seq (sq kz (.cond (Tm 9) (sq Rm .ret) .skip)) (sq Rn (.seq (sq wQ (.cond (Tm 42) (sq sY .ret) .skip)) (.seq (sq Ro (.block 0 (.loop D7))) (sq D9 .ret))))))
def aHP:List Nat:=[1]
def D6:aR:=⟨1,89,zA,[.tmp 2]⟩
def Ek:Rg:=[iT 2 false]
def El:Rg:=[iM 3 0,iA 4 (.call 104 [(Tm 3),(Ci 0),(Ci 8)]),iM 2 4]
def FN:aC:=(sq Ek (sq El .ret))
def axF:List Nat:=[]
def zd:aR:=⟨1,5,FN,[.tmp 2]⟩
def R5:Rg:=[iA 7 (.box true (Tm 3)),iT 8 false]
def R6:Rg:=[iM 9 0,iA 10 (.call 104 [(Tm 9),(Ci 1),(Ci 6)]),iA 11 (.un .not (Tm 10)),iM 12 11,gM 13 1 12 false,iG 14 (.call 104 [(Tm 13),(Ci 0),(Ci 4)]) 12 false,iG 15 (.un .not (Tm 14)) 12 false,iQ 16 12 15,iM 17 16,gM 18 0 17 false,gM 19 1 17 false,gB 20 .add 18 19 17 false,gC 21 .gtr 20 8 17 false,iQ 22 17 21,iM 23 22,gM 24 2 23 false,gM 25 0 23 false,gM 26 0 23 false,gM 27 1 23 false,gB 28 .add 26 27 23 false,iG 29 (.call 104 [(Tm 24),(Tm 25),(Tm 28)]) 23 false,iG 30 (.un .not (Tm 29)) 23 false,iQ 31 23 30,iM 32 31,iG 33 (.idxA 5 1 (Tm 7) (Ci 0)) 32 false,gL 34 33 32 false,gC 35 .neq 34 0 32 false,iQ 36 32 35]
def wS:Rg:=[iT 8 false]
def R7:Rg:=[iA 37 (.sliceA 5 1 (Tm 7) none none none),iA 38 (.call 100 [(Tm 37),(.const (.fn 107 []))]),iM 8 38]
def ML:aC:=(sq R5 (.seq (sq R6 (.cond (Tm 36) (sq wS .ret) .skip)) (sq R7 .ret)))
def aHS:List Nat:=[7]
def Y2:aR:=⟨4,39,ML,[.tmp 8]⟩
def sj:Rg:=[iA 1 (.box true (Tm 0)),iT 2 false]
def sk:Rg:=[iO 3 3 1,iK 4 105 3,iM 5 4,gO 6 3 1 5 true,gK 7 97 6 5 true,iP 8 5 7,iM 2 8]
def AP:aC:=(sq sj (sq sk .ret))
def ajJ:List Nat:=[1]
def cp:aR:=⟨1,9,AP,[.tmp 2]⟩
def Eq:Rg:=[iA 6 (.box true (Tm 2)),iA 7 (.box true (Tm 3)),iT 8 false]
def Er:Rg:=[iM 9 1,iN 10 9,iM 11 0,iA 12 (.a0U true (Tm 11) (Ci 1)),iB 13 .eql 10 12,iM 14 13,gM 15 1 14 true,iG 16 (.call 99 [(Tm 15),(.const (.fn 109 []))]) 14 true,iP 17 14 16,iM 18 17,gO 19 3 6 18 true,gK 20 105 19 18 true,iP 21 18 20,iM 22 21,gO 23 3 6 22 true,gK 24 101 23 22 true,iP 25 22 24,iM 26 25,gO 27 3 7 26 true,gK 28 105 27 26 true,iP 29 26 28,iM 8 29]
def FO:aC:=(sq Eq (sq Er .ret))
def axG:List Nat:=[6,7]
def ze:aR:=⟨4,30,FO,[.tmp 8]⟩
def Se:Rg:=[iA 2 (.box true (Tm 0)),iT 4 false]
def Sf:Rg:=[iF 8 1 2,iL 9 8,iF 10 2 2,iL 11 10,iF 12 3 2,iL 13 12,iF 14 4 2,iO 15 5 14,iA 16 (.call 106 [(Tm 9),(Tm 11),(Tm 13),(Tm 15)]),iA 17 (.un .not (Tm 16)),iM 18 17,gF 19 9 2 18 false,gL 20 19 18 false,gN 21 20 18 false,gC 22 .eql 21 0 18 false,iQ 23 18 22,iM 24 23,gF 25 2 2 24 false,gL 26 25 24 false,gF 27 10 2 24 false,gL 28 27 24 false,gF 29 11 2 24 false,gO 30 3 29 24 false,gF 31 14 2 24 false,gO 32 3 31 24 false,iG 33 (.call 108 [(Tm 26),(Tm 28),(Tm 30),(Tm 32)]) 24 false,iG 34 (.un .not (Tm 33)) 24 false,iQ 35 24 34]
def QL:Rg:=[iT 4 false]
def Sg:Rg:=[iM 36 1,iA 37 (.a0H 1 1 [zB] (Tm 36) (Tm 36)),iM 5 37]
def Sh:Rg:=[iF 38 9 2,iL 39 38,iN 40 39,iI 41 0]
def Si:Rg:=[iB 42 .lss 41 40]
def Sj:Rg:=[iX 43 1 39 41,iL 44 43,iM 7 44]
def Sk:Rg:=[iM 45 7,iM 46 1,iC 47 .sub 46 1,iA 48 (.call 104 [(Tm 45),(Ci 0),(Tm 47)]),iA 49 (.un .not (Tm 48)),iM 50 49,gM 51 5 50 false,gM 52 7 50 false,iG 53 (.a0Q 1 (Tm 51) (Tm 52)) 50 false,gL 54 53 50 false,iQ 55 50 54]
def k6:Rg:=[iT 4 false]
def Sl:Rg:=[iM 56 5,iM 57 7,iX 58 1 56 57,⟨none,.store 1 (Tm 58) (.const (.bool true)),none⟩]
def En:Rg:=[iC 59 .add 41 1,iM 41 59]
def Em:aC:=(sq Si (.seq (.cond (Tm 42) .skip (.exit 0)) (.seq (.block 1 (sq Sj (.seq (sq Sk (.cond (Tm 55) (sq k6 .ret) .skip)) (.region Sl)))) (.region En))))
def Eo:Rg:=[iT 4 true]
def MN:aC:=(sq Se (.seq (sq Sf (.cond (Tm 35) (sq QL .ret) .skip)) (sq Sg (.seq (sq Sh (.block 0 (.loop Em))) (sq Eo .ret)))))
def aHU:List Nat:=[2]
def Y3:aR:=⟨2,60,MN,[.tmp 4]⟩
def Sn:Rg:=[iA 1 (.box true (Tm 0)),iI 2 0]
def So:Rg:=[iF 21 0 1,iL 22 21,iA 23 (.call 104 [(Tm 22),(Ci 1),(Ci 4)]),iA 24 (.un .not (Tm 23)),iM 25 24,gF 26 1 1 25 false,gL 27 26 25 false,gN 28 27 25 false,gC 29 .gtr 28 4 25 false,iQ 30 25 29,iM 31 30,gF 32 2 1 31 false,gL 33 32 31 false,gN 34 33 31 false,gC 35 .gtr 34 4 31 false,iQ 36 31 35,iM 37 36,gF 38 3 1 37 false,gL 39 38 37 false,gN 40 39 37 false,gC 41 .gtr 40 40 37 false,iQ 42 37 41,iM 43 42,gF 44 4 1 43 false,gL 45 44 43 false,gN 46 45 43 false,gC 47 .gtr 46 24 43 false,iQ 48 43 47,iM 49 48,gF 50 5 1 49 false,gL 51 50 49 false,gN 52 51 49 false,gC 53 .gtr 52 4 49 false,iQ 54 49 53,iM 55 54,gF 56 6 1 55 false,gL 57 56 55 false,gN 58 57 55 false,gC 59 .gtr 58 12 55 false,iQ 60 55 59,iM 61 60,gO 62 7 1 61 false,gK 63 111 62 61 false,iG 64 (.un .not (Tm 63)) 61 false,iQ 65 61 64]
def pD:Rg:=[iI 2 1]
def Sp:Rg:=[iZ 3,iZ 4,iZ 5,iZ 6,iZ 7]
def Sr:Rg:=[iT 8 true]
def k7:Rg:=[iF 66 1 1,iL 67 66,iN 68 67,iI 69 0]
def Ss:Rg:=[iB 70 .lss 69 68]
def St:Rg:=[iX 71 4 67 69,iO 72 4 71,iA 10 (.alloc [(.str []),.aB,.aB,.aB]),iS 4 10 72]
def Su:Rg:=[iM 73 3,iF 74 0 10,iL 75 74,iA 76 (.a0F true 1 1 [(.str [])] [(0,(Tm 75))]),iA 77 (.append 1 16 (Tm 73) (Tm 76)),iM 3 77]
def la:Rg:=[iM 78 8,iM 79 78,gO 80 4 10 79 true,gK 81 95 80 79 true,iP 82 79 81,iM 8 82]
def VD:Rg:=[iC 83 .add 69 1,iM 69 83]
def FT:aC:=(sq Ss (.seq (.cond (Tm 70) .skip (.exit 0)) (.seq (.block 1 (sq St (sq Su (.region la)))) (.region VD))))
def VE:Rg:=[iF 84 2 1,iL 85 84,iN 86 85,iI 87 0]
def Fb:Rg:=[iB 88 .lss 87 86]
def Fc:Rg:=[iX 89 4 85 87,iO 90 4 89,iA 12 (.alloc [(.str []),zI,zI,zI]),iS 4 12 90]
def Fd:Rg:=[iM 91 4,iF 92 0 12,iL 93 92,iA 94 (.a0F true 1 1 [(.str [])] [(0,(Tm 93))]),iA 95 (.append 1 16 (Tm 91) (Tm 94)),iM 4 95]
def VG:Rg:=[iM 96 8,iM 97 96,gF 98 1 12 97 true,gL 99 98 97 true,iG 100 (.call 104 [(Tm 99),(Ci 1),(Ci 16)]) 97 true,iP 101 97 100,iM 102 101,gF 103 2 12 102 true,gL 104 103 102 true,iG 105 (.call 104 [(Tm 104),(Ci 1),(Ci 64)]) 102 true,iP 106 102 105,iM 107 106,gF 108 3 12 107 true,gL 109 108 107 true,gF 110 1 1 107 true,gL 111 110 107 true,gN 112 111 107 true,gC 113 .sub 112 1 107 true,iG 114 (.call 104 [(Tm 109),(Ci 0),(Tm 113)]) 107 true,iP 115 107 114,iM 8 115]
def xR:Rg:=[iC 116 .add 87 1,iM 87 116]
def FU:aC:=(sq Fb (.seq (.cond (Tm 88) .skip (.exit 2)) (.seq (.block 3 (sq Fc (sq Fd (.region VG)))) (.region xR))))
def VH:Rg:=[iF 117 3 1,iL 118 117,iA 119 (.slice 7 (Tm 118) (some (Ci 1)) none none),iN 120 119,iI 121 0]
def Fe:Rg:=[iB 122 .lss 121 120]
def Ff:Rg:=[iX 123 7 119 121,iO 124 7 123,iA 14 (.alloc [(.str []),zI,zI,zI,zB,.aB,.aB]),iS 7 14 124]
def Fg:Rg:=[iM 125 5,iF 126 0 14,iL 127 126,iA 128 (.a0F true 1 1 [(.str [])] [(0,(Tm 127))]),iA 129 (.append 1 16 (Tm 125) (Tm 128)),iM 5 129]
def Fh:Rg:=[iC 130 .add 121 1,iM 121 130]
def FW:aC:=(sq Fe (.seq (.cond (Tm 122) .skip (.exit 4)) (.seq (.block 5 (sq Ff (.region Fg))) (.region Fh))))
def VI:Rg:=[iF 131 4 1,iL 132 131,iN 133 132,iI 134 0]
def Fi:Rg:=[iB 135 .lss 134 133]
def Fj:Rg:=[iX 136 3 132 134,iO 137 3 136,iA 16 (.alloc [(.str []),zI,zI]),iS 3 16 137]
def Fk:Rg:=[iM 138 5,iF 139 0 16,iL 140 139,iA 141 (.a0F true 1 1 [(.str [])] [(0,(Tm 140))]),iA 142 (.append 1 16 (Tm 138) (Tm 141)),iM 5 142]
def VJ:Rg:=[iM 143 8,iM 144 143,gF 145 1 16 144 true,gL 146 145 144 true,gF 147 2 1 144 true,gL 148 147 144 true,gN 149 148 144 true,gC 150 .sub 149 1 144 true,iG 151 (.call 104 [(Tm 146),(Ci 0),(Tm 150)]) 144 true,iP 152 144 151,iM 153 152,gF 154 2 16 153 true,gL 155 154 153 true,gF 156 3 1 153 true,gL 157 156 153 true,gN 158 157 153 true,gC 159 .sub 158 1 153 true,iG 160 (.call 104 [(Tm 155),(Ci 0),(Tm 159)]) 153 true,iP 161 153 160,iM 162 161,gF 163 3 1 162 true,gL 164 163 162 true,gF 165 2 16 162 true,gL 166 165 162 true,iG 167 (.a0Q 7 (Tm 164) (Tm 166)) 162 true,gF 168 1 167 162 true,gL 169 168 162 true,gC 170 .eql 169 4 162 true,iP 171 162 170,iM 8 171]
def tA:Rg:=[iC 172 .add 134 1,iM 134 172]
def FX:aC:=(sq Fi (.seq (.cond (Tm 135) .skip (.exit 6)) (.seq (.block 7 (sq Fj (sq Fk (.region VJ)))) (.region tA))))
def VK:Rg:=[iF 173 5 1,iL 174 173,iN 175 174,iI 176 0]
def Fl:Rg:=[iB 177 .lss 176 175]
def Fm:Rg:=[iX 178 17 174 176,iO 179 17 178,iA 18 (.alloc [(.str []),zI,zI,zI,zI,zI,zI,zI,zI,.aB,.aB,zB,.aB,.aB,zB,.aB,.aB]),iS 17 18 179]
def Fn:Rg:=[iM 180 6,iF 181 0 18,iL 182 181,iA 183 (.a0F true 1 1 [(.str [])] [(0,(Tm 182))]),iA 184 (.append 1 16 (Tm 180) (Tm 183)),iM 6 184]
def VL:Rg:=[iM 185 8,iM 186 185,gO 187 17 18 186 true,gF 188 2 1 186 true,gL 189 188 186 true,gN 190 189 186 true,gK2 191 112 187 190 186 true,iP 192 186 191,iM 8 192]
def VM:Rg:=[iC 193 .add 176 1,iM 176 193]
def FY:aC:=(sq Fl (.seq (.cond (Tm 177) .skip (.exit 8)) (.seq (.block 9 (sq Fm (sq Fn (.region VL)))) (.region VM))))
def VN:Rg:=[iF 194 6 1,iL 195 194,iN 196 195,iI 197 0]
def Fo:Rg:=[iB 198 .lss 197 196]
def Fp:Rg:=[iX 199 2 195 197,iO 200 2 199,iA 20 (.alloc [(.str []),zI]),iS 2 20 200]
def Fq:Rg:=[iM 201 7,iF 202 0 20,iL 203 202,iA 204 (.a0F true 1 1 [(.str [])] [(0,(Tm 203))]),iA 205 (.append 1 16 (Tm 201) (Tm 204)),iM 7 205]
def VO:Rg:=[iM 206 8,iM 207 206,gF 208 1 20 207 true,gL 209 208 207 true,gF 210 5 1 207 true,gL 211 210 207 true,gN 212 211 207 true,gC 213 .sub 212 1 207 true,iG 214 (.call 104 [(Tm 209),(Ci 0),(Tm 213)]) 207 true,iP 215 207 214,iM 8 215]
def VP:Rg:=[iC 216 .add 197 1,iM 197 216]
def FZ:aC:=(sq Fo (.seq (.cond (Tm 198) .skip (.exit 10)) (.seq (.block 11 (sq Fp (sq Fq (.region VO)))) (.region VP))))
def xS:Rg:=[iM 217 8,iA 218 (.un .not (Tm 217)),iM 219 218,gM 220 3 219 false,gK 221 110 220 219 false,iG 222 (.un .not (Tm 221)) 219 false,iQ 223 219 222,iM 224 223,gM 225 4 224 false,gK 226 110 225 224 false,iG 227 (.un .not (Tm 226)) 224 false,iQ 228 224 227,iM 229 228,gM 230 5 229 false,gK 231 110 230 229 false,iG 232 (.un .not (Tm 231)) 229 false,iQ 233 229 232,iM 234 233,gM 235 6 234 false,gK 236 110 235 234 false,iG 237 (.un .not (Tm 236)) 234 false,iQ 238 234 237,iM 239 238,gM 240 7 239 false,gK 241 110 240 239 false,iG 242 (.un .not (Tm 241)) 239 false,iQ 243 239 242]
def mY:Rg:=[iI 2 1]
def GA:Rg:=[iI 2 0]
def MO:aC:=(sq Sn (.seq (sq So (.cond (Tm 65) (sq pD .ret) .skip)) (sq Sp (sq Sr (.seq (sq k7 (.block 0 (.loop FT))) (.seq (sq VE (.block 2 (.loop FU))) (.seq (sq VH (.block 4 (.loop FW))) (.seq (sq VI (.block 6 (.loop FX))) (.seq (sq VK (.block 8 (.loop FY))) (.seq (sq VN (.block 10 (.loop FZ))) (.seq (sq xS (.cond (Tm 243) (sq mY .ret) .skip)) (sq GA .ret))))))))))))
def aHW:List Nat:=[1,76,94,128,141,183,204]
def Y6:aR:=⟨1,244,MO,[.tmp 2]⟩
@[go_sem] theorem aTB (a b:List UInt8):KK .eql a b=some (.bool (a==b)):=(rfl)
@[go_sem] theorem aTC (a b:List UInt8):KK .neq a b=some (.bool !(a==b)):=(rfl)
@[go_sem] theorem Xw (a b:List UInt8):KK .add a b=if ((a.length+b.length:Nat):Int)>9223372036854775807 then none else some (.str (a++b)):=(rfl)
@[go_sem] theorem aNS:(([]:List UInt8)==[])=true:=(rfl)
@[go_sem] theorem aGN (c:UInt8) (t:List UInt8):((c::t)==[])=false:=(rfl)
theorem oU {a b:List UInt8} (h:a=b):(a==b)=true:=by simp[h]
theorem YM {a b:List UInt8} (h:a≠b):(a==b)=false:=by simp[h]
section
variable {C:Ctx} {F:PF} {H:PH}
theorem qC {name o s:Nat} {rs:List (List PV)} {vs:List PV} {v:PV} {args:List aN} {d:Option Nat} {K:PF→PH→Prop} (h:aF C name vs .nil (aH v)) (i:H o=some (.rows s rs))
  (e:aN.evs (F.frz o s rs) args=some vs) (c:K ((F.frz o s rs).put d v) (H.frz o s rs)):hL C name args [] d K F H:=by
 refine .inr ⟨_,_,.step o i (.refl _ _),vs,.nil,aH v,?_,a_,h,?_⟩
 ·rw[e]; simp
 ·rintro r H' ⟨rfl,rfl⟩ -;rw[PH.tG];exact c
theorem iW.trans {c d e:PF} {i H2 l:PH} (h:iW c i d H2) (k:iW d H2 e l):iW c i e l:=by
 induction h with
 | refl=>exact k
 | step o p h u=>exact .step o p (u k)
theorem pL {c:aC} {K:bV} {s:Nat} {v:PV} {rows:List (List PV)} (M:bP H s v rows)
  (h:∀ e,Seen s e rows→∀ d l,(∀ t,F t=some v→d t=some e)→(∀ i u,F i=some u→Pure u→d i=some u)→aC.wp C (.loop c) K d l):aC.wp C (.loop c) K F H:=by
 obtain⟨e,N,J⟩:=M.frz;obtain⟨d,l,O,B,E⟩:=J F;obtain⟨α,x,Hs,y,m,A,w,H2,p,rest⟩:=h e N d l B E;exact⟨α,x,Hs,y,m,A,w,H2,O.trans p,rest⟩
theorem aF.abP {name s:Nat} {v:PV} {rows:List (List PV)} {d:PH} {R:PV→PH→Prop} (h:aF C name [.sl s rows] d R) (i:Seen s v rows):aF C name [v] d R:=by
 rcases i with ⟨rfl,rfl⟩ | rfl
 ·refine h.args ⟨rfl,fun j p q c e=>?_⟩;cases j with
  | zero=>simp at c e; subst c; subst e; exact .nil s
  | succ j=>simp at c
 ·exact h
theorem bP.fresh {s:Nat} {v:PV} {rows:List (List PV)} {o:Nat} (h:bP H s v rows) (i:H o=none) (x:bY):bP (H.set o x) s v rows∧∀ l,v≠.osl o s 0 l:=by
 refine⟨h.ext fun q y d=>?_,fun l e=>?_⟩
 ·have:q≠o:=by rintro rfl; rw[i] at d; cases d
  simp only[aV,if_neg this,d]
 ·rcases h with ⟨_,c⟩ | ⟨q,rs,h1,c,_⟩
  ·rw[c] at e; cases e
  ·rw[h1] at e;injection e with p
   subst p;rw[i] at c; cases c
theorem mJ {s b:Nat} {v:PV} {rows:List (List PV)} {r:List PV} {o:Nat} {x:bY} {K:PV→PH→Prop} (h:bP H s v rows) (l:H o=none) (u:roomFor rows.length 1 b)
  (i:∀ v' H',bP H' s v' (rows++[r])→H' o=some x→K v' H'):nA (H.set o x) s b v (.sl s [r]) K:=by
 obtain⟨c,d⟩:=h.fresh l x;refine gT (src:=[r]) c (by simp[dZ]) u fun v' H' e p=>i v' H' e (p o x (by simp only[aV,if_true]) d)
theorem qY {o s k:Nat} {rs:List (List PV)} (c:k≤rs.length):PV.frz o s rs (.osl o s 0 k)=.sl s (rs.take k):=by
 have:0+k≤rs.length:=Om;simp only[PV.frz,PV.rV,PV.cV,if_true,true_and,if_pos this,a2S]
end
def gR (n:Nat):Bool:=decide (97≤n)&&decide (n≤122)||decide (65≤n)&&decide (n≤90)
def pX (n:Nat):Bool:=decide (48≤n)&&decide (n≤57)
def hC (n:Nat):Bool:=gR n||pX n||decide (n=45)||decide (n=46)
theorem c7 {C:Ctx} (n:Nat):kU.wp C (aX DB.res (aH (.bool (gR n)))) (PF.args [.int .u8 n]) .nil:=by
 have fin:∀ (F:PF) (b:Bool),F 2=some (.bool b)→b=gR n→aX DB.res (aH (.bool (gR n))) .ret F .nil:=by intro F b h e;subst e;refine bE (.inr rfl) (vs:=[.bool (gR n)]) (by simp only[go_sem,DB,h]) rfl
 unfold gR at *
 by_cases a:97≤n
 ·have i:(n:Int)≥97:=Om;by_cases b:n≤122
  ·have p:(n:Int)≤122:=Om;simp only[go_sem,kU,pE,pF,i,p];exact fin _ _ rfl (by simp[a,b])
  ·have p:¬ (n:Int)≤122:=Om;by_cases c:65≤n
   ·have l:(n:Int)≥65:=Om;have d:¬ (n:Int)≤90:=Om;simp only[go_sem,kU,pE,pF,i,p,l,d];exact fin _ _ rfl (by simp[a,b,c]; omega)
   ·omega
 ·have i:¬ (n:Int)≥97:=Om;by_cases c:65≤n
  ·have l:(n:Int)≥65:=Om;by_cases d:n≤90
   ·have u:(n:Int)≤90:=Om;simp only[go_sem,kU,pE,pF,i,l,u];exact fin _ _ rfl (by simp[a,c,d])
   ·have u:¬ (n:Int)≤90:=Om;simp only[go_sem,kU,pE,pF,i,l,u];exact fin _ _ rfl (by simp[a,c,d])
  ·have l:¬ (n:Int)≥65:=Om;simp only[go_sem,kU,pE,pF,i,l];exact fin _ _ rfl (by simp[a,c])
theorem sw {C:Ctx} (n:Nat):pZ.wp C (aX MS.res (aH (.bool (pX n)))) (PF.args [.int .u8 n]) .nil:=by
 have fin:∀ (F:PF) (b:Bool),F 2=some (.bool b)→b=pX n→aX MS.res (aH (.bool (pX n))) .ret F .nil:=by intro F b h e;subst e;refine bE (.inr rfl) (vs:=[.bool (pX n)]) (by simp only[go_sem,MS,h]) rfl
 unfold pX at *
 by_cases a:48≤n
 ·have c:(n:Int)≥48:=Om;by_cases b:n≤57
  ·have d:(n:Int)≤57:=Om;simp only[go_sem,pZ,zF,zG,c,d];exact fin _ _ rfl (by simp[a,b])
  ·have d:¬ (n:Int)≤57:=Om;simp only[go_sem,pZ,zF,zG,c,d];exact fin _ _ rfl (by simp[a,b])
 ·have c:¬ (n:Int)≥48:=Om;simp only[go_sem,pZ,zF,zG,c];exact fin _ _ rfl (by simp[a])
theorem s7 {C:Ctx} (p:∀ n:Nat,aF C 126 [.int .u8 n] .nil (aH (.bool (gR n)))) (u:∀ n:Nat,aF C 124 [.int .u8 n] .nil (aH (.bool (pX n)))) (n:Nat) :
  AQ.wp C (aX MU.res (aH (.bool (hC n)))) (PF.args [.int .u8 n]) .nil:=by
 have fin:∀ (F:PF) (b:Bool),F 2=some (.bool b)→b=hC n→aX MU.res (aH (.bool (hC n))) .ret F .nil:=by intro F b h e;subst e;refine bE (.inr rfl) (vs:=[.bool (hC n)]) (by simp only[go_sem,MU,h]) rfl
 simp only[go_sem,AQ,s8,s9];refine aA (p n) rfl ?_;cases l:gR n with
 | true =>simp only[go_sem];exact fin _ _ rfl (by simp[hC,l])
 | false =>
  simp only[go_sem];refine aA (u n) rfl ?_;cases i:pX n with
  | true =>simp only[go_sem];exact fin _ _ rfl (by simp[hC,i])
  | false =>
   by_cases c:n=45
   ·simp only[go_sem,bN (Om:(n:Int)=45)];exact fin _ _ rfl (by simp[hC,c])
   ·by_cases d:n=46
    ·simp only[go_sem,bF (Om:(n:Int)≠45),bN (Om:(n:Int)=46)];exact fin _ _ rfl (by simp[hC,d])
    ·simp only[go_sem,bF (Om:(n:Int)≠45),bF (Om:(n:Int)≠46)];exact fin _ _ rfl (by simp[hC,c,d,l,i])
def isName (s:List UInt8):Bool:=match s with
 | []=>false
 | c::_=>decide (s.length≤16)&&gR c.toNat&&s.all fun c=>hC c.toNat
theorem DP {α:Type} {p:α→Bool} {l:List α} {k:Nat} (c:k<l.length) (h:(l.take k).all p=true) (d:p l[k]=true):(l.take (k+1)).all p=true:=by
 rw[a3I c,List.all_append,h]; simp[d]
theorem DQ {α:Type} {p:α→Bool} {l:List α} {k:Nat} (c:k<l.length) (d:p l[k]=false):l.all p=false:=by
 rw[List.all_eq_false];exact⟨l[k],a1N c,by simp[d]⟩
def F8 (s:List UInt8) (k:Nat):PF:=((PF.nil.set 0 (.str s)).set 3 (.int .i64 k))
theorem Ga {C:Ctx} (y:∀ n:Nat,aF C 126 [.int .u8 n] .nil (aH (.bool (gR n)))) (A:∀ n:Nat,aF C 125 [.int .u8 n] .nil (aH (.bool (hC n)))) (s:List UInt8) :
  rY.wp C (aX c8.res (aH (.bool (isName s)))) (PF.args [.str s]) .nil:=by
 have fin:∀ (F:PF) (b:Bool),F 2=some (.bool b)→b=isName s→aX c8.res (aH (.bool (isName s))) .ret F .nil:=by intro F b h e;subst e;refine bE (.inr rfl) (vs:=[.bool (isName s)]) (by simp only[go_sem,c8,h]) rfl
 cases s with
 | nil =>simp only[go_sem,rY,GF,GG,GH];exact fin _ _ rfl rfl
 | cons c t =>
  have E:(c::t)[0]?=some c:=rfl;have p:(c::t==[])=false:=rfl;have l:isName (c::t)=(decide ((c::t).length≤16)&&gR c.toNat&&(c::t).all fun c=>hC c.toNat):=rfl;generalize c::t=s at *
  by_cases x:s.length≤16
  ·have i:¬ (s.length:Int)>16:=Om;rw[decide_eq_true x,a2J] at l;simp only[go_sem,rY,GF,GG,p,i,E,a2V];refine aA (y c.toNat) rfl ?_;cases w:gR c.toNat with
   | false =>simp only[go_sem,a2I,GH];exact fin _ _ rfl (by rw[l,w]; rfl)
   | true =>
    rw[w,a2J] at l;simp only[go_sem,a1W,Gb];refine wp_loop (α:=Nat) (fun k=>F8 s k) (fun _=>.nil) (fun k=>k≤s.length∧(s.take k).all (fun c=>hC c.toNat)=true) (fun k=>s.length-k) 0 ⟨a1X _,rfl⟩ ?_ a_ ?_
    ·unfold F8;exact Lq
    rintro k ⟨H,u⟩;simp only[go_sem,F9,Gc,F8];by_cases hlt:k<s.length
    ·have d:(k:Int)<(s.length:Nat):=Om;have B:s[k]?=some s[k]:=a1V hlt;simp only[go_sem,d,Gd,B,a2V];refine aA (A (s[k]).toNat) rfl ?_;cases hi:hC (s[k]).toNat with
     | false =>simp only[go_sem,a2I,Ge];refine fin _ false rfl ?_;rw[l,DQ hlt hi]
     | true =>simp only[go_sem,a1W,Gf,wZz k];refine aK (k+1) ⟨hlt,a2F.1 (DP hlt u hi)⟩ Om ?_ a_;exact Lq
    ·have d:¬ (k:Int)<(s.length:Nat):=Om;simp only[go_sem,d,Gg];have:k=s.length:=Om;subst this;rw[a2C (a1O _)] at u;exact fin _ true rfl (by rw[l,u])
  ·have i:(s.length:Int)>16:=Om;simp only[go_sem,rY,GF,GG,GH,p,i];exact fin _ _ rfl (by rw[l,decide_eq_false x]; rfl)
end Go.PM
