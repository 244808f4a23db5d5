/-
  Texts of ours, joined: Pm21 Pm22 Pm23 Pm24 Pm25 Pm26 L11Code NaCode Pm27 Pm29 Pm30 Pm31 NaPlain NaW1 NaW2 NaW3 NaW4 NaW5 NaW6 NaW7 NaW8 NaW9 NaKn NaW10 NaW11 Pm32 NaW12 NaW13 NaW14 NaW15 FrCode FrW1 FrW2 FrW3 FrW4 FlCode Pm. No condition.
-/
import Derived.Test.YtgfeljaimmnmmaaGreatDoorGr1
import Derived.ProofKit
import Derived.OpenShut
set_option linter.unusedSimpArgs false
set_option linter.unusedVariables false
open Nat renaming reduceEqDiff → γ, reduceAdd → δ, reduceSub → ε, reduceMul → ζ, reduceLT → η, reduceLeDiff → θ, reduceBEq → τ
open Int renaming reduceLT → ι, reduceLE → κ, reduceEq → μ, reduceToNat → ν, reduceAdd → ξ, reduceNeg → ο, reduceBEq → ρ, reduceBNe → σ
open List renaming reduceReplicate → υ
open List renaming length_map → aXI, replicate → aXK, getElem_mem → aXM, length_append → aXN, mem_cons → aXP, range → aXQ, length_singleton → aXR, getElem?_eq_getElem → aXT, not_mem_nil → aXX, take_of_length_le → aXY, length_take → aYA, all_eq_true → aYF, getElem?_map → aYG, mem_map → aYH, getD_eq_getElem?_getD → aYK, map_append → aYN, drop_zero → aYO, getElem?_eq_some_iff → aYP, append_assoc → aYQ, take_length → aYS, getElem?_eq_none → aYT, map_cons → aYU, mem_range → aYV, getElem_of_mem → aYZ, length_cons → aZA, mem_append → aZC, range' → aZF, drop_eq_getElem_cons → aZG, getElem_map → aZH, length_drop → aZI, Sublist → aZJ, append_nil → aZK, length_set → aZM, map_nil → aZN, take_succ_eq_append_getElem → aZT, length_nil → aZV, mem_singleton → aZW, getElem?_append_right → aZY, nodup_append → aZZ, getElem?_append_left → a0C, mem_of_getElem? → a0D, take_append_drop → a0E, ext_getElem → a0K, set_append_right → a0L, getElem?_take → a0Q, drop_of_length_le → a0W, map_congr_left → a0X, set_cons_zero → a0Y, getElem_append_right → a1A
open Nat renaming gcd → aXJ, le_refl → aXL, mul_add → aXS, zero_le → aXU, lt_or_ge → aXZ, mul_assoc → aYC, zero_add → aYD, mul_comm → aYI, mul_le_mul_right → aYL, add_mul → aYM, mod_eq_of_lt → aYR, mod_lt → aYW, pow_succ → aZB, le_trans → aZD, add_assoc → aZO, add_zero → aZP, min_eq_left → aZQ, mul_le_mul_left → aZR, pos_of_ne_zero → aZU, eq_zero_or_pos → aZX, pow_pos → a0A, div_le_self → a0F, succ_mul → a0G, div_lt_iff_lt_mul → a0H, mul_le_mul → a0O, div_add_mod → a0R, div_eq_of_lt → a0S, pow_le_pow_right → a0Z
open Option renaming map_eq_some_iff → aXO, map_some → aYX, some → aZS, getD_some → a0I, bind_eq_some_iff → a0T, bind_some → a0U
open Bool renaming false_and → aXV, not_true → aXW, and_eq_true → aYB, true_and → aYE, not_false → aYJ, and_false → aYY, and_true → a0B, false_eq_true → a0N
open Array renaming replicate → aZE, length_toList → a0J, getElem?_eq_some_iff → a0M, getElem?_eq_getElem → a0P, getD_eq_getD_getElem? → a0V
open Int renaming toNat_natCast → aZL
namespace Go.PM
open Go
attribute [go_sem] List.getElem?_cons_succ List.getElem?_cons_zero and_self and_true true_and or_true true_or or_false false_or aXW aYJ aYX a0U if_true if_false aZA aZV List.drop_succ_cons aYO List.take_succ_cons List.take_zero aYU aZN aZS.injEq PV.bool.injEq PV.int.injEq aN PV.bin
@[go_sem] theorem aML (k:IntKind) (a b:Int):kA .add k a b=some (.int k (k.wrap (a+b))):=(rfl)
@[go_sem] theorem aMV (k:IntKind) (a b:Int):kA .sub k a b=some (.int k (k.wrap (a-b))):=(rfl)
@[go_sem] theorem aMR (k:IntKind) (a b:Int):kA .mul k a b=some (.int k (k.wrap (a*b))):=(rfl)
@[go_sem] theorem aMT (k:IntKind) (a b:Int):kA .quo k a b=if b=0 then none else some (.int k (k.wrap (a.tdiv b))):=(rfl)
@[go_sem] theorem aMU (k:IntKind) (a b:Int):kA .rem k a b=if b=0 then none else some (.int k (a.tmod b)):=(rfl)
@[go_sem] theorem aMM (k:IntKind) (a b:Int):kA .eql k a b=some (.bool (a==b)):=(rfl)
@[go_sem] theorem aMS (k:IntKind) (a b:Int):kA .neq k a b=some (.bool (a != b)):=(rfl)
@[go_sem] theorem aMQ (k:IntKind) (a b:Int):kA .lss k a b=some (.bool (decide (a<b))):=(rfl)
@[go_sem] theorem aMP (k:IntKind) (a b:Int):kA .leq k a b=some (.bool (decide (a≤b))):=(rfl)
@[go_sem] theorem aMO (k:IntKind) (a b:Int):kA .gtr k a b=some (.bool (decide (a>b))):=(rfl)
@[go_sem] theorem aMN (k:IntKind) (a b:Int):kA .geq k a b=some (.bool (decide (a≥b))):=(rfl)
section
variable {C:Ctx} {K:bT} {F:PF} {H:PH}
@[go_sem] theorem aUE:aA.wp C .skip K F H=K .normal F H:=(rfl)
@[go_sem] theorem aOL (ops:List aR):aA.wp C (.region ops) K F H=wpOps C ops (K .normal) F H:=(rfl)
@[go_sem] theorem jo (a b:aA):aA.wp C (.seq a b) K F H=a.wp C (fZ C (b.wp C) K) F H:=(rfl)
@[go_sem] theorem aPV (id:Nat) (c:aA):aA.wp C (.block id c) K F H=c.wp C (fG id K) F H:=(rfl)
@[go_sem] theorem aUD (id:Nat):aA.wp C (.exit id) K F H=K (.exit id) F H:=(rfl)
@[go_sem] theorem aUP:aA.wp C .ret K F H=K .ret F H:=(rfl)
def OE (C:Ctx) (v:Option PV) (a b:aA) (K:bT) (F:PF) (H:PH):Prop :=
 match v with
 | some (.bool t)=>if t then a.wp C K F H else b.wp C K F H
 | _=>False
@[go_sem] theorem axM (c:aO) (a b:aA):aA.wp C (.cond c a b) K F H=OE C (c.ev F) a b K F H:=(rfl)
@[go_sem] theorem aNA (a b:aA):OE C (some (.bool true)) a b K F H=a.wp C K F H:=(rfl)
@[go_sem] theorem aLL (a b:aA):OE C (some (.bool false)) a b K F H=b.wp C K F H:=(rfl)
theorem apU {t:Bool} {a b:aA} (i:t=true→a.wp C K F H) (l:t=false→b.wp C K F H):OE C (some (.bool t)) a b K F H:=by
 cases t
 ·exact l rfl
 ·exact i rfl
@[go_sem] theorem aLT (w:bT→PF→PH→Prop):fZ C w K .normal F H=w K F H:=(rfl)
@[go_sem] theorem aKF (w:bT→PF→PH→Prop):fZ C w K .normal=w K:=(rfl)
@[go_sem] theorem aPI (w:bT→PF→PH→Prop) (id:Nat):fZ C w K (.exit id)=K (.exit id):=(rfl)
@[go_sem] theorem aTU (w:bT→PF→PH→Prop):fZ C w K .ret=K .ret:=(rfl)
@[go_sem] theorem aHV (id:Nat):fG id K .normal=K .normal:=(rfl)
@[go_sem] theorem aMY (id:Nat):fG id K .ret=K .ret:=(rfl)
@[go_sem] theorem yM (id i:Nat):fG id K (.exit i) F H=if i=id then K .normal F H else K (.exit i) F H:=(rfl)
@[go_sem] theorem aOJ (K:PF→PH→Prop):wpOps C [] K F H=K F H:=(rfl)
@[go_sem] theorem aOK (d:Option Nat) (op:POp) (rest:List aR) (K:PF→PH→Prop):wpOps C (⟨d,op,none⟩::rest) K F H=wpOp C op d (wpOps C rest K) F H:=(rfl)
def tA (C:Ctx) (v:Option PV) (i:Bool) (op:POp) (d:Option Nat) (rest:List aR) (K:PF→PH→Prop) (F:PF) (H:PH):Prop :=
 match v with
 | some (.bool b)=>if b=i then wpOp C op d (wpOps C rest K) F H else wpOps C rest K (F.put d (.tup [])) H
 | some (.tup [])=>wpOps C rest K (F.put d (.tup [])) H
 | _=>False
@[go_sem] theorem Le (d:Option Nat) (op:POp) (t:Nat) (i:Bool) (rest:List aR) (K:PF→PH→Prop) :
  wpOps C (⟨d,op,some (t,i)⟩::rest) K F H=tA C (F t) i op d rest K F H:=(rfl)
@[go_sem] theorem aPE (op:POp) (d:Option Nat) (rest:List aR) (K:PF→PH→Prop):tA C (some (.bool true)) true op d rest K F H=wpOp C op d (wpOps C rest K) F H:=(rfl)
@[go_sem] theorem aPB (op:POp) (d:Option Nat) (rest:List aR) (K:PF→PH→Prop):tA C (some (.bool false)) false op d rest K F H=wpOp C op d (wpOps C rest K) F H:=(rfl)
@[go_sem] theorem aPD (op:POp) (d:Option Nat) (rest:List aR) (K:PF→PH→Prop):tA C (some (.bool true)) false op d rest K F H=wpOps C rest K (F.put d (.tup [])) H:=(rfl)
@[go_sem] theorem aPC (op:POp) (d:Option Nat) (rest:List aR) (K:PF→PH→Prop):tA C (some (.bool false)) true op d rest K F H=wpOps C rest K (F.put d (.tup [])) H:=(rfl)
@[go_sem] theorem aLQ (i:Bool) (op:POp) (d:Option Nat) (rest:List aR) (K:PF→PH→Prop):tA C (some (.tup [])) i op d rest K F H=wpOps C rest K (F.put d (.tup [])) H:=(rfl)
@[go_sem] theorem aQY (d:Nat) (v:PV):F.put (some d) v=F.set d v:=(rfl)
@[go_sem] theorem aQX (v:PV):F.put none v=F:=(rfl)
@[go_sem] theorem jM (i j:Nat) (v:PV):(F.set i v) j=if j=i then some v else F j:=(rfl)
@[go_sem] theorem args_at (vs:List PV) (i:Nat):PF.args vs i=vs[i]?:=(rfl)
@[go_sem] theorem aUU (i:Nat):PF.nil i=none:=(rfl)
@[go_sem] theorem YB (t:Nat):(aO.tmp t).ev F=F t:=(rfl)
@[go_sem] theorem aQM (v:PV):(aO.const v).ev F=some v:=(rfl)
@[go_sem] theorem aQ (i j:Nat) (x:bX):(H.set i x) j=if j=i then some x else H j:=(rfl)
@[go_sem] theorem OO (i:Nat):PH.nil i=none:=(rfl)
@[go_sem] theorem OH:aO.evs F []=some []:=(rfl)
@[go_sem] theorem wD (x:aO) (xs:List aO):aO.evs F (x::xs)=(match x.ev F,aO.evs F xs with | some v,some vs=>some (v::vs) | _,_=>none):=(rfl)
theorem gD {i j:Nat} {x:bX}:(H.set i x) j=none↔j≠i∧H j=none:=by
 rw[aQ];split<;>simp_all
@[go_sem] theorem aLU (v:PV) (d:Option Nat) (K:PF→PH→Prop):bN (some v) d K F H=K (F.put d v) H:=by
 simp[bN]
theorem aT {mk:Nat→PV} {x:bX} {d:Option Nat} {K:PF→PH→Prop} (h:∀ o,H o=none→K (F.put d (mk o)) (H.set o x)):lL (some (mk,x)) d K F H:=⟨mk,x,rfl,h⟩
@[go_sem] theorem aUN (x:aO) (d:Option Nat) (K:PF→PH→Prop):wpOp C (.mv x) d K F H=bN (aN (.mv x) F H) d K F H:=(rfl)
@[go_sem] theorem aPU (x:aO) (d:Option Nat) (K:PF→PH→Prop):wpOp C (.same x) d K F H=bN (aN (.same x) F H) d K F H:=(rfl)
@[go_sem] theorem aPT (c a b:aO) (d:Option Nat) (K:PF→PH→Prop):wpOp C (.pick c a b) d K F H=bN (aN (.pick c a b) F H) d K F H:=(rfl)
@[go_sem] theorem aTY (o:BinOp) (x y:aO) (d:Option Nat) (K:PF→PH→Prop):wpOp C (.bin o x y) d K F H=bN (aN (.bin o x y) F H) d K F H:=(rfl)
@[go_sem] theorem aUA (n:Bool) (x y:aO) (d:Option Nat) (K:PF→PH→Prop):wpOp C (.eqb n x y) d K F H=bN (aN (.eqb n x y) F H) d K F H:=(rfl)
@[go_sem] theorem aUB (n:Bool) (i:List Sc) (x y:aO) (d:Option Nat) (K:PF→PH→Prop):wpOp C (.eqs n i x y) d K F H=bN (aN (.eqs n i x y) F H) d K F H:=(rfl)
@[go_sem] theorem aUO (o:UnOp) (x:aO) (d:Option Nat) (K:PF→PH→Prop):wpOp C (.un o x) d K F H=bN (aN (.un o x) F H) d K F H:=(rfl)
@[go_sem] theorem aPM (k:IntKind) (x:aO) (d:Option Nat) (K:PF→PH→Prop):wpOp C (.conv k x) d K F H=bN (aN (.conv k x) F H) d K F H:=(rfl)
@[go_sem] theorem aOC (z:List PV) (ps:List (Nat × Nat × aO)) (d:Option Nat) (K:PF→PH→Prop):wpOp C (.build z ps) d K F H=bN (aN (.build z ps) F H) d K F H:=(rfl)
@[go_sem] theorem aPR (n:Option Nat) (p:aO) (d:Option Nat) (K:PF→PH→Prop):wpOp C (.load n p) d K F H=bN (aN (.load n p) F H) d K F H:=(rfl)
@[go_sem] theorem aMF (x:aO) (d:Option Nat) (K:PF→PH→Prop):wpOp C (.aWL x) d K F H=bN (aN (.aWL x) F H) d K F H:=(rfl)
@[go_sem] theorem aLY (off:Nat) (x:aO) (d:Option Nat) (K:PF→PH→Prop):wpOp C (.aXB off x) d K F H=bN (aN (.aXB off x) F H) d K F H:=(rfl)
@[go_sem] theorem aOE (off:Nat) (n:Option Nat) (x:aO) (d:Option Nat) (K:PF→PH→Prop):wpOp C (.field off n x) d K F H=bN (aN (.field off n x) F H) d K F H:=(rfl)
@[go_sem] theorem aPO (s:Nat) (x i:aO) (d:Option Nat) (K:PF→PH→Prop):wpOp C (.aWP s x i) d K F H=bN (aN (.aWP s x i) F H) d K F H:=(rfl)
@[go_sem] theorem aPN (n s:Nat) (x i:aO) (d:Option Nat) (K:PF→PH→Prop):wpOp C (.idxA n s x i) d K F H=bN (aN (.idxA n s x i) F H) d K F H:=(rfl)
@[go_sem] theorem aPP (n s:Nat) (g:Bool) (x i:aO) (d:Option Nat) (K:PF→PH→Prop):wpOp C (.idxV n s g x i) d K F H=bN (aN (.idxV n s g x i) F H) d K F H:=(rfl)
@[go_sem] theorem aLZ (x i:aO) (d:Option Nat) (K:PF→PH→Prop):wpOp C (.aWZ x i) d K F H=bN (aN (.aWZ x i) F H) d K F H:=(rfl)
@[go_sem] theorem aOH (s:Nat) (x:aO) (lo hi mx:Option aO) (d:Option Nat) (K:PF→PH→Prop):wpOp C (.slice s x lo hi mx) d K F H=bN (aN (.slice s x lo hi mx) F H) d K F H:=(rfl)
@[go_sem] theorem aMG (n s:Nat) (x:aO) (lo hi mx:Option aO) (d:Option Nat) (K:PF→PH→Prop):wpOp C (.sliceA n s x lo hi mx) d K F H=bN (aN (.sliceA n s x lo hi mx) F H) d K F H:=(rfl)
@[go_sem] theorem aHY (x:aO) (lo hi:Option aO) (d:Option Nat) (K:PF→PH→Prop):wpOp C (.aWV x lo hi) d K F H=bN (aN (.aWV x lo hi) F H) d K F H:=(rfl)
@[go_sem] theorem aPF:PV.qX .aB=some (.int .i64 0):=(rfl)
@[go_sem] theorem aUM (s:Nat) (rows:List (List PV)):PV.qX (.sl s rows)=some (.int .i64 rows.length):=(rfl)
@[go_sem] theorem aQU (o s off n:Nat):PV.qX (.osl o s off n)=some (.int .i64 n):=(rfl)
@[go_sem] theorem aUC (x:aO) (d:Option Nat) (K:PF→PH→Prop):wpOp C (.len x) d K F H=bN (aN (.len x) F H) d K F H:=(rfl)
@[go_sem] theorem aMB (x:aO) (d:Option Nat) (K:PF→PH→Prop):wpOp C (.aWY x) d K F H=bN (aN (.aWY x) F H) d K F H:=(rfl)
@[go_sem] theorem aPQ (x:aO) (d:Option Nat) (K:PF→PH→Prop):wpOp C (.lenM x) d K F H=bN (aN (.lenM x) F H) d K F H:=(rfl)
@[go_sem] theorem aOF (n:Bool) (x:aO) (d:Option Nat) (K:PF→PH→Prop):wpOp C (.isNil n x) d K F H=bN (aN (.isNil n x) F H) d K F H:=(rfl)
@[go_sem] theorem aLS:PV.BA .aB=some true:=(rfl)
@[go_sem] theorem aNP (o s off len:Nat):PV.BA (.osl o s off len)=some false:=(rfl)
@[go_sem] theorem aLR (s:Nat) (r:List PV) (rs:List (List PV)):PV.BA (.sl s (r::rs))=some false:=(rfl)
@[go_sem] theorem aLX (x:aO) (d:Option Nat) (K:PF→PH→Prop):wpOp C (.aXH x) d K F H=bN (aN (.aXH x) F H) d K F H:=(rfl)
@[go_sem] theorem aLD (x:aO) (i:Nat) (d:Option Nat) (K:PF→PH→Prop):wpOp C (.extract x i) d K F H=bN (aN (.extract x i) F H) d K F H:=(rfl)
@[go_sem] theorem aME (m:Bool) (x y:aO) (d:Option Nat) (K:PF→PH→Prop):wpOp C (.aWT m x y) d K F H=bN (aN (.aWT m x y) F H) d K F H:=(rfl)
@[go_sem] theorem aPS (n:Nat) (cs:List aO) (d:Option Nat) (K:PF→PH→Prop):wpOp C (.mkfn n cs) d K F H=bN (aN (.mkfn n cs) F H) d K F H:=(rfl)
@[go_sem] theorem aMC (sh:MSh) (z:PV) (x k:aO) (ok:Bool) (d:Option Nat) (K:PF→PH→Prop):wpOp C (.lookup sh z x k ok) d K F H=bN (aN (.lookup sh z x k ok) F H) d K F H:=(rfl)
@[go_sem] theorem aGV (x:aO) (d:Option Nat) (K:PF→PH→Prop):wpOp C (.aWM x) d K F H=bN (aN (.aWM x) F H) d K F H:=(rfl)
@[go_sem] theorem aPK (x:aO) (d:Option Nat) (K:PF→PH→Prop):wpOp C (.box true x) d K F H=bN (aN (.box true x) F H) d K F H:=(rfl)
@[go_sem] theorem aLC (s l:Nat) (z:List PV) (ps:List (Nat × aO)) (d:Option Nat) (K:PF→PH→Prop):wpOp C (.aWF true s l z ps) d K F H=bN (aN (.aWF true s l z ps) F H) d K F H:=(rfl)
@[go_sem] theorem aOB (cs:List PV) (d:Option Nat) (K:PF→PH→Prop):wpOp C (.alloc cs) d K F H=lL (cL (.alloc cs) F) d K F H:=(rfl)
@[go_sem] theorem aLE (s b:Nat) (z:List PV) (l c:aO) (d:Option Nat) (K:PF→PH→Prop):wpOp C (.aWH s b z l c) d K F H=lL (cL (.aWH s b z l c) F) d K F H:=(rfl)
@[go_sem] theorem aOG (sh:MSh) (d:Option Nat) (K:PF→PH→Prop):wpOp C (.aXE sh) d K F H=lL (cL (.aXE sh) F) d K F H:=(rfl)
@[go_sem] theorem aTZ (x:aO) (d:Option Nat) (K:PF→PH→Prop):wpOp C (.box false x) d K F H=lL (cL (.box false x) F) d K F H:=(rfl)
@[go_sem] theorem aLW (s l:Nat) (z:List PV) (ps:List (Nat × aO)) (d:Option Nat) (K:PF→PH→Prop):wpOp C (.aWF false s l z ps) d K F H=lL (cL (.aWF false s l z ps) F) d K F H:=(rfl)
@[go_sem] theorem aOI (n:Nat) (p x:aO) (d:Option Nat) (K:PF→PH→Prop):wpOp C (.store n p x) d K F H=bS (.store n p x) F H (fun r H'=>K (F.put d r) H'):=(rfl)
@[go_sem] theorem aLV (s b:Nat) (x y:aO) (d:Option Nat) (K:PF→PH→Prop):wpOp C (.append s b x y) d K F H=bS (.append s b x y) F H (fun r H'=>K (F.put d r) H'):=(rfl)
@[go_sem] theorem aMD (sh:MSh) (x k v:aO) (d:Option Nat) (K:PF→PH→Prop):wpOp C (.aWQ sh x k v) d K F H=bS (.aWQ sh x k v) F H (fun r H'=>K (F.put d r) H'):=(rfl)
@[go_sem] theorem aMA (sh:MSh) (x k v:aO) (d:Option Nat) (K:PF→PH→Prop):wpOp C (.insert sh x k v) d K F H=bS (.insert sh x k v) F H (fun r H'=>K (F.put d r) H'):=(rfl)
@[go_sem] theorem aPL (n:Nat) (i:List aO) (d:Option Nat) (K:PF→PH→Prop):wpOp C (.call n i) d K F H=gY C n i [] d K F H:=(rfl)
@[go_sem] theorem aOD (x:aO) (i:List aO) (d:Option Nat) (K:PF→PH→Prop):wpOp C (.aXA x i) d K F H=sI C (x.ev F) i d K F H:=(rfl)
@[go_sem] theorem aOA (n:Nat) (cs:List PV) (i:List aO) (d:Option Nat) (K:PF→PH→Prop):sI C (some (.fn n cs)) i d K F H=gY C n i cs d K F H:=(rfl)
theorem PF.nil_le:PF.nil.le F:=fun _ _ h=>(by cases h)
theorem PF.aJ {i:Nat} {v:PV} {G:PF} (p:F.le G) (J:G i=some v):(F.set i v).le G:=by
 intro j u l;rw[jM] at l;split at l
 ·rename_i e; subst e; cases l; exact J
 ·exact p _ _ l
theorem PF.le_refl:F.le F:=fun _ _ h=>h
theorem PH.nil_le:PH.nil.le H:=fun _ _ h=>(by cases h)
theorem PH.aJ {i:Nat} {x:bX} {G:PH} (p:H.le G) (J:G i=some x):(H.set i x).le G:=by
 intro j u l;rw[aQ] at l;split at l
 ·rename_i e; subst e; cases l; exact J
 ·exact p _ _ l
theorem PH.le_refl:H.le H:=fun _ _ h=>h
theorem wp_loop {c:aA} {α:Type} (i:α→PF) (Hs:α→PH) (l:α→Prop) (m:α→Nat) (p:α) (J:l p) (R:(i p).le F) (U:(Hs p).le H)
  (hb:∀ a,l a→c.wp C (jD i Hs l m (m a) K) (i a) (Hs a)):aA.wp C (.loop c) K F H :=
 ⟨α,i,Hs,l,m,p,F,H,.refl F H,J,R,U,hb⟩
theorem aM {α:Type} {i:α→PF} {Hs:α→PH} {l:α→Prop} {m:α→Nat} {n:Nat} (a:α) (p:l a) (U:m a<n) (J:(i a).le F) (R:(Hs a).le H):jD i Hs l m n K .normal F H :=
 ⟨a,F,H,.refl F H,p,U,J,R⟩
@[go_sem] theorem aNR {α:Type} {i:α→PF} {Hs:α→PH} {l:α→Prop} {m:α→Nat} {n:Nat} (id:Nat):jD i Hs l m n K (.exit id)=K (.exit id):=(rfl)
@[go_sem] theorem aPG {α:Type} {i:α→PF} {Hs:α→PH} {l:α→Prop} {m:α→Nat} {n:Nat}:jD i Hs l m n K .ret=K .ret:=(rfl)
def aL (v:PV) (r:PV) (H:PH):Prop:=r=v∧H=PH.nil
theorem PH.wQ:H.over .nil .nil=H:=PH.ext fun o=>rfl
theorem Ld {name:Nat} {vs cs:List PV} {v:PV} {args:List aO} {d:Option Nat} {K:PF→PH→Prop} (h:aH C name (vs++cs) .nil (aL v)) (i:aO.evs F args=some vs)
  (l:K (F.put d v) H):gY C name args cs d K F H:=by
 refine .inl ⟨vs++cs,.nil,_,by rw[i]; rfl,PH.nil_le,h,?_⟩;rintro r H' ⟨rfl,rfl⟩ _;rw[PH.wQ];exact l
theorem aC {name:Nat} {vs:List PV} {v:PV} {args:List aO} {d:Option Nat} {K:PF→PH→Prop} (h:aH C name vs .nil (aL v)) (i:aO.evs F args=some vs)
  (l:K (F.put d v) H):gY C name args [] d K F H:=Ld (cs:=[]) (by rw[aZK]; exact h) i l
theorem bV {res:List dN} {vs:List PV} {v:PV} {e:kL} (p:e=.normal∨e=.ret) (h:dN.evs F H res=some vs) (J:dB vs=v):aW res (aL v) e F H:=by
 have key:∃ vs,dN.evs F H res=some vs∧∃ i l H2,gT (PF.nil.set 0 (dB vs)) H i l∧H2.le l∧∃ u,i 0=some u∧aL v u H2 :=
  ⟨vs,h,_,H,.nil,.refl _ _,PH.nil_le,v,by rw[jM,if_pos rfl,J],rfl,rfl⟩
 rcases p with rfl | rfl<;>exact key
@[go_sem] theorem mN:dN.evs F H []=some []:=(rfl)
@[go_sem] theorem jI (x:dN) (xs:List dN):dN.evs F H (x::xs)=(match x.ev F H,dN.evs F H xs with | some v,some vs=>some (v::vs) | _,_=>none):=(rfl)
@[go_sem] theorem lP (t:Nat):dN.ev F H (.tmp t)=F t:=(rfl)
@[go_sem] theorem aTS (t:Nat):dN.ev F H (.cell t none)=(match F t with | some p=>(match loadCells H p 1 with | some [v]=>some v | _=>none) | none=>none):=(rfl)
@[go_sem] theorem aPH (t k:Nat):dN.ev F H (.cell t (some k))=(match F t with | some p=>(loadCells H p k).map .agg | none=>none):=(rfl)
end
section
variable {C:Ctx} {K:bT} {F:PF} {H Hs:PH} {S:Spec}
theorem cJ {ops:List (aR × Bool)} (Hs:PH) (S:Spec) (i:Hs.le H) (h:wpD C Hs S ops (K .normal) F H):aA.wp C (.draw ops) K F H:=⟨Hs,S,i,h⟩
def eU:Spec:=fun _ _=>none
def dOp (C:Ctx) (Hs:PH) (S:Spec) (st:Bool) (op:POp) (d:Option Nat) (K:PF→PH→Prop) (F:PF) (H:PH):Prop:=(op.kind F).run C Hs S st (fun v H'=>K (F.put d v) H') H
@[go_sem] theorem aTW (K:PF→PH→Prop):wpD C Hs S [] K F H=K F H:=(rfl)
@[go_sem] theorem aTX (d:Option Nat) (op:POp) (st:Bool) (rest:List (aR × Bool)) (K:PF→PH→Prop):wpD C Hs S ((⟨d,op,none⟩,st)::rest) K F H=dOp C Hs S st op d (wpD C Hs S rest K) F H:=(rfl)
def wI (C:Ctx) (Hs:PH) (S:Spec) (v:Option PV) (i st:Bool) (op:POp) (d:Option Nat) (rest:List (aR × Bool)) (K:PF→PH→Prop) (F:PF) (H:PH):Prop :=
 match v with
 | some (.bool b)=>if b=i then dOp C Hs S st op d (wpD C Hs S rest K) F H else wpD C Hs S rest K (F.put d (.tup [])) H
 | some (.tup [])=>wpD C Hs S rest K (F.put d (.tup [])) H
 | _=>False
@[go_sem] theorem aPJ (d:Option Nat) (op:POp) (t:Nat) (i st:Bool) (rest:List (aR × Bool)) (K:PF→PH→Prop) :
  wpD C Hs S ((⟨d,op,some (t,i)⟩,st)::rest) K F H=wI C Hs S (F t) i st op d rest K F H:=by
 have p:wpD C Hs S ((⟨d,op,some (t,i)⟩,st)::rest) K F H=((⟨d,op,some (t,i)⟩:aR).kind F).run C Hs S st (fun v H'=>wpD C Hs S rest K (F.put d v) H') H:=(rfl);rw[p];unfold aR.kind wI;simp only;cases F t with
 | none=>rfl
 | some v =>
  cases v
  case bool b =>
   simp only;by_cases l:b=i
   ·rw[if_pos l,if_pos l]; rfl
   ·rw[if_neg l,if_neg l]; simp[Kind.run]
  case tup vs=>cases vs<;>simp[Kind.run]
  all_goals rfl
@[go_sem] theorem aPA (op:POp) (st:Bool) (d:Option Nat) (rest:List (aR × Bool)) (K:PF→PH→Prop):wI C Hs S (some (.bool true)) true st op d rest K F H=dOp C Hs S st op d (wpD C Hs S rest K) F H:=(rfl)
@[go_sem] theorem aOX (op:POp) (st:Bool) (d:Option Nat) (rest:List (aR × Bool)) (K:PF→PH→Prop):wI C Hs S (some (.bool false)) false st op d rest K F H=dOp C Hs S st op d (wpD C Hs S rest K) F H:=(rfl)
@[go_sem] theorem aOZ (op:POp) (st:Bool) (d:Option Nat) (rest:List (aR × Bool)) (K:PF→PH→Prop):wI C Hs S (some (.bool true)) false st op d rest K F H=wpD C Hs S rest K (F.put d (.tup [])) H:=(rfl)
@[go_sem] theorem aOY (op:POp) (st:Bool) (d:Option Nat) (rest:List (aR × Bool)) (K:PF→PH→Prop):wI C Hs S (some (.bool false)) true st op d rest K F H=wpD C Hs S rest K (F.put d (.tup [])) H:=(rfl)
@[go_sem] theorem aLP (i:Bool) (op:POp) (st:Bool) (d:Option Nat) (rest:List (aR × Bool)) (K:PF→PH→Prop):wI C Hs S (some (.tup [])) i st op d rest K F H=wpD C Hs S rest K (F.put d (.tup [])) H:=(rfl)
@[go_sem] theorem aUQ (x:aO) (st:Bool) (d:Option Nat) (K:PF→PH→Prop):dOp C Hs S st (.mv x) d K F H=bN (aN (.mv x) F (if st then Hs else H)) d K F H:=(rfl)
@[go_sem] theorem aQL (x:aO) (st:Bool) (d:Option Nat) (K:PF→PH→Prop):dOp C Hs S st (.same x) d K F H=bN (aN (.same x) F (if st then Hs else H)) d K F H:=(rfl)
@[go_sem] theorem aQK (c a b:aO) (st:Bool) (d:Option Nat) (K:PF→PH→Prop):dOp C Hs S st (.pick c a b) d K F H=bN (aN (.pick c a b) F (if st then Hs else H)) d K F H:=(rfl)
@[go_sem] theorem aUF (o:BinOp) (x y:aO) (st:Bool) (d:Option Nat) (K:PF→PH→Prop):dOp C Hs S st (.bin o x y) d K F H=bN (aN (.bin o x y) F (if st then Hs else H)) d K F H:=(rfl)
@[go_sem] theorem aUH (n:Bool) (x y:aO) (st:Bool) (d:Option Nat) (K:PF→PH→Prop):dOp C Hs S st (.eqb n x y) d K F H=bN (aN (.eqb n x y) F (if st then Hs else H)) d K F H:=(rfl)
@[go_sem] theorem aUI (n:Bool) (i:List Sc) (x y:aO) (st:Bool) (d:Option Nat) (K:PF→PH→Prop):dOp C Hs S st (.eqs n i x y) d K F H=bN (aN (.eqs n i x y) F (if st then Hs else H)) d K F H:=(rfl)
@[go_sem] theorem aUR (o:UnOp) (x:aO) (st:Bool) (d:Option Nat) (K:PF→PH→Prop):dOp C Hs S st (.un o x) d K F H=bN (aN (.un o x) F (if st then Hs else H)) d K F H:=(rfl)
@[go_sem] theorem aQD (k:IntKind) (x:aO) (st:Bool) (d:Option Nat) (K:PF→PH→Prop):dOp C Hs S st (.conv k x) d K F H=bN (aN (.conv k x) F (if st then Hs else H)) d K F H:=(rfl)
@[go_sem] theorem aOO (z:List PV) (ps:List (Nat × Nat × aO)) (st:Bool) (d:Option Nat) (K:PF→PH→Prop):dOp C Hs S st (.build z ps) d K F H=bN (aN (.build z ps) F (if st then Hs else H)) d K F H:=(rfl)
@[go_sem] theorem aQI (n:Option Nat) (p:aO) (st:Bool) (d:Option Nat) (K:PF→PH→Prop):dOp C Hs S st (.load n p) d K F H=bN (aN (.load n p) F (if st then Hs else H)) d K F H:=(rfl)
@[go_sem] theorem aNK (x:aO) (st:Bool) (d:Option Nat) (K:PF→PH→Prop):dOp C Hs S st (.aWL x) d K F H=bN (aN (.aWL x) F (if st then Hs else H)) d K F H:=(rfl)
@[go_sem] theorem aNE (off:Nat) (x:aO) (st:Bool) (d:Option Nat) (K:PF→PH→Prop):dOp C Hs S st (.aXB off x) d K F H=bN (aN (.aXB off x) F (if st then Hs else H)) d K F H:=(rfl)
@[go_sem] theorem aOP (off:Nat) (n:Option Nat) (x:aO) (st:Bool) (d:Option Nat) (K:PF→PH→Prop):dOp C Hs S st (.field off n x) d K F H=bN (aN (.field off n x) F (if st then Hs else H)) d K F H:=(rfl)
@[go_sem] theorem aQF (s:Nat) (x i:aO) (st:Bool) (d:Option Nat) (K:PF→PH→Prop):dOp C Hs S st (.aWP s x i) d K F H=bN (aN (.aWP s x i) F (if st then Hs else H)) d K F H:=(rfl)
@[go_sem] theorem aQE (n s:Nat) (x i:aO) (st:Bool) (d:Option Nat) (K:PF→PH→Prop):dOp C Hs S st (.idxA n s x i) d K F H=bN (aN (.idxA n s x i) F (if st then Hs else H)) d K F H:=(rfl)
@[go_sem] theorem aQG (n s:Nat) (g:Bool) (x i:aO) (st:Bool) (d:Option Nat) (K:PF→PH→Prop):dOp C Hs S st (.idxV n s g x i) d K F H=bN (aN (.idxV n s g x i) F (if st then Hs else H)) d K F H:=(rfl)
@[go_sem] theorem aNF (x i:aO) (st:Bool) (d:Option Nat) (K:PF→PH→Prop):dOp C Hs S st (.aWZ x i) d K F H=bN (aN (.aWZ x i) F (if st then Hs else H)) d K F H:=(rfl)
@[go_sem] theorem aOS (s:Nat) (x:aO) (lo hi mx:Option aO) (st:Bool) (d:Option Nat) (K:PF→PH→Prop):dOp C Hs S st (.slice s x lo hi mx) d K F H=bN (aN (.slice s x lo hi mx) F (if st then Hs else H)) d K F H:=(rfl)
@[go_sem] theorem aIR (x:aO) (lo hi:Option aO) (st:Bool) (d:Option Nat) (K:PF→PH→Prop):dOp C Hs S st (.aWV x lo hi) d K F H=bN (aN (.aWV x lo hi) F (if st then Hs else H)) d K F H:=(rfl)
@[go_sem] theorem aUJ (x:aO) (st:Bool) (d:Option Nat) (K:PF→PH→Prop):dOp C Hs S st (.len x) d K F H=bN (aN (.len x) F (if st then Hs else H)) d K F H:=(rfl)
@[go_sem] theorem aNG (x:aO) (st:Bool) (d:Option Nat) (K:PF→PH→Prop):dOp C Hs S st (.aWY x) d K F H=bN (aN (.aWY x) F (if st then Hs else H)) d K F H:=(rfl)
@[go_sem] theorem aQH (x:aO) (st:Bool) (d:Option Nat) (K:PF→PH→Prop):dOp C Hs S st (.lenM x) d K F H=bN (aN (.lenM x) F (if st then Hs else H)) d K F H:=(rfl)
@[go_sem] theorem aOQ (n:Bool) (x:aO) (st:Bool) (d:Option Nat) (K:PF→PH→Prop):dOp C Hs S st (.isNil n x) d K F H=bN (aN (.isNil n x) F (if st then Hs else H)) d K F H:=(rfl)
@[go_sem] theorem aND (x:aO) (st:Bool) (d:Option Nat) (K:PF→PH→Prop):dOp C Hs S st (.aXH x) d K F H=bN (aN (.aXH x) F (if st then Hs else H)) d K F H:=(rfl)
@[go_sem] theorem aLN (x:aO) (i:Nat) (st:Bool) (d:Option Nat) (K:PF→PH→Prop):dOp C Hs S st (.extract x i) d K F H=bN (aN (.extract x i) F (if st then Hs else H)) d K F H:=(rfl)
@[go_sem] theorem aNJ (m:Bool) (x y:aO) (st:Bool) (d:Option Nat) (K:PF→PH→Prop):dOp C Hs S st (.aWT m x y) d K F H=bN (aN (.aWT m x y) F (if st then Hs else H)) d K F H:=(rfl)
@[go_sem] theorem aQJ (n:Nat) (cs:List aO) (st:Bool) (d:Option Nat) (K:PF→PH→Prop):dOp C Hs S st (.mkfn n cs) d K F H=bN (aN (.mkfn n cs) F (if st then Hs else H)) d K F H:=(rfl)
@[go_sem] theorem aNH (sh:MSh) (z:PV) (x k:aO) (ok:Bool) (st:Bool) (d:Option Nat) (K:PF→PH→Prop):dOp C Hs S st (.lookup sh z x k ok) d K F H=bN (aN (.lookup sh z x k ok) F (if st then Hs else H)) d K F H:=(rfl)
@[go_sem] theorem aHX (x:aO) (st:Bool) (d:Option Nat) (K:PF→PH→Prop):dOp C Hs S st (.aWM x) d K F H=bN (aN (.aWM x) F (if st then Hs else H)) d K F H:=(rfl)
@[go_sem] theorem aQC (x:aO) (st:Bool) (d:Option Nat) (K:PF→PH→Prop):dOp C Hs S st (.box true x) d K F H=bN (aN (.box true x) F (if st then Hs else H)) d K F H:=(rfl)
@[go_sem] theorem aLM (s l:Nat) (z:List PV) (ps:List (Nat × aO)) (st:Bool) (d:Option Nat) (K:PF→PH→Prop):dOp C Hs S st (.aWF true s l z ps) d K F H=bN (aN (.aWF true s l z ps) F (if st then Hs else H)) d K F H:=(rfl)
@[go_sem] theorem aON (cs:List PV) (st:Bool) (d:Option Nat) (K:PF→PH→Prop):dOp C Hs S st (.alloc cs) d K F H=lL (cL (.alloc cs) F) d K F H:=(rfl)
@[go_sem] theorem aLO (s b:Nat) (z:List PV) (l c:aO) (st:Bool) (d:Option Nat) (K:PF→PH→Prop):dOp C Hs S st (.aWH s b z l c) d K F H=lL (cL (.aWH s b z l c) F) d K F H:=(rfl)
@[go_sem] theorem aOR (sh:MSh) (st:Bool) (d:Option Nat) (K:PF→PH→Prop):dOp C Hs S st (.aXE sh) d K F H=lL (cL (.aXE sh) F) d K F H:=(rfl)
@[go_sem] theorem aUG (x:aO) (st:Bool) (d:Option Nat) (K:PF→PH→Prop):dOp C Hs S st (.box false x) d K F H=lL (cL (.box false x) F) d K F H:=(rfl)
@[go_sem] theorem aNC (s l:Nat) (z:List PV) (ps:List (Nat × aO)) (st:Bool) (d:Option Nat) (K:PF→PH→Prop):dOp C Hs S st (.aWF false s l z ps) d K F H=lL (cL (.aWF false s l z ps) F) d K F H:=(rfl)
@[go_sem] theorem aOT (n:Nat) (p x:aO) (st:Bool) (d:Option Nat) (K:PF→PH→Prop):dOp C Hs S st (.store n p x) d K F H=bS (.store n p x) F H (fun r H'=>Hs.le H'∧K (F.put d r) H'):=(rfl)
@[go_sem] theorem aNB (s b:Nat) (x y:aO) (st:Bool) (d:Option Nat) (K:PF→PH→Prop):dOp C Hs S st (.append s b x y) d K F H=bS (.append s b x y) F H (fun r H'=>Hs.le H'∧K (F.put d r) H'):=(rfl)
@[go_sem] theorem aNI (sh:MSh) (x k v:aO) (st:Bool) (d:Option Nat) (K:PF→PH→Prop):dOp C Hs S st (.aWQ sh x k v) d K F H=bS (.aWQ sh x k v) F H (fun r H'=>Hs.le H'∧K (F.put d r) H'):=(rfl)
theorem FS:H.only []=PH.nil:=PH.ext fun o=>by simp[PH.only,PH.nil]
theorem cW {name:Nat} {vs:List PV} {v:PV} {args:List aO} {st:Bool} {d:Option Nat} {K:PF→PH→Prop} (l:S name vs=some ([],fun _=>aL v)) (h:aH C name vs .nil (aL v)) (p:aO.evs F args=some vs)
  (i:Hs.le H) (J:K (F.put d v) H):dOp C Hs S st (.call name args) d K F H:=by
 refine⟨vs,[],fun _=>aL v,p,l,fun o R=>by simp at R,by rw[FS]; exact h,fun G=>⟨v,.nil,⟨rfl,rfl⟩,fun o x U=>by simp[PH.nil] at U⟩,?_⟩;rintro r H' ⟨rfl,rfl⟩ -;rw[FS,PH.wQ];exact⟨i,J⟩
end
theorem wrap_i64 {n:Int} (i:-9223372036854775808≤n) (l:n≤9223372036854775807):IntKind.i64.wrap n=n:=by
 have e:IntKind.i64.wrap n=if decide (n%18446744073709551616≥9223372036854775808)=true then n%18446744073709551616-18446744073709551616 else n%18446744073709551616:=by simp[IntKind.wrap,IntKind.bits,IntKind.signed]
 rw[e];split
 ·rename_i h; simp only[decide_eq_true_eq] at h; omega
 ·rename_i h; simp only[decide_eq_true_eq] at h; omega
theorem VO {k:Nat} (h:k≤9223372036854775807):IntKind.i64.wrap (k:Int)=k:=wrap_i64 Om Om
theorem cP {k:Nat} (h:k<9223372036854775807):IntKind.i64.wrap ((k:Int)+1)=((k+1:Nat):Int):=by
 rw[wrap_i64 Om Om]; omega
theorem wZz (k:Nat) (h:k<9223372036854775807:=by omega):IntKind.i64.wrap ((k:Int)+1)=((k+1:Nat):Int):=cP h
theorem wrap_u64 {n:Int} (i:0≤n) (l:n<18446744073709551616):IntKind.u64.wrap n=n:=by
 have e:IntKind.u64.wrap n=n%18446744073709551616:=by simp[IntKind.wrap,IntKind.bits,IntKind.signed]
 rw[e]; omega
abbrev ints (xs:List Int):PV:=.sl 1 (xs.map fun n=>[.int .i64 n])
open Go Go.RowKit
inductive CT where
 | int (k:IntKind)
 | bool
 | str
 | sl (es:List CT)
 deriving Inhabited
def pA (P:Program) (rec:TypeId→Option (List CT)):Nat→List Field→Option (List CT)
 | _,[]=>some []
 | k,f::i=>match rec f.type with
  | some cts=>if f.offset=k∧P.cellsOf f.type=cts.length then (pA P rec (k+cts.length) i).map (cts++·) else none
  | none=>none
def fO (P:Program):Nat→TypeId→Option (List CT)
 | 0,_=>none
 | n+1,t=>match P.underlying t with
  | some .bool=>some [.bool]
  | some (.int k)=>some [.int k]
  | some .string=>some [.str]
  | some (.slice e)=>match fO P n e with
   | some cts=>if P.cellsOf e=cts.length∧0<cts.length then some [.sl cts] else none
   | none=>none
  | some (.struct i)=>match pA P (fO P n) 0 i.toList with
   | some cts=>if P.cellsOf t=cts.length then some cts else none
   | none=>none
  | some (.array k e)=>match fO P n e with
   | some cts=>if P.cellsOf e=cts.length∧P.cellsOf t=k*cts.length then some (aXK k cts).flatten else none
   | none=>none
  | _=>none
inductive PV.Ty:CT→PV→Prop
 | int {k:IntKind} {n:Int} (h:(Lit.int k n).wf=true):PV.Ty (.int k) (.int k n)
 | bool (b:Bool):PV.Ty .bool (.bool b)
 | str {s:List UInt8} (h:s.length≤maxLen):PV.Ty .str (.str s)
 | sl {es:List CT} {rows:List (List PV)} (hr:∀ r∈rows,r.length=es.length) (hl:rows.length≤maxLen) (h:∀ (i j:Nat) pv ct,at2 rows i j=some pv→es[j]?=some ct→PV.Ty ct pv):PV.Ty (.sl es) (.sl es.length rows)
def Env.of (W:World) (num:Nat→FuncId):Env:=⟨fun b=>match W.heap[b]? with | some (.cells cs _ _)=>some cs | _=>none,fun _=>none,num⟩
theorem bE.start (W:World) (num:Nat→FuncId):bE (Env.of W num) PH.nil W:=by
 refine⟨fun b cs i=>⟨fun x l=>(by cases l),?_⟩,fun o x l=>(by cases l),fun o n h=>(by cases h)⟩;simp only[Env.of] at i;split at i
 ·rename_i c ty p h;cases i;exact⟨ty,p,h⟩
 ·cases i
structure Reads (E:Env) (cts:List CT) (pvs:List PV) (cs:List Value):Prop where
 lp:pvs.length=cts.length
 lc:cs.length=cts.length
 rep:∀ (j:Nat) pv c,pvs[j]?=some pv→cs[j]?=some c→aU E pv c∧c.oneCell'=true
 ty:∀ (j:Nat) pv ct,pvs[j]?=some pv→cts[j]?=some ct→PV.Ty ct pv
theorem Reads.one {E:Env} {ct:CT} {pv:PV} {c:Value} (h:aU E pv c) (i:c.oneCell'=true) (l:PV.Ty ct pv):Reads E [ct] [pv] [c]:=by
 refine⟨rfl,rfl,fun j p u a b=>?_,fun j p u a b=>?_⟩
 ·cases j with
  | zero=>simp at a b; subst a; subst b; exact⟨h,i⟩
  | succ j=>simp at a
 ·cases j with
  | zero=>simp at a b; subst a; subst b; exact l
  | succ j=>simp at a
theorem Reads.append {E:Env} {l R:List CT} {J p2:List PV} {U c2:List Value} (h:Reads E l J U) (k:Reads E R p2 c2):Reads E (l++R) (J++p2) (U++c2):=by
 refine⟨by simp[h.lp,k.lp],by simp[h.lc,k.lc],fun j p u a b=>?_,fun j p u a b=>?_⟩
 ·rcases aXZ j J.length with i | i
  ·rw[a0C i] at a;rw[a0C (by rw[h.lc,← h.lp]; exact i)] at b;exact h.rep j p u a b
  ·rw[aZY i] at a;rw[aZY (by rw[h.lc,← h.lp]; exact i)] at b;rw[show j-U.length=j-J.length by rw[h.lc,h.lp]] at b;exact k.rep _ p u a b
 ·rcases aXZ j J.length with i | i
  ·rw[a0C i] at a;rw[a0C (by rw[← h.lp]; exact i)] at b;exact h.ty j p u a b
  ·rw[aZY i] at a;rw[aZY (by rw[← h.lp]; exact i)] at b;rw[show j-l.length=j-J.length by rw[h.lp]] at b;exact k.ty _ p u a b
theorem WN {W:World} {num:Nat→FuncId} {a:Addr} {v:Value} (h:W.cell? a=some v):a.spot=none∧(Env.of W num).cell a.block a.off=some v:=by
 unfold World.cell? at h;split at h
 ·rename_i c ty p i;split at h
  ·cases h
  ·rename_i l;refine⟨by simpa using l,?_⟩;simp only[Env.cell,Env.of,i];exact h
 ·cases h
inductive PV.Len (N:Nat):PV→Prop
 | flat {pv:PV} (h1:∀ n rows,pv≠.sl n rows) (h2:∀ vs,pv≠.agg vs):PV.Len N pv
 | sl {n:Nat} {rows:List (List PV)} (h:rows.length≤N) (hr:∀ r∈rows,∀ v∈r,PV.Len N v):PV.Len N (.sl n rows)
 | agg {vs:List PV} (h:∀ v∈vs,PV.Len N v):PV.Len N (.agg vs)
theorem PV.Len.int {N:Nat} (k:IntKind) (n:Int):PV.Len N (.int k n):=.flat (fun _ _ h=>by cases h) fun _ h=>by cases h
theorem PV.Len.bool {N:Nat} (b:Bool):PV.Len N (.bool b):=.flat (fun _ _ h=>by cases h) fun _ h=>by cases h
theorem PV.Len.str {N:Nat} (s:List UInt8):PV.Len N (.str s):=.flat (fun _ _ h=>by cases h) fun _ h=>by cases h
theorem PV.Len.rows {N n:Nat} {rows:List (List PV)} (h:PV.Len N (.sl n rows)):rows.length≤N∧∀ r∈rows,∀ v∈r,PV.Len N v:=by
 cases h with
 | flat i _=>exact absurd rfl (i n rows)
 | sl i l=>exact⟨i,l⟩
theorem PV.Len.parts {N:Nat} {vs:List PV} (h:PV.Len N (.agg vs)):∀ v∈vs,PV.Len N v:=by
 cases h with
 | flat _ i=>exact absurd rfl (i vs)
 | agg h=>exact h
structure RX {H:Type} (P:Program) (N:Nat) (S:TypeId→DataW H→Prop):Prop where
 sl:∀ t e elems spare,P.underlying t=some (.slice e)→S t (.slice elems spare)→elems.length≤N∧∀ d∈elems,S e d
 st:∀ t fs parts,P.underlying t=some (.struct fs)→S t (.agg parts)→∀ (i:Nat) g d,fs[i]?=some g→parts[i]?=some d→S g.type d
 ar:∀ t n e parts,P.underlying t=some (.array n e)→S t (.agg parts)→∀ d∈parts,S e d
theorem NZ {H:Type} {P:Program} {A:(TypeId→DataW H→Prop)→Prop} {pv:PV} (h:∀ {N},PV.Len N pv):∀ N S,RX P N S→A S→∀ v∈[pv],PV.Len N v:=fun N S _ _ v i=>by
 obtain rfl:=aZW.1 i;exact h
theorem YC {P:Program} {E:Env} {rec:TypeId→Option (List CT)} {H:Type} {f:TypeId→List Value→Option (DataW H × List MemPlace)}
  (ih:∀ t cs x cts,f t cs=some x→rec t=some cts→∃ i,Reads E cts i cs∧∀ N S,RX P N S→S t x.1→∀ v∈i,PV.Len N v) (cs:List Value) :
  ∀ (R:List Field) (k:Nat) (cts:List CT),(∀ g∈R,∃ x,f g.type ((cs.drop g.offset).take (P.cellsOf g.type))=some x)→pA P rec k R=some cts →
   ∃ i,Reads E cts i ((cs.drop k).take cts.length)∧∀ N S,RX P N S→(∀ g∈R,∀ x,f g.type ((cs.drop g.offset).take (P.cellsOf g.type))=some x→S g.type x.1)→∀ v∈i,PV.Len N v
 | [],k,cts,_,h=>by simp[pA] at h; subst h;exact⟨[],⟨rfl,by simp,fun j p c a=>by simp at a,fun j p c a=>by simp at a⟩,fun _ _ _ _ v J=>by cases J⟩
 | g::R,k,cts,hm,h=>by
  simp only[pA] at h;split at h
  ·rename_i c1 h1;split at h
   ·rename_i hc;simp only[aXO] at h;obtain⟨c2,h2,rfl⟩:=h;obtain⟨x,hx⟩:=hm g (by simp);obtain⟨p1,r1,l1⟩:=ih _ _ _ _ hx h1;rw[hc.1,hc.2] at r1;obtain⟨p2,r2,l2⟩:=YC ih cs R (k+c1.length) c2 (fun U l=>hm U (by simp[l])) h2;refine⟨p1++p2,?_,fun N S hM hS v J=>?_⟩
    ·have:=r1.append r2;rw[aXN,List.take_add,List.drop_drop];exact this
    ·rcases aZC.1 J with J | J
     ·exact l1 N S hM (hS g (by simp) x hx) v J
     ·exact l2 N S hM (fun U l=>hS U (by simp[l])) v J
   ·cases h
  ·cases h
theorem ml {E:Env} {cts:List CT} {R:List PV→Prop} (J:R []) (U:∀ a b,R a→R b→R (a++b)) (cs:List Value) :
  ∀ n:Nat,(∀ i,i<n→∃ l,Reads E cts l ((cs.drop (i*cts.length)).take cts.length)∧R l)→∃ l,Reads E (aXK n cts).flatten l (cs.take (n*cts.length))∧R l
 | 0,_=>⟨[],⟨rfl,by simp,fun j p c a=>by simp at a,fun j p c a=>by simp at a⟩,J⟩
 | n+1,h=>by obtain⟨p1,r1,q1⟩:=ml J U cs n fun i hi=>h i Om;obtain⟨p2,r2,q2⟩:=h n Om;refine⟨p1++p2,?_,U _ _ q1 q2⟩;rw[List.replicate_succ',List.flatten_append,List.flatten_singleton,a0G,List.take_add];exact r1.append r2
theorem auW {H:Type} {enc:TypeId × Value→H} {P:Program} {W:World} {base:Nat} {sp:Nat→Bool} {held:Bool} (num:Nat→FuncId) :
  ∀ (fuel m:Nat) (t:TypeId) (cs:List Value) (x:DataW H × List MemPlace) (cts:List CT),DataW.trod enc P W base sp held fuel t cs=some x→fO P m t=some cts→∃ l,Reads (Env.of W num) cts l cs∧∀ N S,RX P N S→S t x.1→∀ v∈l,PV.Len N v:=by
 intro fuel
 induction fuel with
 | zero=>intro m t cs x cts h; simp[DataW.trod] at h
 | succ fuel ih =>
  intro m t cs x cts h J;cases m with
  | zero=>simp[fO] at J
  | succ m =>
   simp only[fO] at J;split at J
   ·rename_i hu;cases J;obtain⟨b,rfl,-⟩:=DataW.trod_bool hu h;exact⟨[.bool b],.one (.bool b) rfl (.bool b),NZ (.bool b)⟩
   ·rename_i k hu;cases J;obtain⟨n,rfl,-,hw⟩:=DataW.trod_int hu h;exact⟨[.int k n],.one (.int k n) rfl (.int hw),NZ (.int k n)⟩
   ·rename_i hu;cases J;obtain⟨s,rfl,-,hs⟩:=DataW.trod_string hu h;exact⟨[.str s.data.toList],.one (.str s) rfl (.str (by rw[a0J]; exact hs)),NZ (.str _)⟩
   ·rename_i e hu;split at J
    ·rename_i p he;split at J
     ·rename_i U;cases J;rcases DataW.trod_slice hu h with ⟨rfl,-⟩ | ⟨a,len,cap,elems,rest,n,hn,rfl,δ,-,ζ,hcap,hel,helem,-⟩
      ·refine⟨[.sl p.length []],.one ?_ rfl (.sl (by simp) (by simp) (by simp[at2])),NZ (.sl (aXU _) (fun r hr=>by cases hr))⟩;exact .sl (fun _ _=>.bool false) (by simp) (by decide) (by simp) (by simp) (fun _ _=>rfl) (by simp[at2])
      ·cases hn;have each:∀ i,i<len→∃ l us,(Reads (Env.of W num) p l us∧∀ N S,RX P N S→(∀ d∈elems.map (·.1),S e d)→∀ v∈l,PV.Len N v)∧W.cells? base (a.add (i*p.length)) p.length=some us:=by intro i hi;have h1:=helem i hi;rw[aXT Om,a0T] at h1;obtain⟨us,h2,h3⟩:=h1;obtain⟨l,r,rl⟩:=ih m e us _ p h3 he;rw[U.1] at h2;exact⟨l,us,⟨r,fun N S hM hS=>rl N S hM (hS _ (aYH.2 ⟨_,aXM _,rfl⟩))⟩,h2⟩
       have η:∀ i,∃ l,∃ us,i<len→(Reads (Env.of W num) p l us∧∀ N S,RX P N S→(∀ d∈elems.map (·.1),S e d)→∀ v∈l,PV.Len N v)∧W.cells? base (a.add (i*p.length)) p.length=some us:=by
        intro i;by_cases hi:i<len
        ·obtain⟨l,us,h1⟩:=each i hi;exact⟨l,us,fun _=>h1⟩
        ·exact⟨[],[],fun h=>(hi h).elim⟩
       obtain⟨pf,ρ⟩:=Classical.axiomOfChoice η;obtain⟨uf,α⟩:=Classical.axiomOfChoice ρ;have θ:∀ i j pv,at2 ((aXQ len).map pf) i j=some pv→i<len∧(pf i)[j]?=some pv:=by
        intro i j pv hp;unfold at2 at hp;rw[aYG,a0T] at hp;obtain⟨r,hr,hp⟩:=hp;rw[aXO] at hr;obtain⟨i',β,rfl⟩:=hr;have hi:i<len:=by simpa using (aYP.1 β).1
        have:i'=i:=by simp[hi] at β; exact β.symm
        subst this;exact⟨hi,hp⟩
       have hu2:∀ i j pv,at2 ((aXQ len).map pf) i j=some pv→∃ v,(uf i)[j]?=some v∧j<p.length∧aU (Env.of W num) pv v∧v.oneCell'=true:=by
        intro i j pv hp;obtain⟨hi,γ⟩:=θ i j pv hp;obtain⟨⟨r,-⟩,-⟩:=α i hi;have hj:j<p.length:=by rw[← r.lp]; exact (aYP.1 γ).1
        have hv:(uf i)[j]?=some ((uf i)[j]'(by rw[r.lc]; exact hj)):=aXT _;exact⟨_,hv,hj,(r.rep j pv _ γ hv).1,(r.rep j pv _ γ hv).2⟩
       have ε:((aXQ len).map pf).length=len:=by simp
       refine⟨[.sl p.length ((aXQ len).map pf)],.one ?_ rfl (.sl (fun r hr=>?_) (by rw[ε]; omega) fun i j pv ct hp ν=>?_),fun N S hM hS v hv=>?_⟩
       ·have key:=aU.sl (E:=Env.of W num) (size:=p.length) (rows:=(aXQ len).map pf) (a:=some a) (cap:=cap)
         (fun i j=>match at2 ((aXQ len).map pf) i j with | some _=>((uf i)[j]?).getD (.bool false) | none=>.bool false) (by rw[ε]; exact ζ) hcap
         (fun r hr=>by simp only[aYH,aYV] at hr;obtain⟨i,hi,rfl⟩:=hr;exact (α i hi).1.1.lp)
         (fun ο=>by
          have ξ:0<len:=by
           rcases aZX len with h | h
           ·subst h; exact (ο rfl).elim
           ·exact h
          have ι:a.spot=none:=by obtain⟨⟨r,-⟩,J⟩:=α 0 ξ;have h3:=(World.cells?_some J).2.2 0 U.2;rw[Nat.zero_mul,Addr.add_zero',Addr.add_zero',aXT (by rw[r.lc]; exact U.2)] at h3;exact (WN (num:=num) h3).1
          refine⟨a,rfl,ι,fun i j pv hp=>?_⟩;obtain⟨hi,-⟩:=θ i j pv hp;obtain⟨v,hv,hj,-⟩:=hu2 i j pv hp;have h3:=(World.cells?_some (α i hi).2).2.2 j hj;rw[lZ ι,add_plain,add_plain,hv] at h3;have h4:=(WN (num:=num) h3).2;simp only[hp,hv,a0I];exact h4)
         (fun i j=>by
          split
          ·rename_i pv hp;obtain⟨v,hv,-,-,h1⟩:=hu2 i j pv hp;simp[hv,h1]
          ·rfl)
         (fun i j pv hp=>by obtain⟨v,hv,-,h1,-⟩:=hu2 i j pv hp;simp only[hp,hv,a0I];exact h1)
        rw[ε] at key;exact key
       ·simp only[aYH,aYV] at hr;obtain⟨i,hi,rfl⟩:=hr;exact (α i hi).1.1.lp
       ·obtain⟨hi,γ⟩:=θ i j pv hp;exact (α i hi).1.1.ty j pv ct γ ν
       ·rw[δ] at hS;obtain⟨m1,m2⟩:=hM.sl t e _ _ hu hS;obtain rfl:=aZW.1 hv;refine .sl (by rw[ε]; simpa [hel] using m1) fun r hr w hw=>?_;simp only[aYH,aYV] at hr;obtain⟨i,hi,rfl⟩:=hr;exact (α i hi).1.2 N S hM m2 w hw
     ·cases J
    ·cases J
   ·rename_i fs hu;split at J
    ·rename_i τ κ;split at J
     ·rename_i ζ;cases J;obtain⟨xs,n,hn,δ,μ,σ,hx⟩:=DataW.trod_struct hu h;cases hn;have:=YC (f:=DataW.trod enc P W base sp held fuel) (fun t cs x cts a b=>ih m t cs x cts a b) cs fs.toList 0 cts (fun g hg=>by obtain⟨i,hi,rfl⟩:=aYZ hg;have:=hx i fs.toList[i] (by simp at hi; simp[hi]);rw[this];exact⟨_,aXT (by simp at hi; omega)⟩) κ
      rw[aYO,aXY Om] at this;obtain⟨l,r,rl⟩:=this;refine⟨l,r,fun N S hM hS=>rl N S hM fun g hg y hy=>?_⟩;rw[δ] at hS;obtain⟨i,hi,rfl⟩:=aYZ hg;have β:i<fs.size:=by simpa using hi
      have:=hx i fs.toList[i] (by simp[β]);rw[hy,aXT Om] at this;refine hM.st t fs _ hu hS i fs.toList[i] y.1 (by simp[β]) ?_;rw[aYG,aXT Om,← this]; rfl
     ·cases J
    ·cases J
   ·rename_i k e hu;split at J
    ·rename_i p he;split at J
     ·rename_i U;cases J;obtain⟨xs,n,hn,δ,μ,σ,hx⟩:=DataW.trod_array hu h;cases hn;obtain⟨l,r,hq⟩:=ml (E:=Env.of W num) (cts:=p) (R:=fun l=>∀ N S,RX P N S→(∀ d:DataW H,d∈xs.map (fun y:DataW H × List MemPlace=>y.1)→S e d)→∀ v∈l,PV.Len N v) (fun _ _ _ _ v hv=>by cases hv)
       (fun a b ha hb N S hM hS v hv=>(aZC.1 hv).elim (ha N S hM hS v) (hb N S hM hS v)) cs k fun i hi=>by have h2:=hx i hi;rw[aXT Om,U.1] at h2;obtain⟨l,r,rl⟩:=ih m e _ _ p h2 he;exact⟨l,r,fun N S hM hS=>rl N S hM (hS _ (aYH.2 ⟨_,aXM _,rfl⟩))⟩
      rw[aXY Om] at r;exact⟨l,r,fun N S hM hS=>hq N S hM (hM.ar t k e _ hu (by rw[δ] at hS; exact hS))⟩
     ·cases J
    ·cases J
   ·cases J
theorem db {H:Type} {enc:TypeId × Value→H} {P:Program} {W:World} {base:Nat} {p:Nat→Bool} {held:Bool} (num:Nat→FuncId)
  (fuel m:Nat) (t:TypeId) (cs:List Value) (x:DataW H × List MemPlace) (cts:List CT) (h:DataW.trod enc P W base p held fuel t cs=some x) (l:fO P m t=some cts):∃ i,Reads (Env.of W num) cts i cs :=
 (auW num fuel m t cs x cts h l).imp fun _ r=>r.1
open Go Go.RowKit Go.ChangeShapes Go.WideShapes
theorem Ext.below {E l:Env} {H':PH} {w i:World} (h:Ext E PH.nil w l H' i):Below w.heap.size w i :=
 ⟨h.os,h.tape,h.output,h.size,fun k p=>h.block k p rfl⟩
theorem Below.trodAll {H:Type} {enc:TypeId × Value→H} {P:Program} (U:laidOutB P=true) {W l:World} (R:Below W.heap.size W l) :
  ∀ {ts:List TypeId} {vs:List Value} {ds:List (DataW H)} {ps:List MemPlace},(∀ t∈ts,P.readableRec t=true∧t<P.types.size)→DataW.TrodAll enc P W 0 (fun _=>true) true ts vs ds ps →
   DataW.TrodAll enc P l 0 (fun b=>decide (b<W.heap.size)) true ts vs ds ps
 | [],[],[],ps,_,h=>h
 | [],_::_,_,_,_,h=>h.elim
 | [],[],_::_,_,_,h=>h.elim
 | _::_,[],_,_,_,h=>h.elim
 | _::_,_::_,[],_,_,h=>h.elim
 | t::ts,v::vs,d::ds,ps,i,h=>by obtain⟨p,q,J,h2,rfl⟩:=h;have hlt:∀ x∈p,x.block<W.heap.size:=fun x hx=>DataW.TrodAll.lt (ts:=[t]) (vs:=[v]) (ds:=[d]) ⟨p,[],J,rfl,(aZK p).symm⟩ x hx;exact⟨p,q,Below.trod U (i t (by simp)).1 (i t (by simp)).2 J R hlt,Below.trodAll U R (fun u hu=>i u (by simp[hu])) h2,rfl⟩
theorem aeA {H:Type} {enc:TypeId × Value→H} {P:Program} {f:Func} {s:ChangeSpec} {i apart fresh:Bool} {W W':World} {args:Array Value} {ds J:List (DataW H)} {l:List MemPlace} {bt:TypeId}
  (hl:laidOutB P=true) (hW:DataW.Whole enc P f.params.toList s.vars apart W args.toList ds J l) (hb:Below W.heap.size W W') (α:∀ t∈f.params.toList,P.readableRec t=true∧t<P.types.size)
  (U:f.resultTypes=#[bt]) (R:P.underlying bt=some .bool) (hv:s.vars=[]) (hr:(s.fn H (ds++J)).results=[.lit (.bool true)]) (ha:(s.fn H (ds++J)).args=ds) (β:(s.fn H (ds++J)).vars=[]) :
  s.post enc P f apart fresh i false W args (.bool true) W':=by
 obtain⟨p,q,hA,hV,rfl,hz,hn⟩:=hW;rw[hv] at hV;obtain⟨rfl,rfl⟩:=trodVars_none hV;refine⟨ds,[],p++[],[],p,[],⟨p,[],hA,by rw[hv]; exact hV,rfl,hz,hn⟩,?_,?_,?_,hb.frame _,fun h=>by cases h⟩
 ·rw[hr,U];refine⟨[],[],⟨1,?_⟩,rfl,rfl⟩;simp[DataW.trod,R,Value.cells,Value.resultList]
 ·rw[ha];exact Below.trodAll hl hb α hA
 ·rw[hv,β];exact rfl
theorem abY {C:Ctx} {name:Nat} {W:World} {args:Array Value} {l:List PV} (h:aH C name l PH.nil (aL (.bool true))) (U:dY (Env.of W C.num) l args.toList) :
  Calls C.P (C.num name) args W fun e p=>e=.returned (.bool true)∧Below W.heap.size W p :=
 (h.2 (Env.of W C.num) W args rfl (bE.start W C.num) U).mono fun e p R=>by obtain⟨v,pv,E',H',rfl,-,i,J,rfl,-⟩:=R;cases i;exact⟨rfl,J.below⟩
theorem S1 {H:Type} {enc:TypeId × Value→H} {P:Program} {W:World} {r:Reach} {base:Nat} {sp:Nat→Bool} {held:Bool} (num:Nat→FuncId) {t:TypeId} {v:Value} {d:DataW H} {ps:List MemPlace} {U:Array Field} {n:Nat} {cts:List CT}
  (J:P.underlying t=some (.struct U)) (p:Value.okWide P W r base t v) (hd:DataW.Trod enc P W 0 sp held t v d ps) (hc:fO P n t=some cts) :
  ∃ i,aU (Env.of W num) (.agg i) v∧i.length=cts.length∧∀ (j:Nat) pv ct,i[j]?=some pv→cts[j]?=some ct→PV.Ty ct pv:=by
 obtain⟨cs,rfl,-⟩:=okWide_struct J p;obtain⟨fuel,h⟩:=hd;obtain⟨i,l⟩:=db num fuel n t _ _ cts h hc;have hl:cs.size=i.length:=by have:=l.lc; rw[l.lp,← this]; simp[Value.cells]
 refine⟨i,.agg cs hl (fun u J=>?_) (fun j pv u a b=>(l.rep j pv u a (by simpa [Value.cells] using b)).1),l.lp,l.ty⟩;obtain⟨j,R,rfl⟩:=aYZ J;simp only[a0J] at R;exact (l.rep j _ _ (aXT Om) (by simp[Value.cells,R])).2
theorem rQ {H:Type} {enc:TypeId × Value→H} {P:Program} {W:World} {sp:Nat→Bool} {held:Bool} (num:Nat→FuncId) {t:TypeId} {v:Value} {d:DataW H} {ps:List MemPlace} {n:Nat} {ct:CT}
  (U:v.cells=#[v]) (J:DataW.Trod enc P W 0 sp held t v d ps) (p:fO P n t=some [ct]):∃ pv,aU (Env.of W num) pv v∧PV.Ty ct pv:=by
 obtain⟨fuel,h⟩:=J;obtain⟨l,i⟩:=db num fuel n t _ _ [ct] h p;rw[U] at i;have R:=i.lp;cases l with
 | nil=>simp at R
 | cons pv rest=>exact⟨pv,(i.rep 0 pv v rfl rfl).1,i.ty 0 pv ct rfl rfl⟩
def InK (k:IntKind) (n:Int):Prop:=k.min≤n∧n≤k.max
def Ue (k:IntKind) (xs:List Int):PV:=.sl 1 (xs.map fun n=>[.int k n])
theorem Ty.gx {k:IntKind} {pv:PV} (h:PV.Ty (.int k) pv):∃ n,pv=.int k n∧InK k n:=by
 cases h with
 | int h=>simp only[Lit.wf,aYB,decide_eq_true_eq] at h; exact⟨_,rfl,h⟩
theorem Ty.aEF {ct:CT} {pv:PV} (h:PV.Ty (.sl [ct]) pv):∃ vs:List PV,pv=.sl 1 (vs.map fun v=>[v])∧vs.length≤maxLen∧∀ v∈vs,PV.Ty ct v:=by
 cases h with
 | @sl es rows U R h =>
 have key:∀ r∈rows,r=[r.headD .junk]:=fun r l=>by
  have:=U r l
  match r,this with
  | [x],_=>rfl
 have e:rows=(rows.map fun r=>r.headD .junk).map fun v=>[v]:=by rw[List.map_map];apply a0K (by simp);intro n J h2;simp only[aZH,Function.comp];exact key _ (aXM J)
 refine⟨rows.map fun r=>r.headD .junk,by rw[← e]; rfl,by simpa using R,fun v p=>?_⟩;rw[aYH] at p;obtain⟨r,l,rfl⟩:=p;obtain⟨i,hi,rfl⟩:=aYZ l;refine h i 0 _ ct ?_ rfl;have:=key rows[i] l;unfold at2;rw[aXT hi,a0U,this];rfl
theorem Ty.arJ {k:IntKind} {pv:PV} (h:PV.Ty (.sl [.int k]) pv):∃ xs:List Int,pv=Ue k xs∧xs.length≤maxLen∧∀ x∈xs,InK k x:=by
 obtain⟨vs,rfl,U,l⟩:=Ty.aEF h;have e:vs=(vs.map fun v=>match v with | .int _ n=>n | _=>0).map fun n=>PV.int k n:=by rw[List.map_map];apply a0K (by simp);intro n J h2;simp only[aZH,Function.comp];obtain⟨m,i,-⟩:=Ty.gx (l _ (aXM J));rw[i]
 refine⟨vs.map fun v=>match v with | .int _ n=>n | _=>0,?_,by simpa using U,fun x p=>?_⟩
 ·unfold Ue
  conv=>lhs; rw[e]
  rw[List.map_map];rfl
 ·rw[aYH] at p;obtain⟨v,i,rfl⟩:=p;obtain⟨m,rfl,R⟩:=Ty.gx (l v i);exact R
abbrev Rg:=List aR
abbrev Rd:=List (aR×Bool)
def iM (d s:Nat):aR:=⟨some d,.mv (.tmp s),none⟩
def iI (d:Nat) (n:Int):aR:=⟨some d,.mv (.const (.int .i64 n)),none⟩
def iB (d:Nat) (o:BinOp) (x y:Nat):aR:=⟨some d,.bin o (.tmp x) (.tmp y),none⟩
def iC (d:Nat) (o:BinOp) (x:Nat) (n:Int):aR:=⟨some d,.bin o (.tmp x) (.const (.int .i64 n)),none⟩
def iL (d s:Nat):aR:=⟨some d,.load none (.tmp s),none⟩
def iX (d n x y:Nat):aR:=⟨some d,.aWP n (.tmp x) (.tmp y),none⟩
def iN (d x:Nat):aR:=⟨some d,.len (.tmp x),none⟩
def iF (d n x:Nat):aR:=⟨some d,.aXB n (.tmp x),none⟩
def iS (n p x:Nat):aR:=⟨none,.store n (.tmp p) (.tmp x),none⟩
def iA (d:Nat) (o:POp):aR:=⟨some d,o,none⟩
def iG (d:Nat) (o:POp) (g:Nat) (b:Bool):aR:=⟨some d,o,some (g,b)⟩
def iP (d a b:Nat):aR:=⟨some d,.pick (.tmp a) (.tmp b) (.const (.bool false)),none⟩
def iQ (d a b:Nat):aR:=⟨some d,.pick (.tmp a) (.const (.bool true)) (.tmp b),none⟩
def iO (d s a:Nat):aR:=⟨some d,.load (some s) (.tmp a),none⟩
def iE (d a n:Nat):aR:=⟨some d,.extract (.tmp a) n,none⟩
def iK (d f a:Nat):aR:=⟨some d,.call f [.tmp a],none⟩
def iK2 (d f a b:Nat):aR:=⟨some d,.call f [.tmp a,.tmp b],none⟩
def iT (d:Nat) (b:Bool):aR:=⟨some d,.mv (.const (.bool b)),none⟩
def iZ (d:Nat):aR:=⟨some d,.mv (.const .aB),none⟩
def gM (d s g:Nat) (b:Bool):aR:=⟨some d,.mv (.tmp s),some (g,b)⟩
def gL (d s g:Nat) (b:Bool):aR:=⟨some d,.load none (.tmp s),some (g,b)⟩
def gF (d n s g:Nat) (b:Bool):aR:=⟨some d,.aXB n (.tmp s),some (g,b)⟩
def gN (d s g:Nat) (b:Bool):aR:=⟨some d,.len (.tmp s),some (g,b)⟩
def gO (d n s g:Nat) (b:Bool):aR:=⟨some d,.load (some n) (.tmp s),some (g,b)⟩
def gK (d f a g:Nat) (b:Bool):aR:=⟨some d,.call f [.tmp a],some (g,b)⟩
def gK2 (d f a c g:Nat) (b:Bool):aR:=⟨some d,.call f [.tmp a,.tmp c],some (g,b)⟩
def gC (d:Nat) (o:BinOp) (x:Nat) (n:Int) (g:Nat) (b:Bool):aR:=⟨some d,.bin o (.tmp x) (.const (.int .i64 n)),some (g,b)⟩
def gB (d:Nat) (o:BinOp) (x y g:Nat) (b:Bool):aR:=⟨some d,.bin o (.tmp x) (.tmp y),some (g,b)⟩
def sq (r:Rg) (c:aA):aA:=.seq (.region r) c
def dq (r:Rd) (c:aA):aA:=.seq (.draw r) c
def Tm (n:Nat):aO:=.tmp n
def Ci (n:Int):aO:=.const (.int .i64 n)
@[go_sem] theorem aVP (d s:Nat):iM d s=⟨some d,.mv (.tmp s),none⟩:=(rfl)
@[go_sem] theorem aVM (d:Nat) (n:Int):iI d n=⟨some d,.mv (.const (.int .i64 n)),none⟩:=(rfl)
@[go_sem] theorem aVH (d:Nat) (o:BinOp) (x y:Nat):iB d o x y=⟨some d,.bin o (.tmp x) (.tmp y),none⟩:=(rfl)
@[go_sem] theorem aVI (d:Nat) (o:BinOp) (x:Nat) (n:Int):iC d o x n=⟨some d,.bin o (.tmp x) (.const (.int .i64 n)),none⟩:=(rfl)
@[go_sem] theorem aVO (d s:Nat):iL d s=⟨some d,.load none (.tmp s),none⟩:=(rfl)
@[go_sem] theorem aVW (d n x y:Nat):iX d n x y=⟨some d,.aWP n (.tmp x) (.tmp y),none⟩:=(rfl)
@[go_sem] theorem aVQ (d x:Nat):iN d x=⟨some d,.len (.tmp x),none⟩:=(rfl)
@[go_sem] theorem aVK (d n x:Nat):iF d n x=⟨some d,.aXB n (.tmp x),none⟩:=(rfl)
@[go_sem] theorem aVU (n p x:Nat):iS n p x=⟨none,.store n (.tmp p) (.tmp x),none⟩:=(rfl)
@[go_sem] theorem aVG (d:Nat) (o:POp):iA d o=⟨some d,o,none⟩:=(rfl)
@[go_sem] theorem aVL (d:Nat) (o:POp) (g:Nat) (b:Bool):iG d o g b=⟨some d,o,some (g,b)⟩:=(rfl)
@[go_sem] theorem aVS (d a b:Nat):iP d a b=⟨some d,.pick (.tmp a) (.tmp b) (.const (.bool false)),none⟩:=(rfl)
@[go_sem] theorem aVT (d a b:Nat):iQ d a b=⟨some d,.pick (.tmp a) (.const (.bool true)) (.tmp b),none⟩:=(rfl)
@[go_sem] theorem aVR (d s a:Nat):iO d s a=⟨some d,.load (some s) (.tmp a),none⟩:=(rfl)
@[go_sem] theorem aVJ (d a n:Nat):iE d a n=⟨some d,.extract (.tmp a) n,none⟩:=(rfl)
@[go_sem] theorem aVN (d f a:Nat):iK d f a=⟨some d,.call f [.tmp a],none⟩:=(rfl)
@[go_sem] theorem aUT (d f a b:Nat):iK2 d f a b=⟨some d,.call f [.tmp a,.tmp b],none⟩:=(rfl)
@[go_sem] theorem aVV (d:Nat) (b:Bool):iT d b=⟨some d,.mv (.const (.bool b)),none⟩:=(rfl)
@[go_sem] theorem aVX (d:Nat):iZ d=⟨some d,.mv (.const .aB),none⟩:=(rfl)
@[go_sem] theorem aVD (d s g:Nat) (b:Bool):gM d s g b=⟨some d,.mv (.tmp s),some (g,b)⟩:=(rfl)
@[go_sem] theorem aVC (d s g:Nat) (b:Bool):gL d s g b=⟨some d,.load none (.tmp s),some (g,b)⟩:=(rfl)
@[go_sem] theorem aVA (d n s g:Nat) (b:Bool):gF d n s g b=⟨some d,.aXB n (.tmp s),some (g,b)⟩:=(rfl)
@[go_sem] theorem aVE (d s g:Nat) (b:Bool):gN d s g b=⟨some d,.len (.tmp s),some (g,b)⟩:=(rfl)
@[go_sem] theorem aVF (d n s g:Nat) (b:Bool):gO d n s g b=⟨some d,.load (some n) (.tmp s),some (g,b)⟩:=(rfl)
@[go_sem] theorem aVB (d f a g:Nat) (b:Bool):gK d f a g b=⟨some d,.call f [.tmp a],some (g,b)⟩:=(rfl)
@[go_sem] theorem aUS (d f a c g:Nat) (b:Bool):gK2 d f a c g b=⟨some d,.call f [.tmp a,.tmp c],some (g,b)⟩:=(rfl)
@[go_sem] theorem aUZ (d:Nat) (o:BinOp) (x:Nat) (n:Int) (g:Nat) (b:Bool):gC d o x n g b=⟨some d,.bin o (.tmp x) (.const (.int .i64 n)),some (g,b)⟩:=(rfl)
@[go_sem] theorem aUY (d:Nat) (o:BinOp) (x y g:Nat) (b:Bool):gB d o x y g b=⟨some d,.bin o (.tmp x) (.tmp y),some (g,b)⟩:=(rfl)
@[go_sem] theorem aVY (r:Rg) (c:aA):sq r c=.seq (.region r) c:=(rfl)
@[go_sem] theorem aUX (r:Rd) (c:aA):dq r c=.seq (.draw r) c:=(rfl)
@[go_sem] theorem aUW (n:Nat):Tm n=.tmp n:=(rfl)
@[go_sem] theorem aUV (n:Int):Ci n=.const (.int .i64 n):=(rfl)
end Go.PM
namespace Go.PM
open Go
def yi:Rg:=[iT 4 false]
def yj:Rg:=[iM 6 0,iN 7 6,iM 8 1,iN 9 8,iB 10 .neq 7 9]
def aqJ:Rg:=[iT 4 false]
def yk:Rg:=[iI 5 0]
def yl:Rg:=[iM 11 5,iM 12 0,iN 13 12,iB 14 .lss 11 13]
def ym:Rd:=[(iM 17 0,false),(iM 18 5,false),(iX 19 1 17 18,false),(iL 20 19,false),(iM 21 1,false),(iM 22 5,false),(iX 23 1 21 22,false),(iL 24 23,false),(iB 25 .neq 20 24,false)]
def aqK:Rg:=[iT 4 false]
def yn:Rg:=[iM 15 5,iC 16 .add 15 1,iM 5 16]
def yh:aA:=(.seq (sq yl (.cond (Tm 14) .skip (.exit 0))) (.seq (.block 1 (dq ym (.cond (Tm 25) (sq aqK .ret) .skip))) (.region yn)))
def yo:Rg:=[iT 4 true]
def CQ:aA:=(sq yi (.seq (sq yj (.cond (Tm 10) (sq aqJ .ret) .skip)) (.seq (sq yk (.block 0 (.loop yh))) (sq yo .ret))))
def aqL:List Nat:=[]
def vf:aS:=⟨2,26,CQ,[.tmp 4]⟩
def acJ:Rg:=[iA 0 (.alloc [(.int .i64 0),.aB,.aB,.aB,.aB,.aB,.aB])]
def acK:Rg:=[iA 2 (.call 27 [(.const .aB),(Ci 1),(Ci 0)]),iA 1 (.alloc [(.int .i64 0),.aB,.aB,.aB,.aB,.aB,.aB]),iS 7 1 2]
def acL:Rg:=[iA 3 (.build [(.str []),(.int .i64 0)] [(0,1,(.const (.str [118,48])))]),iA 4 (.aWF true 2 1 [(.str []),(.int .i64 0)] [(0,(Tm 3))]),iF 5 6 1,iS 1 5 4]
def acM:Rg:=[iO 6 7 1,iS 7 0 6]
def Jr:aA:=(sq acJ (sq acK (sq acL (sq acM .ret))))
def aJN:aS:=⟨0,7,Jr,[.cell 0 (some 7)]⟩
def abZ:Rg:=[iT 0 false]
def acA:Rg:=[iA 3 (.call 23 []),iA 1 (.alloc [(.int .i64 0),.aB,.aB,.aB,.aB,.aB,.aB]),iS 7 1 3]
def acB:Rg:=[iO 4 7 1,iA 5 (.aWF true 1 1 [(.int .i64 0)] [(0,(Ci (-1)))]),iA 6 (.aWF true 1 1 [.aB] [(0,(Tm 5))]),iA 7 (.call 154 [(Tm 4),(Tm 6),(.const .aB)]),iM 2 7]
def acC:Rg:=[iO 8 7 1,iA 9 (.call 147 [(Tm 8),(Ci 0),(Ci 4)]),iC 10 .eql 9 4,iM 11 10,gO 12 7 1 11 true,iG 13 (.call 149 [(Tm 12),(Ci 0)]) 11 true,gN 14 13 11 true,gC 15 .eql 14 1 11 true,iP 16 11 15,iM 17 16,gM 18 2 17 true,gN 19 18 17 true,gC 20 .eql 19 1 17 true,iP 21 17 20,iM 22 21,gM 23 2 22 true,iG 24 (.aWP 3 (Tm 23) (Ci 0)) 22 true,gO 25 3 24 22 true,iG 26 (.build [(.int .i64 0),(.int .i64 0),(.int .i64 0)] [(0,1,(Ci 2))]) 22 true,iG 27 (.eqs false [.int,.int,.int] (Tm 25) (Tm 26)) 22 true,iP 28 22 27,iM 29 28,gO 30 7 1 29 true,iG 31 (.aWF true 1 1 [(.int .i64 0)] [(0,(Ci 0))]) 29 true,iG 32 (.aWF true 1 1 [.aB] [(0,(Tm 31))]) 29 true,iG 33 (.call 150 [(Tm 30),(Tm 32),(.const .aB)]) 29 true,iP 34 29 33,iM 35 34,iG 36 (.build [(.int .i64 0),.aB,.aB,.aB,.aB,.aB,.aB] []) 35 true,iG 37 (.call 150 [(Tm 36),(.const .aB),(.const .aB)]) 35 true,iG 38 (.un .not (Tm 37)) 35 true,iP 39 35 38,iM 0 39]
def Jp:aA:=(sq abZ (sq acA (sq acB (sq acC .ret))))
def aJH:aS:=⟨0,40,Jp,[.tmp 0]⟩
def FK:Rg:=[iI 2 0]
def FL:Rg:=[iM 4 0,iN 5 4,iM 3 5]
def FN:Rg:=[iM 6 3,iC 7 .gtr 6 0,iM 8 7,gM 9 0 8 true,gM 10 3 8 true,gC 11 .sub 10 1 8 true,iG 12 (.aWP 1 (Tm 9) (Tm 11)) 8 true,gL 13 12 8 true,iG 14 (.bin .eql (Tm 13) (.const (.int .u32 0))) 8 true,iP 15 8 14]
def FO:Rg:=[iM 16 3,iC 17 .sub 16 1,iM 3 17]
def FJ:aA:=(.seq (sq FN (.cond (Tm 15) .skip (.exit 0))) (.block 1 (.region FO)))
def rE:Rg:=[iM 18 3,iM 2 18]
def nJ:aA:=(sq FK (sq FL (.seq (.block 0 (.loop FJ)) (sq rE .ret))))
def U1:List Nat:=[]
def sA:aS:=⟨1,19,nJ,[.tmp 2]⟩
def qu:Rg:=[iT 2 false]
def qw:Rg:=[iM 3 0,iK 4 138 3,iC 5 .gtr 4 512,iM 2 5]
def zR:aA:=(sq qu (sq qw .ret))
def adD:List Nat:=[]
def LO:aS:=⟨1,6,zR,[.tmp 2]⟩
def ru:Rg:=[iZ 2,iI 3 0]
def rv:Rg:=[iM 5 0,iK 6 138 5,iM 4 6]
def rz:Rg:=[iM 7 4,iC 8 .gtr 7 512]
def r8:Rg:=[iZ 2,iI 3 2]
def r9:Rg:=[iM 9 0,iM 10 4,iM 11 4,iA 12 (.slice 1 (Tm 9) none (some (Tm 10)) (some (Tm 11))),iM 2 12,iI 3 0]
def zT:aA:=(sq ru (sq rv (.seq (sq rz (.cond (Tm 8) (sq r8 .ret) .skip)) (sq r9 .ret))))
def adG:List Nat:=[]
def LW:aS:=⟨1,13,zT,[.tmp 2,.tmp 3]⟩
def E0:Rg:=[iZ 2]
def E4:Rg:=[iM 4 0,iA 5 (.conv .u32 (Tm 4)),iM 6 0,iA 7 (.bin .shr (Tm 6) (.const (.int .u64 32))),iA 8 (.conv .u32 (Tm 7)),iA 9 (.aWF true 1 2 [(.int .u32 0)] [(0,(Tm 5)),(1,(Tm 8))]),iM 3 9]
def E5:Rg:=[iM 10 3,iM 11 3,iK 12 138 11,iA 13 (.slice 1 (Tm 10) none (some (Tm 12)) none),iM 2 13]
def FP:aA:=(sq E0 (sq E4 (sq E5 .ret)))
def asH:List Nat:=[9]
def cf:aS:=⟨1,14,FP,[.tmp 2]⟩
def Fn:Rg:=[iZ 2]
def Fo:Rg:=[iM 3 0,iM 4 0,iK 5 138 4,iA 6 (.slice 1 (Tm 3) none (some (Tm 5)) none),iA 7 (.append 1 4 (.const .aB) (Tm 6)),iM 2 7]
def FQ:aA:=(sq Fn (sq Fo .ret))
def asJ:List Nat:=[]
def cj:aS:=⟨1,8,FQ,[.tmp 2]⟩
def P0:Rg:=[iI 4 0]
def P1:Rg:=[iM 8 0,iK 9 138 8,iM 10 1,iK 11 138 10,iM 5 9,iM 6 11]
def P2:Rg:=[iM 13 5,iM 14 6,iB 15 .lss 13 14,iM 12 15]
def P3:Rg:=[iI 4 (-1)]
def P4:Rg:=[iM 17 5,iM 18 6,iB 19 .gtr 17 18,iM 16 19]
def P5:Rg:=[iI 4 1]
def P6:Rg:=[iM 20 5,iC 21 .sub 20 1,iM 7 21]
def P7:Rg:=[iM 22 7,iC 23 .geq 22 0]
def P8:Rd:=[(iM 27 0,false),(iM 28 7,false),(iX 29 1 27 28,false),(iL 30 29,false),(iM 31 1,false),(iM 32 7,false),(iX 33 1 31 32,false),(iL 34 33,false),(iB 35 .lss 30 34,false),(iM 26 35,false)]
def P9:Rg:=[iI 4 (-1)]
def En:Rd:=[(iM 37 0,false),(iM 38 7,false),(iX 39 1 37 38,false),(iL 40 39,false),(iM 41 1,false),(iM 42 7,false),(iX 43 1 41 42,false),(iL 44 43,false),(iB 45 .gtr 40 44,false),(iM 36 45,false)]
def Eo:Rg:=[iI 4 1]
def Ep:Rg:=[iM 24 7,iC 25 .sub 24 1,iM 7 25]
def Em:aA:=(.seq (sq P7 (.cond (Tm 23) .skip (.exit 1))) (.seq (.block 2 (.block 3 (dq P8 (.cond (Tm 26) (sq P9 .ret) (dq En (.cond (Tm 36) (sq Eo .ret) .skip)))))) (.region Ep)))
def Eq:Rg:=[iI 4 0]
def LC:aA:=(sq P0 (sq P1 (.seq (.block 0 (sq P2 (.cond (Tm 12) (sq P3 .ret) (sq P4 (.cond (Tm 16) (sq P5 .ret) .skip))))) (.seq (sq P6 (.block 1 (.loop Em))) (sq Eq .ret)))))
def aBY:List Nat:=[]
def El:aS:=⟨2,46,LC,[.tmp 4]⟩
def Pt:Rg:=[iZ 4,iI 5 0]
def Pu:Rg:=[iM 9 0,iK 10 137 9,iM 11 10,gM 12 1 11 false,gK 13 137 12 11 false,iQ 14 11 13]
def io:Rg:=[iZ 4,iI 5 2]
def Pv:Rd:=[(iM 15 0,true),(iM 16 0,false),(iK 17 138 16,true),(iA 18 (.slice 1 (Tm 15) none (some (Tm 17)) none),true),(iM 19 1,true),(iM 20 1,true),(iK 21 138 20,true),(iA 22 (.slice 1 (Tm 19) none (some (Tm 21)) none),false),(iM 0 18,false),(iM 1 22,false)]
def Pw:Rg:=[iM 23 0,iN 24 23,iM 25 1,iN 26 25,iB 27 .lss 24 26]
def Px:Rg:=[iM 28 1,iM 29 0,iM 0 28,iM 1 29]
def ip:Rg:=[iM 30 0,iN 31 30,iC 32 .add 31 1,iA 33 (.aWH 1 4 [(.int .u32 0)] (Tm 32) (Tm 32)),iM 6 33]
def iq:Rg:=[iA 7 (.mv (.const (.int .u64 0)))]
def ir:Rg:=[iM 34 0,iN 35 34,iI 36 0]
def Py:Rg:=[iB 37 .lss 36 35]
def D5:Rg:=[iM 38 36,iM 8 38]
def D6:Rg:=[iM 39 7,iM 40 0,iM 41 8,iX 42 1 40 41,iL 43 42,iA 44 (.conv .u64 (Tm 43)),iB 45 .add 39 44,iM 7 45]
def D7:Rg:=[iM 46 8,iM 47 1,iN 48 47,iB 49 .lss 46 48]
def D8:Rg:=[iM 50 7,iM 51 1,iM 52 8,iX 53 1 51 52,iL 54 53,iA 55 (.conv .u64 (Tm 54)),iB 56 .add 50 55,iM 7 56]
def UE:Rg:=[iM 57 6,iM 58 8,iM 59 7,iA 60 (.conv .u32 (Tm 59)),iX 61 1 57 58,iS 1 61 60]
def UF:Rg:=[iM 62 7,iA 63 (.bin .shr (Tm 62) (.const (.int .u64 32))),iM 7 63]
def UG:Rg:=[iC 64 .add 36 1,iM 36 64]
def UD:aA:=(sq Py (.seq (.cond (Tm 37) .skip (.exit 0)) (.seq (.block 1 (sq D5 (sq D6 (.seq (sq D7 (.cond (Tm 49) (.region D8) .skip)) (sq UE (.region UF)))))) (.region UG))))
def UH:Rg:=[iM 65 6,iM 66 0,iN 67 66,iM 68 7,iA 69 (.conv .u32 (Tm 68)),iX 70 1 65 67,iS 1 70 69]
def UI:Rg:=[iM 71 6,iK 72 141 71,iE 73 72 0,iE 74 72 1,iM 4 73,iM 5 74]
def KZ:aA:=(sq Pt (.seq (sq Pu (.cond (Tm 14) (sq io .ret) .skip)) (dq Pv (.seq (sq Pw (.cond (Tm 27) (.region Px) .skip)) (sq ip (sq iq (.seq (sq ir (.block 0 (.loop UD))) (sq UH (sq UI .ret)))))))))
def aBW:List Nat:=[]
def D4:aS:=⟨2,75,KZ,[.tmp 4,.tmp 5]⟩
def Qw:Rg:=[iZ 4,iI 5 0]
def Qx:Rg:=[iM 11 0,iK 12 137 11,iM 13 12,gM 14 1 13 false,gK 15 137 14 13 false,iQ 16 13 15,iM 10 16]
def i7:Rg:=[iZ 4,iI 5 2]
def Qy:Rg:=[iM 18 0,iM 19 1,iK2 20 129 18 19,iC 21 .lss 20 0,iM 17 21]
def Qz:Rg:=[iZ 4,iI 5 4]
def Q1:Rd:=[(iM 22 0,true),(iM 23 0,false),(iK 24 138 23,true),(iA 25 (.slice 1 (Tm 22) none (some (Tm 24)) none),true),(iM 26 1,true),(iM 27 1,true),(iK 28 138 27,true),(iA 29 (.slice 1 (Tm 26) none (some (Tm 28)) none),false),(iM 0 25,false),(iM 1 29,false)]
def i8:Rg:=[iM 30 0,iN 31 30,iA 32 (.aWH 1 4 [(.int .u32 0)] (Tm 31) (Tm 31)),iM 6 32]
def i9:Rg:=[iA 7 (.mv (.const (.int .u64 0)))]
def ja:Rg:=[iM 33 0,iN 34 33,iI 35 0]
def Q2:Rg:=[iB 36 .lss 35 34]
def Fg:Rg:=[iM 37 35,iM 8 37]
def Fh:Rg:=[iM 38 0,iM 39 8,iX 40 1 38 39,iL 41 40,iA 42 (.conv .u64 (Tm 41)),iM 43 7,iB 44 .sub 42 43,iM 9 44]
def Fi:Rg:=[iM 45 8,iM 46 1,iN 47 46,iB 48 .lss 45 47]
def Fj:Rg:=[iM 49 9,iM 50 1,iM 51 8,iX 52 1 50 51,iL 53 52,iA 54 (.conv .u64 (Tm 53)),iB 55 .sub 49 54,iM 9 55]
def UQ:Rg:=[iM 56 6,iM 57 8,iM 58 9,iA 59 (.conv .u32 (Tm 58)),iX 60 1 56 57,iS 1 60 59]
def UR:Rg:=[iM 61 9,iA 62 (.bin .shr (Tm 61) (.const (.int .u64 63))),iM 7 62]
def US:Rg:=[iC 63 .add 35 1,iM 35 63]
def UP:aA:=(sq Q2 (.seq (.cond (Tm 36) .skip (.exit 1)) (.seq (.block 2 (sq Fg (sq Fh (.seq (sq Fi (.cond (Tm 48) (.region Fj) .skip)) (sq UQ (.region UR)))))) (.region US))))
def UT:Rg:=[iM 64 6,iK 65 141 64,iE 66 65 0,iE 67 65 1,iM 4 66,iM 5 67]
def LZ:aA:=(sq Qw (.seq (.block 0 (sq Qx (.cond (Tm 10) (sq i7 .ret) (sq Qy (.cond (Tm 17) (sq Qz .ret) .skip))))) (dq Q1 (sq i8 (sq i9 (.seq (sq ja (.block 1 (.loop UP))) (sq UT .ret)))))))
def aCD:List Nat:=[]
def Ff:aS:=⟨2,68,LZ,[.tmp 4,.tmp 5]⟩
def Qr:Rg:=[iZ 4,iI 5 0]
def Qs:Rg:=[iM 12 0,iK 13 137 12,iM 14 13,gM 15 1 14 false,gK 16 137 15 14 false,iQ 17 14 16]
def ix:Rg:=[iZ 4,iI 5 2]
def Qt:Rd:=[(iM 18 0,true),(iM 19 0,false),(iK 20 138 19,true),(iA 21 (.slice 1 (Tm 18) none (some (Tm 20)) none),true),(iM 22 1,true),(iM 23 1,true),(iK 24 138 23,true),(iA 25 (.slice 1 (Tm 22) none (some (Tm 24)) none),false),(iM 0 21,false),(iM 1 25,false)]
def iy:Rg:=[iM 26 0,iN 27 26,iM 28 1,iN 29 28,iB 30 .add 27 29,iA 31 (.aWH 1 4 [(.int .u32 0)] (Tm 30) (Tm 30)),iM 6 31]
def iz:Rg:=[iM 32 0,iN 33 32,iI 34 0]
def Qu:Rg:=[iB 35 .lss 34 33]
def i0:Rg:=[iM 36 34,iX 37 1 32 34,iL 38 37,iM 7 36,iM 8 38]
def i4:Rg:=[iA 9 (.mv (.const (.int .u64 0)))]
def i5:Rg:=[iM 39 1,iN 40 39,iI 41 0]
def E7:Rg:=[iB 42 .lss 41 40]
def E8:Rg:=[iM 43 41,iX 44 1 39 41,iL 45 44,iM 10 43,iM 11 45]
def E9:Rg:=[iM 46 9,iM 47 8,iA 48 (.conv .u64 (Tm 47)),iM 49 11,iA 50 (.conv .u64 (Tm 49)),iB 51 .mul 48 50,iM 52 6,iM 53 7,iM 54 10,iB 55 .add 53 54,iX 56 1 52 55,iL 57 56,iA 58 (.conv .u64 (Tm 57)),iB 59 .add 51 58,iB 60 .add 46 59,iM 9 60]
def Fa:Rg:=[iM 61 6,iM 62 7,iM 63 10,iB 64 .add 62 63,iM 65 9,iA 66 (.conv .u32 (Tm 65)),iX 67 1 61 64,iS 1 67 66]
def Fb:Rg:=[iM 68 9,iA 69 (.bin .shr (Tm 68) (.const (.int .u64 32))),iM 9 69]
def Fc:Rg:=[iC 70 .add 41 1,iM 41 70]
def UK:aA:=(sq E7 (.seq (.cond (Tm 42) .skip (.exit 2)) (.seq (.block 3 (sq E8 (sq E9 (sq Fa (.region Fb))))) (.region Fc))))
def UM:Rg:=[iM 71 6,iM 72 7,iM 73 1,iN 74 73,iB 75 .add 72 74,iM 76 9,iA 77 (.conv .u32 (Tm 76)),iX 78 1 71 75,iS 1 78 77]
def Fd:Rg:=[iC 79 .add 34 1,iM 34 79]
def UL:aA:=(sq Qu (.seq (.cond (Tm 35) .skip (.exit 0)) (.seq (.block 1 (sq i0 (sq i4 (.seq (sq i5 (.block 2 (.loop UK))) (.region UM))))) (.region Fd))))
def UN:Rg:=[iM 80 6,iK 81 141 80,iE 82 81 0,iE 83 81 1,iM 4 82,iM 5 83]
def LP:aA:=(sq Qr (.seq (sq Qs (.cond (Tm 17) (sq ix .ret) .skip)) (dq Qt (sq iy (.seq (sq iz (.block 0 (.loop UL))) (sq UN .ret))))))
def aCC:List Nat:=[]
def E6:aS:=⟨2,84,LP,[.tmp 4,.tmp 5]⟩
def Ec:Rg:=[iI 2 0]
def Ed:Rg:=[iM 6 0,iK 7 138 6,iM 3 7]
def Ee:Rg:=[iM 8 3,iC 9 .eql 8 0]
def Ef:Rg:=[iI 2 0]
def Eg:Rg:=[iM 10 3,iC 11 .sub 10 1,iC 12 .mul 11 32,iM 4 12]
def Eh:Rg:=[iM 13 0,iM 14 3,iC 15 .sub 14 1,iX 16 1 13 15,iL 17 16,iM 5 17]
def Ei:Rg:=[iM 18 5,iA 19 (.bin .gtr (Tm 18) (.const (.int .u32 0)))]
def Ej:Rg:=[iM 22 4,iC 23 .add 22 1,iM 4 23]
def Ek:Rg:=[iM 20 5,iA 21 (.bin .shr (Tm 20) (.const (.int .u64 1))),iM 5 21]
def Ea:aA:=(.seq (sq Ei (.cond (Tm 19) .skip (.exit 0))) (.seq (.block 1 (.region Ej)) (.region Ek)))
def qi:Rg:=[iM 24 4,iM 2 24]
def EW:aA:=(sq Ec (sq Ed (.seq (sq Ee (.cond (Tm 9) (sq Ef .ret) .skip)) (sq Eg (.seq (sq Eh (.block 0 (.loop Ea))) (sq qi .ret))))))
def asD:List Nat:=[]
def bd:aS:=⟨1,25,EW,[.tmp 2]⟩
def Qj:Rg:=[iZ 4,iI 5 0]
def Qk:Rg:=[iM 8 0,iK 9 137 8,iM 10 9,gM 11 1 10 false,gK 12 137 11 10 false,iQ 13 10 12]
def iw:Rg:=[iZ 4,iI 5 2]
def Ql:Rg:=[iM 14 0,iK 15 135 14,iM 16 1,iK 17 135 16,iM 0 15,iM 1 17]
def Qm:Rg:=[iM 18 1,iN 19 18,iC 20 .gtr 19 0]
def Qn:Rg:=[iM 22 0,iM 23 1,iK2 24 136 22 23,iM 21 24,iE 25 21 0,iE 26 21 1,iM 6 25,iM 7 26]
def Qo:Rg:=[iM 27 1,iM 28 7,iM 0 27,iM 1 28]
def Qh:aA:=(.seq (sq Qm (.cond (Tm 20) .skip (.exit 0))) (.block 1 (sq Qn (.region Qo))))
def Qp:Rg:=[iM 29 0,iM 4 29,iI 5 0]
def LG:aA:=(sq Qj (.seq (sq Qk (.cond (Tm 13) (sq iw .ret) .skip)) (sq Ql (.seq (.block 0 (.loop Qh)) (sq Qp .ret)))))
def aCB:List Nat:=[]
def Ex:aS:=⟨2,30,LG,[.tmp 4,.tmp 5]⟩
def Qb:Rg:=[iZ 4,iZ 5,iI 6 0]
def Qc:Rg:=[iM 10 0,iK 11 137 10,iM 12 11,gM 13 1 12 false,gK 14 137 13 12 false,iQ 15 12 14,iM 9 15]
def iv:Rg:=[iZ 4,iZ 5,iI 6 2]
def Qd:Rg:=[iM 17 1,iK 18 138 17,iC 19 .eql 18 0,iM 16 19]
def Qe:Rg:=[iZ 4,iZ 5,iI 6 3]
def Qf:Rd:=[(iM 21 0,true),(iM 22 0,false),(iK 23 138 22,true),(iA 24 (.slice 1 (Tm 21) none (some (Tm 23)) none),true),(iM 25 1,true),(iM 26 1,true),(iK 27 138 26,true),(iA 28 (.slice 1 (Tm 25) none (some (Tm 27)) none),false),(iK2 29 136 24 28,true),(iM 20 29,false),(iE 30 20 0,false),(iE 31 20 1,false),(iM 7 30,false),(iM 8 31,false)]
def Qg:Rg:=[iM 32 7,iM 33 8,iM 4 32,iM 5 33,iI 6 0]
def LE:aA:=(sq Qb (.seq (.block 0 (sq Qc (.cond (Tm 9) (sq iv .ret) (sq Qd (.cond (Tm 16) (sq Qe .ret) .skip))))) (dq Qf (sq Qg .ret))))
def aBZ:List Nat:=[]
def Er:aS:=⟨2,34,LE,[.tmp 4,.tmp 5,.tmp 6]⟩
def q9:Rg:=[iZ 4,iA 5 (.mv (.const (.int .u32 0)))]
def rc:Rg:=[iM 9 0,iN 10 9,iA 11 (.aWH 1 4 [(.int .u32 0)] (Tm 10) (Tm 10)),iM 6 11]
def re:Rg:=[iA 7 (.mv (.const (.int .u64 0)))]
def rg:Rg:=[iM 12 0,iN 13 12,iC 14 .sub 13 1,iM 8 14]
def rh:Rg:=[iM 15 8,iC 16 .geq 15 0]
def ri:Rg:=[iM 19 7,iA 20 (.bin .shl (Tm 19) (.const (.int .u64 32))),iM 21 0,iM 22 8,iX 23 1 21 22,iL 24 23,iA 25 (.conv .u64 (Tm 24)),iB 26 .or 20 25,iM 7 26]
def rj:Rg:=[iM 27 6,iM 28 8,iM 29 7,iM 30 1,iA 31 (.conv .u64 (Tm 30)),iB 32 .quo 29 31,iA 33 (.conv .u32 (Tm 32)),iX 34 1 27 28,iS 1 34 33]
def rk:Rg:=[iM 35 7,iM 36 1,iA 37 (.conv .u64 (Tm 36)),iB 38 .rem 35 37,iM 7 38]
def rp:Rg:=[iM 17 8,iC 18 .sub 17 1,iM 8 18]
def qy:aA:=(.seq (sq rh (.cond (Tm 16) .skip (.exit 0))) (.seq (.block 1 (sq ri (sq rj (.region rk)))) (.region rp)))
def cg:Rg:=[iM 39 6,iM 40 6,iK 41 138 40,iA 42 (.slice 1 (Tm 39) none (some (Tm 41)) none),iM 43 7,iA 44 (.conv .u32 (Tm 43)),iM 4 42,iM 5 44]
def zS:aA:=(sq q9 (sq rc (sq re (.seq (sq rg (.block 0 (.loop qy))) (sq cg .ret)))))
def adF:List Nat:=[]
def LT:aS:=⟨2,45,zS,[.tmp 4,.tmp 5]⟩
def adJ:Rg:=[iZ 4]
def adK:Rg:=[iM 9 0,iN 10 9,iC 11 .add 10 1,iA 12 (.aWH 1 4 [(.int .u32 0)] (Tm 11) (Tm 11)),iM 5 12]
def adL:Rg:=[iA 6 (.mv (.const (.int .u64 0)))]
def adM:Rg:=[iM 13 0,iN 14 13,iI 15 0]
def adN:Rg:=[iB 16 .lss 15 14]
def adO:Rg:=[iM 17 15,iX 18 1 13 15,iL 19 18,iM 7 17,iM 8 19]
def adP:Rg:=[iM 20 6,iM 21 8,iA 22 (.conv .u64 (Tm 21)),iM 23 1,iB 24 .shl 22 23,iB 25 .or 20 24,iM 6 25]
def adQ:Rg:=[iM 26 5,iM 27 7,iM 28 6,iA 29 (.conv .u32 (Tm 28)),iX 30 1 26 27,iS 1 30 29]
def adR:Rg:=[iM 31 6,iA 32 (.bin .shr (Tm 31) (.const (.int .u64 32))),iM 6 32]
def adS:Rg:=[iC 33 .add 15 1,iM 15 33]
def Q3:aA:=(sq adN (.seq (.cond (Tm 16) .skip (.exit 0)) (.seq (.block 1 (sq adO (sq adP (sq adQ (.region adR))))) (.region adS))))
def Q4:Rg:=[iM 34 5,iM 35 0,iN 36 35,iM 37 6,iA 38 (.conv .u32 (Tm 37)),iX 39 1 34 36,iS 1 39 38]
def Q5:Rg:=[iM 40 5,iM 4 40]
def UV:aA:=(sq adJ (sq adK (sq adL (.seq (sq adM (.block 0 (.loop Q3))) (sq Q4 (sq Q5 .ret))))))
def aJT:List Nat:=[]
def nup:aS:=⟨2,41,UV,[.tmp 4]⟩
def bg:Rg:=[iZ 4,iZ 5]
def bi:Rg:=[iM 21 0,iM 22 1,iK2 23 129 21 22,iC 24 .lss 23 0]
def bj:Rg:=[iM 25 0,iK 26 135 25,iZ 4,iM 5 26]
def bk:Rg:=[iM 27 1,iN 28 27,iC 29 .eql 28 1]
def bn:Rg:=[iM 31 0,iM 32 1,iA 33 (.aWP 1 (Tm 32) (Ci 0)),iL 34 33,iK2 35 140 31 34,iM 30 35,iE 36 30 0,iE 37 30 1,iM 6 36,iM 7 37]
def bo:Rg:=[iM 38 6,iM 39 7,iA 40 (.conv .u64 (Tm 39)),iK 41 132 40,iM 4 38,iM 5 41]
def br:Rg:=[iA 8 (.mv (.const (.int .u64 0)))]
def bs:Rg:=[iM 42 1,iM 43 1,iN 44 43,iC 45 .sub 44 1,iX 46 1 42 45,iL 47 46,iM 48 8,iB 49 .shl 47 48,iA 50 (.bin .lss (Tm 49) (.const (.int .u32 2147483648)))]
def bu:Rg:=[iM 51 8,iA 52 (.bin .add (Tm 51) (.const (.int .u64 1))),iM 8 52]
def be:aA:=(.seq (sq bs (.cond (Tm 50) .skip (.exit 0))) (.block 1 (.region bu)))
def QB:Rd:=[(iM 53 0,false),(iM 54 8,false),(iK2 55 143 53 54,true),(iM 56 1,true),(iM 57 8,true),(iK2 58 143 56 57,true),(iM 59 1,true),(iN 60 59,true),(iA 61 (.slice 1 (Tm 58) none (some (Tm 60)) none),false),(iM 9 55,false),(iM 10 61,false)]
def QC:Rg:=[iM 62 10,iN 63 62,iM 11 63]
def QD:Rg:=[iM 64 9,iN 65 64,iM 66 11,iB 67 .sub 65 66,iA 68 (.aWH 1 4 [(.int .u32 0)] (Tm 67) (Tm 67)),iM 12 68]
def QE:Rd:=[(iM 69 10,false),(iM 70 11,false),(iC 71 .sub 70 1,false),(iX 72 1 69 71,false),(iL 73 72,false),(iA 74 (.conv .u64 (Tm 73)),false),(iM 75 10,false),(iM 76 11,false),(iC 77 .sub 76 2,false),(iX 78 1 75 77,false),(iL 79 78,false),(iA 80 (.conv .u64 (Tm 79)),false),(iM 13 74,false),(iM 14 80,false)]
def QF:Rg:=[iM 81 12,iN 82 81,iC 83 .sub 82 1,iM 15 83]
def QG:Rg:=[iM 84 15,iC 85 .geq 84 0]
def zF:Rd:=[(iM 88 9,false),(iM 89 15,false),(iM 90 11,false),(iB 91 .add 89 90,false),(iX 92 1 88 91,false),(iL 93 92,false),(iA 94 (.conv .u64 (Tm 93)),false),(iA 95 (.bin .shl (Tm 94) (.const (.int .u64 32))),false),(iM 96 9,false),(iM 97 15,false),(iM 98 11,false),(iB 99 .add 97 98,false),(iC 100 .sub 99 1,false),(iX 101 1 96 100,false),(iL 102 101,false),(iA 103 (.conv .u64 (Tm 102)),false),(iB 104 .or 95 103,false),(iM 16 104,false)]
def zG:Rd:=[(iM 105 16,false),(iM 106 13,false),(iB 107 .quo 105 106,false),(iM 108 16,false),(iM 109 13,false),(iB 110 .rem 108 109,false),(iM 17 107,false),(iM 18 110,false)]
def QH:Rg:=[iM 111 17,iA 112 (.bin .geq (Tm 111) (.const (.int .u64 4294967296))),iM 113 112,gM 114 17 113 false,gM 115 14 113 false,gB 116 .mul 114 115 113 false,gM 117 18 113 false,iG 118 (.bin .shl (Tm 117) (.const (.int .u64 32))) 113 false,gM 119 9 113 false,gM 120 15 113 false,gM 121 11 113 false,gB 122 .add 120 121 113 false,gC 123 .sub 122 2 113 false,iG 124 (.aWP 1 (Tm 119) (Tm 123)) 113 false,gL 125 124 113 false,iG 126 (.conv .u64 (Tm 125)) 113 false,gB 127 .or 118 126 113 false,gB 128 .gtr 116 127 113 false,iQ 129 113 128]
def zH:Rg:=[iM 130 17,iA 131 (.bin .sub (Tm 130) (.const (.int .u64 1))),iM 17 131]
def zI:Rg:=[iM 132 18,iM 133 13,iB 134 .add 132 133,iM 18 134]
def zJ:Rg:=[iM 135 18,iA 136 (.bin .geq (Tm 135) (.const (.int .u64 4294967296)))]
def sN:aA:=(.seq (sq QH (.cond (Tm 129) .skip (.exit 4))) (.block 5 (sq zH (sq zI (sq zJ (.cond (Tm 136) (.exit 4) .skip))))))
def zK:Rg:=[iM 137 9,iM 138 15,iM 139 15,iM 140 11,iB 141 .add 139 140,iC 142 .add 141 1,iA 143 (.slice 1 (Tm 137) (some (Tm 138)) (some (Tm 142)) none),iM 144 10,iM 145 17,iA 146 (.call 142 [(Tm 143),(Tm 144),(Tm 145)])]
def zL:Rg:=[iM 147 17,iA 148 (.bin .sub (Tm 147) (.const (.int .u64 1))),iM 17 148]
def zM:Rg:=[iM 149 9,iM 150 15,iM 151 15,iM 152 11,iB 153 .add 151 152,iC 154 .add 153 1,iA 155 (.slice 1 (Tm 149) (some (Tm 150)) (some (Tm 154)) none),iM 156 10,iK2 157 139 155 156]
def sO:Rg:=[iM 158 12,iM 159 15,iM 160 17,iA 161 (.conv .u32 (Tm 160)),iX 162 1 158 159,iS 1 162 161]
def QI:Rg:=[iM 86 15,iC 87 .sub 86 1,iM 15 87]
def zD:aA:=(.seq (sq QG (.cond (Tm 85) .skip (.exit 2))) (.seq (.block 3 (dq zF (dq zG (.seq (.block 4 (.loop sN)) (.seq (sq zK (.cond (Tm 146) (sq zL (.region zM)) .skip)) (.region sO)))))) (.region QI)))
def zN:Rg:=[iM 163 11,iA 164 (.aWH 1 4 [(.int .u32 0)] (Tm 163) (Tm 163)),iM 19 164]
def zO:Rg:=[iM 165 19,iN 166 165,iI 167 0]
def QJ:Rg:=[iB 168 .lss 167 166]
def QK:Rg:=[iM 169 167,iM 20 169]
def QL:Rd:=[(iM 170 19,false),(iM 171 20,false),(iM 172 9,false),(iM 173 20,false),(iC 174 .add 173 1,false),(iX 175 1 172 174,false),(iL 176 175,false),(iA 177 (.conv .u64 (Tm 176)),false),(iA 178 (.bin .shl (Tm 177) (.const (.int .u64 32))),false),(iM 179 9,false),(iM 180 20,false),(iX 181 1 179 180,false),(iL 182 181,false),(iA 183 (.conv .u64 (Tm 182)),false),(iB 184 .or 178 183,false),(iM 185 8,false),(iB 186 .shr 184 185,false),(iA 187 (.conv .u32 (Tm 186)),false),(iX 188 1 170 171,false),(iS 1 188 187,true)]
def QM:Rg:=[iC 189 .add 167 1,iM 167 189]
def zE:aA:=(sq QJ (.seq (.cond (Tm 168) .skip (.exit 6)) (.seq (.block 7 (sq QK (.draw QL))) (.region QM))))
def QN:Rd:=[(iM 190 12,true),(iM 191 12,false),(iK 192 138 191,true),(iA 193 (.slice 1 (Tm 190) none (some (Tm 192)) none),true),(iM 194 19,true),(iM 195 19,true),(iK 196 138 195,true),(iA 197 (.slice 1 (Tm 194) none (some (Tm 196)) none),false),(iM 4 193,false),(iM 5 197,false)]
def wO:aA:=(sq bg (.seq (sq bi (.cond (Tm 24) (sq bj .ret) .skip)) (.seq (sq bk (.cond (Tm 29) (sq bn (sq bo .ret)) .skip)) (sq br (.seq (.block 0 (.loop be)) (dq QB (sq QC (sq QD (dq QE (.seq (sq QF (.block 2 (.loop zD))) (sq zN (.seq (sq zO (.block 6 (.loop zE))) (dq QN .ret)))))))))))))
def Uu:List Nat:=[]
def BE:aS:=⟨2,198,wO,[.tmp 4,.tmp 5]⟩
def MB:Rg:=[iT 6 false]
def MC:Rg:=[iA 7 (.mv (.const (.int .u64 0))),iA 8 (.mv (.const (.int .u64 0)))]
def MD:Rg:=[iM 13 1,iN 14 13,iI 15 0]
def MF:Rg:=[iB 16 .lss 15 14]
def MG:Rg:=[iM 17 15,iX 18 1 13 15,iL 19 18,iM 9 17,iM 10 19]
def MH:Rg:=[iM 20 7,iM 21 2,iM 22 10,iA 23 (.conv .u64 (Tm 22)),iB 24 .mul 21 23,iB 25 .add 20 24,iM 7 25]
def MI:Rg:=[iM 26 0,iM 27 9,iX 28 1 26 27,iL 29 28,iA 30 (.conv .u64 (Tm 29)),iM 31 7,iA 32 (.bin .and (Tm 31) (.const (.int .u64 4294967295))),iB 33 .sub 30 32,iM 34 8,iB 35 .sub 33 34,iM 11 35]
def MJ:Rg:=[iM 36 0,iM 37 9,iM 38 11,iA 39 (.conv .u32 (Tm 38)),iX 40 1 36 37,iS 1 40 39]
def MK:Rg:=[iM 41 11,iA 42 (.bin .shr (Tm 41) (.const (.int .u64 63))),iM 8 42]
def ML:Rg:=[iM 43 7,iA 44 (.bin .shr (Tm 43) (.const (.int .u64 32))),iM 7 44]
def HP:Rg:=[iC 45 .add 15 1,iM 15 45]
def HO:aA:=(sq MF (.seq (.cond (Tm 16) .skip (.exit 0)) (.seq (.block 1 (sq MG (sq MH (sq MI (sq MJ (sq MK (.region ML))))))) (.region HP))))
def HQ:Rg:=[iM 46 0,iM 47 1,iN 48 47,iX 49 1 46 48,iL 50 49,iA 51 (.conv .u64 (Tm 50)),iM 52 7,iB 53 .sub 51 52,iM 54 8,iB 55 .sub 53 54,iM 12 55]
def HR:Rg:=[iM 56 0,iM 57 1,iN 58 57,iM 59 12,iA 60 (.conv .u32 (Tm 59)),iX 61 1 56 58,iS 1 61 60]
def HS:Rg:=[iM 62 12,iA 63 (.bin .shr (Tm 62) (.const (.int .u64 63))),iA 64 (.bin .eql (Tm 63) (.const (.int .u64 1))),iM 6 64]
def sB:aA:=(sq MB (sq MC (.seq (sq MD (.block 0 (.loop HO))) (sq HQ (sq HR (sq HS .ret))))))
def Fl:List Nat:=[]
def tH:aS:=⟨3,65,sB,[.tmp 6]⟩
def QR:Rg:=[iA 4 (.mv (.const (.int .u64 0)))]
def QS:Rg:=[iM 7 1,iN 8 7,iI 9 0]
def QT:Rg:=[iB 10 .lss 9 8]
def QU:Rg:=[iM 11 9,iX 12 1 7 9,iL 13 12,iM 5 11,iM 6 13]
def QV:Rg:=[iM 14 4,iM 15 0,iM 16 5,iX 17 1 15 16,iL 18 17,iA 19 (.conv .u64 (Tm 18)),iM 20 6,iA 21 (.conv .u64 (Tm 20)),iB 22 .add 19 21,iB 23 .add 14 22,iM 4 23]
def QW:Rg:=[iM 24 0,iM 25 5,iM 26 4,iA 27 (.conv .u32 (Tm 26)),iX 28 1 24 25,iS 1 28 27]
def QX:Rg:=[iM 29 4,iA 30 (.bin .shr (Tm 29) (.const (.int .u64 32))),iM 4 30]
def QY:Rg:=[iC 31 .add 9 1,iM 9 31]
def QP:aA:=(sq QT (.seq (.cond (Tm 10) .skip (.exit 0)) (.seq (.block 1 (sq QU (sq QV (sq QW (.region QX))))) (.region QY))))
def QZ:Rg:=[iM 32 0,iM 33 1,iN 34 33,iX 35 1 32 34,iL 36 35,iM 37 4,iA 38 (.conv .u32 (Tm 37)),iB 39 .add 36 38,iX 40 1 32 34,iS 1 40 39]
def tP:aA:=(sq QR (.seq (sq QS (.block 0 (.loop QP))) (.region QZ)))
def Jv:List Nat:=[]
def wP:aS:=⟨2,41,tP,[]⟩
open Go Go.RowKit Go.ChangeShapes Go.WideShapes
inductive AT where
 | one (ct:CT)
 | struct (cts:List CT)
 deriving Inhabited
def S0 (P:Program) (n:Nat) (t:TypeId):Option AT :=
 match P.underlying t with
 | some .bool=>some (.one .bool)
 | some (.int k)=>some (.one (.int k))
 | some .string=>some (.one .str)
 | some (.slice _)=>match fO P n t with
  | some [ct]=>some (.one ct)
  | _=>none
 | some (.struct _)=>(fO P n t).map .struct
 | _=>none
def AU (P:Program) (n:Nat):List TypeId→Option (List AT)
 | []=>some []
 | t::ts=>match S0 P n t,AU P n ts with
  | some a,some i=>some (a::i)
  | _,_=>none
inductive AT.Ty:AT→PV→Prop
 | one {ct:CT} {pv:PV} (h:PV.Ty ct pv):AT.Ty (.one ct) pv
 | struct {cts:List CT} {pvs:List PV} (hl:pvs.length=cts.length) (h:∀ (j:Nat) pv ct,pvs[j]?=some pv→cts[j]?=some ct→PV.Ty ct pv):AT.Ty (.struct cts) (.agg pvs)
def AT.TyL:List AT→List PV→Prop
 | [],[]=>True
 | a::i,p::ps=>AT.Ty a p∧AT.TyL i ps
 | _,_=>False
section
variable {H:Type} {enc:TypeId × Value→H} {P:Program} {W:World} {sp:Nat→Bool} {held:Bool}
theorem aIM {r:Reach} {base:Nat} (num:Nat→FuncId) {t:TypeId} {v:Value} {d:DataW H} {ps:List MemPlace} {n:Nat} {a:AT}
  (i:Value.okWide P W r base t v) (U:DataW.Trod enc P W 0 sp held t v d ps) (p:S0 P n t=some a):∃ pv,aU (Env.of W num) pv v∧AT.Ty a pv:=by
 unfold S0 at p;cases n with
 | zero =>
  split at p
  ·rename_i l;cases p;obtain⟨b,rfl⟩:=okWide_bool l i;obtain⟨pv,J,R⟩:=rQ (n:=1) (ct:=.bool) num (by simp[Value.cells]) U (by simp[fO,l]);exact⟨pv,J,.one R⟩
  ·rename_i k l;cases p;obtain⟨b,rfl⟩:=okWide_int l i;obtain⟨pv,J,R⟩:=rQ (n:=1) (ct:=.int k) num (by simp[Value.cells]) U (by simp[fO,l]);exact⟨pv,J,.one R⟩
  ·rename_i l;cases p;obtain⟨b,rfl⟩:=okWide_string l i;obtain⟨pv,J,R⟩:=rQ (n:=1) (ct:=.str) num (by simp[Value.cells]) U (by simp[fO,l]);exact⟨pv,J,.one R⟩
  ·simp[fO] at p
  ·simp[fO] at p
  ·cases p
 | succ n =>
  split at p
  ·rename_i l;cases p;obtain⟨b,rfl⟩:=okWide_bool l i;obtain⟨pv,J,R⟩:=rQ (n:=n+1) (ct:=.bool) num (by simp[Value.cells]) U (by simp[fO,l]);exact⟨pv,J,.one R⟩
  ·rename_i k l;cases p;obtain⟨b,rfl⟩:=okWide_int l i;obtain⟨pv,J,R⟩:=rQ (n:=n+1) (ct:=.int k) num (by simp[Value.cells]) U (by simp[fO,l]);exact⟨pv,J,.one R⟩
  ·rename_i l;cases p;obtain⟨b,rfl⟩:=okWide_string l i;obtain⟨pv,J,R⟩:=rQ (n:=n+1) (ct:=.str) num (by simp[Value.cells]) U (by simp[fO,l]);exact⟨pv,J,.one R⟩
  ·rename_i e l;split at p
   ·rename_i ct hc;cases p;obtain⟨x,len,cap,rfl⟩:=okWide_slice l i;obtain⟨pv,J,R⟩:=rQ num (by simp[Value.cells]) U hc;exact⟨pv,J,.one R⟩
   ·cases p
  ·rename_i fs l;rw[aXO] at p;obtain⟨cts,hc,rfl⟩:=p;obtain⟨α,J,R,h3⟩:=S1 num l i U hc;exact⟨_,J,.struct R h3⟩
  ·cases p
theorem L3 {r:Reach} {base:Nat} (num:Nat→FuncId) {n:Nat}:∀ {ts:List TypeId} {vs:List Value} {ds:List (DataW H)} {ps:List MemPlace} {l:List AT},DataW.TrodAll enc P W 0 sp held ts vs ds ps →
  (∀ (j:Nat) t v,ts[j]?=some t→vs[j]?=some v→Value.okWide P W r base t v)→AU P n ts=some l→∃ i,dY (Env.of W num) i vs∧AT.TyL l i
 | [],[],_,_,l,_,_,h=>by simp[AU] at h;subst h;exact⟨[],.nil,trivial⟩
 | [],_::_,_,_,_,h,_,_=>h.elim
 | _::_,[],[],_,_,h,_,_=>h.elim
 | _::_,[],_::_,_,_,h,_,_=>h.elim
 | _::_,_::_,[],_,_,h,_,_=>h.elim
 | t::ts,v::vs,d::ds,ps,l,h,R,J=>by
  obtain⟨p,q,h1,h2,rfl⟩:=h;simp only[AU] at J;split at J
  ·rename_i a U e1 e2;cases J;obtain⟨pv,r1,t1⟩:=aIM num (R 0 t v rfl rfl) h1 e1;obtain⟨i,r2,t2⟩:=L3 num h2 (fun j t v a b=>R (j+1) t v (by simpa using a) (by simpa using b)) e2;exact⟨pv::i,.cons r1 r2,t1,t2⟩
  ·cases J
theorem TrodAll.length:∀ {ts:List TypeId} {vs:List Value} {ds:List (DataW H)} {ps:List MemPlace},DataW.TrodAll enc P W 0 sp held ts vs ds ps→ds.length=ts.length
 | [],[],[],_,_=>rfl
 | [],[],_::_,_,h=>h.elim
 | [],_::_,_,_,h=>h.elim
 | _::_,[],[],_,h=>h.elim
 | _::_,[],_::_,_,h=>h.elim
 | _::_,_::_,[],_,h=>h.elim
 | t::ts,v::vs,d::ds,ps,h=>by obtain⟨p,q,l,i,rfl⟩:=h;simp[TrodAll.length i]
end
theorem xc {H:Type} {enc:TypeId × Value→H} {P:Program} {f:FuncId} {fn:Func} {s:ChangeSpec} {apart fresh i:Bool} {bt:TypeId} {num:Nat→FuncId} {name n:Nat} {ats:List AT}
  (hl:laidOutB P=true) (ζ:fn.params.toList.all (fun t=>P.readableRec t&&decide (t<P.types.size))=true) (ε:fn.resultTypes=#[bt]) (δ:P.underlying bt=some .bool) (hv:s.vars=[])
  (hs:∀ ds:List (DataW H),ds.length=fn.params.toList.length→(s.fn H ds).results=[.lit (.bool true)]∧(s.fn H ds).args=ds∧(s.fn H ds).vars=[])
  (U:num name=f) (ha:AU P n fn.params.toList=some ats) (h:∀ J,AT.TyL ats J→aH ⟨P,num⟩ name J PH.nil (aL (.bool true)))
  {W:World} {base:Nat} {args:Array Value} {ds gs:List (DataW H)} {l:List MemPlace}
  (β:∀ (j:Nat) t v,fn.params[j]?=some t→args[j]?=some v→Value.okWide P W .any base t v) (hW:DataW.Whole enc P fn.params.toList s.vars apart W args.toList ds gs l) :
  Calls P f args W fun e W'=>∃ v,e=.returned v∧s.post enc P fn apart fresh i false W args v W':=by
 have α:∀ t∈fn.params.toList,P.readableRec t=true∧t<P.types.size:=fun t ht=>by have:=aYF.1 ζ t ht;simpa using this
 have γ:=hW;obtain⟨p,q,hA,hV,rfl,hz,hn⟩:=hW;rw[hv] at hV;obtain⟨rfl,rfl⟩:=trodVars_none hV;obtain⟨J,hr,ht⟩:=L3 num hA (fun j t v a b=>β j t v (by simpa using a) (by simpa using b)) ha;have R:=TrodAll.length hA;subst U;obtain⟨r1,r2,r3⟩:=hs (ds++[]) (by simpa using R);refine (abY (C:=⟨P,num⟩) (h J ht) hr).mono fun e W' he=>?_;obtain⟨rfl,hb⟩:=he;exact⟨_,rfl,aeA hl γ hb α ε δ hv r1 (by rw[r2]; simp) r3⟩
attribute [go_sem] nY fS setCells PV.cells PV.one bS storeAt cL loadCells dS bnd PV.slice PV.intOf PV.eqs PV.eq1 PV.un keyOf KS.of KS.ofs KS.sh List.all_cons List.all_nil a0Y List.set_cons_succ aYE a0B aXV aYY aYF Bool.and_self
attribute [go_sem] Bool.bne_false Bool.bne_true Int.le_refl Int.lt_irrefl decide_true decide_false exists_eq_left exists_eq_left' aXI List.length_replicate aZL Int.natCast_nonneg Option.isSome_some Option.isSome_none a0I Option.getD_none decide_eq_true_eq decide_eq_false_iff_not aYD aZP aXL Nat.sub_zero
def aZ (xs:List Int):List (List PV):=xs.map fun n=>[.int .i64 n]
theorem bF {a b:Int} (h:a≠b):(a==b)=false:=by simp[h]
theorem bM {a b:Int} (h:a=b):(a==b)=true:=by simp[h]
theorem eT {a b:Int} (h:a≠b):(a != b)=true:=by simp[h]
theorem cE {a b:Int} (h:a=b):(a != b)=false:=by simp[h]
section
variable {H:PH}
@[go_sem] theorem PH.set_set (o:Nat) (x y:bX):(H.set o x).set o y=H.set o y:=PH.ext fun q=>by
 simp only[aQ]; split<;>rfl
@[go_sem] theorem cD (o:Nat) (x:bX):(H.set o x) o=some x:=by simp only[aQ,if_true]
end
section
variable {C:Ctx} {K:bT} {F:PF} {H:PH}
theorem PH.nK (o:Nat) (x:bX):H.over .nil (PH.nil.set o x)=H.set o x:=PH.ext fun q=>by
 rw[fW]; simp only[aQ,OO]; split<;>simp_all
theorem PH.rG (o:Nat) (x y:bX):H.over (PH.nil.set o x) (PH.nil.set o y)=H.set o y:=PH.ext fun q=>by
 rw[fW]; simp only[aQ,OO]; split<;>simp_all
theorem lF {name:Nat} {vs:List PV} {i:PH} {R:PV→PH→Prop} {args:List aO} {d:Option Nat} {K:PF→PH→Prop} (h:aH C name vs i R) (p:aO.evs F args=some vs) (l:i.le H)
  (J:∀ r H',R r H'→kS H i H'→K (F.put d r) (H.over i H')):gY C name args [] d K F H :=
 .inl ⟨vs,i,R,by rw[p]; simp,l,h,J⟩
theorem bB {res:List dN} {R:PV→PH→Prop} {vs:List PV} {e:kL} (he:e=.normal∨e=.ret) (i:PH) (h:dN.evs F H res=some vs) (l:i.le H) (U:R (dB vs) i):aW res R e F H:=by
 have key:∃ vs,dN.evs F H res=some vs∧∃ p J H2,gT (PF.nil.set 0 (dB vs)) H p J∧H2.le J∧∃ u,p 0=some u∧R u H2 :=
  ⟨vs,h,_,H,i,.refl _ _,l,dB vs,by rw[jM,if_pos rfl],U⟩
 rcases he with rfl | rfl<;>exact key
theorem atG {t o s k:Nat} {rs:List (List PV)} {R:PV→PH→Prop} {e:kL} (J:e=.normal∨e=.ret) (h:F t=some (.osl o s 0 k)) (U:H o=some (.rows s rs)) (hk:k≤rs.length) (p:R (.sl s (rs.take k)) .nil) :
  aW [.tmp t] R e F H:=by
 have key:∃ vs,dN.evs F H [.tmp t]=some vs∧∃ i l H2,gT (PF.nil.set 0 (dB vs)) H i l∧H2.le l∧∃ u,i 0=some u∧R u H2:=by refine⟨[.osl o s 0 k],by rw[jI,lP,h,mN],_,_,.nil,.step o U (.refl _ _),PH.nil_le,.sl s (rs.take k),?_,p⟩;have:0+k≤rs.length:=Om;simp only[PF.frz,jM,if_true,dB,aYX,PV.frz,PV.qV,PV.cN,true_and,if_pos this,aYO]
 rcases J with rfl | rfl<;>exact key
def cG (v:PV) (r:PV) (H:PH):Prop:=Co r v∧H=PH.nil
theorem aH.aKE {name:Nat} {args:List PV} {H:PH} {v:PV} (h:aH C name args H (cG v)):aH C name args H (aL v) :=
 h.post fun r H' ⟨i,l⟩=>⟨v,i,rfl,l⟩
theorem aL.aKE {v r:PV} {H:PH} (h:aL v r H):cG v r H:=by
 obtain⟨rfl,rfl⟩:=h;exact⟨.refl _,rfl⟩
theorem rO {s b:Nat} {y:PV} {src:List (List PV)} {K:PV→PH→Prop} (J:dS H s y=some src) (p:roomFor 0 src.length b) (i:src=[]→K .aB H)
  (l:src≠[]→∀ o,H o=none→K (.osl o s 0 src.length) (H.set o (.rows s src))):mF H s b .aB y K:=⟨src,J,p,i,l⟩
theorem I4 {o s b len:Nat} {rs:List (List PV)} {y:PV} {src:List (List PV)} {K:PV→PH→Prop} (U:dS H s y=some src) (R:roomFor len src.length b) (J:H o=some (.rows s rs)) (p:len≤rs.length)
  (i:K (.osl o s 0 (len+src.length)) (H.set o (.rows s (rs.take len++src))))
  (l:∀ o',H o'=none→K (.osl o' s 0 (len+src.length)) (H.set o' (.rows s (rs.take len++src)))):mF H s b (.osl o s 0 len) y K :=
 ⟨src,U,rfl,rfl,R,rs,J,p,i,l⟩
end
def bO (H:PH) (s:Nat) (v:PV) (rows:List (List PV)):Prop :=
 (rows=[]∧v=.aB)∨∃ q rs,v=.osl q s 0 rows.length∧H q=some (.rows s rs)∧rows.length≤rs.length∧rs.take rows.length=rows
def Seen (s:Nat) (v:PV) (rows:List (List PV)):Prop:=(rows=[]∧v=.aB)∨v=.sl s rows
section
variable {C:Ctx} {K:bT} {F:PF} {H:PH} {s b:Nat} {v y:PV} {rows src:List (List PV)}
theorem bO.nil:bO H s .aB []:=.inl ⟨rfl,rfl⟩
theorem bO.view (h:bO H s v rows):dS H s v=some rows:=by
 rcases h with ⟨rfl,rfl⟩ | ⟨q,rs,rfl,h1,h2,h3⟩
 ·rfl
 ·have:0+rows.length≤rs.length:=Om;simp only[dS,if_true,h1,true_and,if_pos this,aYO,h3]
theorem Seen.view (h:Seen s v rows):dS H s v=some rows:=by
 rcases h with ⟨rfl,rfl⟩ | rfl
 ·rfl
 ·simp[dS]
theorem bO.ext {H':PH} (h:bO H s v rows) (i:∀ o x,H o=some x→H' o=some x):bO H' s v rows:=by
 rcases h with h | ⟨q,rs,h0,h1,h2,h3⟩
 ·exact .inl h
 ·exact .inr ⟨q,rs,h0,i q _ h1,h2,h3⟩
theorem fX {K:PV→PH→Prop} (h:bO H s v rows) (hy:dS H s y=some src) (hr:roomFor rows.length src.length b)
  (U:∀ v' H',bO H' s v' (rows++src)→(∀ o x,H o=some x→(∀ l,v≠.osl o s 0 l)→H' o=some x)→K v' H'):mF H s b v y K:=by
 rcases h with ⟨rfl,rfl⟩ | ⟨q,rs,rfl,h1,h2,h3⟩
 ·refine⟨src,hy,hr,fun e=>?_,fun e o R=>?_⟩
  ·subst e;exact U _ _ (.inl ⟨rfl,rfl⟩) fun o x R _=>R
  ·refine U _ _ (.inr ⟨o,src,rfl,by simp only[aQ,if_true],aXL _,by simp⟩) fun o' x i _=>?_;have:o'≠o:=by rintro rfl; rw[R] at i; cases i
   simp only[aQ,if_neg this,i]
 ·have p:(rows++src).length=rows.length+src.length:=aXN;refine⟨src,hy,rfl,rfl,hr,rs,h1,h2,?_,fun o R=>?_⟩
  ·rw[h3];refine U _ _ (.inr ⟨q,rows++src,by rw[p],by simp only[aQ,if_true],aXL _,aYS⟩) fun o' x i J=>?_;have:o'≠q:=by rintro rfl; exact J _ rfl
   simp only[aQ,if_neg this,i]
  ·rw[h3];refine U _ _ (.inr ⟨o,rows++src,by rw[p],by simp only[aQ,if_true],aXL _,aYS⟩) fun o' x i J=>?_;have h6:o'≠o:=by rintro rfl; rw[R] at i; cases i
   simp only[aQ,if_neg h6,i]
def Pure (u:PV):Prop:=∀ q s rs,PV.frz q s rs u=u
theorem bO.frz (h:bO H s v rows):∃ v1,Seen s v1 rows∧∀ F:PF,∃ l p,gT F H l p∧(∀ t,F t=some v→l t=some v1)∧∀ i u,F i=some u→Pure u→l i=some u:=by
 rcases h with ⟨rfl,rfl⟩ | ⟨q,rs,rfl,h1,h2,h3⟩
 ·exact⟨.aB,.inl ⟨rfl,rfl⟩,fun F=>⟨F,H,.refl _ _,fun t h=>h,fun i u h _=>h⟩⟩
 ·refine⟨.sl s rows,.inr rfl,fun F=>⟨_,_,.step q h1 (.refl _ _),fun t R=>?_,fun i u hi J=>?_⟩⟩
  ·have:0+rows.length≤rs.length:=Om;simp only[PF.frz,R,aYX,PV.frz,PV.qV,PV.cN,if_true,true_and,if_pos this,aYO,h3]
  ·simp only[PF.frz,hi,aYX];rw[J]
theorem cz {t:Nat} {e:kL} (i:e=.normal∨e=.ret) (h:bO H s v rows) (l:F t=some v):aW [.tmp t] (cG (.sl s rows)) e F H:=by
 rcases h with ⟨rfl,rfl⟩ | ⟨q,rs,rfl,h1,h2,h3⟩
 ·exact bB (vs:=[.aB]) i .nil (by rw[jI,lP,l,mN]) PH.nil_le ⟨.nil s,rfl⟩
 ·exact atG i l h1 h2 ⟨by rw[h3]; exact .refl _,rfl⟩
end
end Go.PM
namespace Go.PM
open Go
section
variable {C:Ctx} {F:PF} {H:PH}
@[go_sem] theorem pC (o s:Nat) (rs:List (List PV)) (i:Nat):(F.frz o s rs) i=(F i).map (PV.frz o s rs):=(rfl)
theorem oO {name t o s k:Nat} {rs:List (List PV)} {v:PV} {d:Option Nat} {K:PF→PH→Prop} (h:aH C name [.sl s (rs.take k)] .nil (aL v)) (p:F t=some (.osl o s 0 k)) (l:H o=some (.rows s rs)) (J:k≤rs.length)
  (i:K ((F.frz o s rs).put d v) (H.frz o s rs)):gY C name [.tmp t] [] d K F H:=by
 refine .inr ⟨_,_,.step o l (.refl _ _),[.sl s (rs.take k)],.nil,aL v,?_,PH.nil_le,h,?_⟩
 ·have:0+k≤rs.length:=Om;simp only[wD,OH,YB,pC,p,aYX,PV.frz,PV.qV,PV.cN,if_true,true_and,if_pos this,aYO,aZK]
 ·rintro r H' ⟨rfl,rfl⟩ -;rw[PH.wQ];exact i
end
end Go.PM
namespace Go.Na
def val:List Nat→Nat
 | []=>0
 | x::xs=>x+4294967296*val xs
def Lim (xs:List Nat):Prop:=∀ x∈xs,x<4294967296
def aI (n:Nat):List Nat:=if h:n=0 then [] else (n%4294967296)::aI (n/4294967296)
termination_by n
decreasing_by exact Nat.div_lt_self (aZU h) (by decide)
def nl (n:Nat):Nat:=(aI n).length
theorem fJ:aI 0=[]:=by rw[aI]; simp
theorem qB {n:Nat} (h:n≠0):aI n=(n%4294967296)::aI (n/4294967296):=by rw[aI]; simp[h]
theorem mL {n:Nat} (h:n≠0) (i:n<4294967296):aI n=[n]:=by
 rw[qB h,aYR i,a0S i,fJ]
theorem aY (n:Nat):val (aI n)=n:=by
 induction n using Nat.strongRecOn with
 | _ n i =>
  by_cases h:n=0
  ·subst h; rw[fJ]; rfl
  ·rw[qB h,val,i _ (Nat.div_lt_self (aZU h) (by decide))];exact Nat.mod_add_div n 4294967296
theorem bC (n:Nat):Lim (aI n):=by
 induction n using Nat.strongRecOn with
 | _ n l =>
  by_cases h:n=0
  ·subst h; rw[fJ]; intro x i; cases i
  ·rw[qB h];intro x i;rw[aXP] at i;rcases i with rfl | i
   ·exact aYW _ (by decide)
   ·exact l _ (Nat.div_lt_self (aZU h) (by decide)) x i
theorem vO:nl 0=0:=by rw[nl,fJ]; rfl
theorem adC {n:Nat} (h:n≠0):nl n=nl (n/4294967296)+1:=by rw[nl,qB h]; rfl
theorem gQ (n k:Nat):nl n≤k↔n<4294967296 ^ k:=by
 induction k generalizing n with
 | zero =>
  by_cases h:n=0
  ·subst h; simp[vO]
  ·rw[adC h]; simp; omega
 | succ k i =>
  by_cases h:n=0
  ·subst h; simp[vO,a0A]
  ·rw[adC h,Nat.succ_le_succ_iff,i,aZB,a0H (by decide)]
theorem jU {n:Nat}:nl n=0↔n=0:=by
 have:=gQ n 0;simp at this;exact this
theorem fK (xs ys:List Nat):val (xs++ys)=val xs+4294967296 ^ xs.length*val ys:=by
 induction xs with
 | nil=>simp[val]
 | cons x xs i =>simp only[List.cons_append,val,aZA,i,aZB];rw[aXS,aZO,← aYC,aYI 4294967296 (4294967296 ^ xs.length)]
theorem eK {xs:List Nat} (h:Lim xs):val xs<4294967296 ^ xs.length:=by
 induction xs with
 | nil=>simp[val]
 | cons x xs p =>have J:=h x (by simp);have i:=p fun y l=>h y (by simp[l]);simp only[val,aZA,aZB];have:4294967296*(val xs+1)≤4294967296*4294967296 ^ xs.length:=aZR _ i;rw[aXS,Nat.mul_one] at this;rw[aYI (4294967296 ^ xs.length)];omega
theorem Lim.app {xs ys:List Nat} (h:Lim xs) (k:Lim ys):Lim (xs++ys):=fun x i=>by
 rw[aZC] at i;exact i.elim (h x) (k x)
theorem Lim.take {xs:List Nat} (h:Lim xs) (n:Nat):Lim (xs.take n):=fun x i=>h x (List.mem_of_mem_take i)
theorem Lim.drop {xs:List Nat} (h:Lim xs) (n:Nat):Lim (xs.drop n):=fun x i=>h x (List.mem_of_mem_drop i)
theorem Lim.set {xs:List Nat} (h:Lim xs) (i:Nat) {v:Nat} (p:v<4294967296):Lim (xs.set i v):=fun x J=>by
 rcases List.mem_or_eq_of_mem_set J with l | l
 ·exact h x l
 ·subst l; exact p
theorem tC (n:Nat):Lim (aXK n 0):=fun x i=>by
 rw[List.mem_replicate] at i; rw[i.2]; decide
theorem qI (n:Nat):val (aXK n 0)=0:=by
 induction n with
 | zero=>rfl
 | succ n i=>simp[List.replicate_succ,val,i]
theorem acG {xs:List Nat} (h:Lim xs) (R:∀ x,xs.getLast?=some x→x≠0):aI (val xs)=xs:=by
 induction xs with
 | nil=>simp[val,fJ]
 | cons x xs ih =>
  have p:=h x (by simp);have J:Lim xs:=fun y hy=>h y (by simp[hy]);cases xs with
  | nil =>have:=R x (by simp);simp only[val,Nat.mul_zero,aZP];exact mL this p
  | cons y ys =>
   have i:=ih J fun z hz=>R z (by rw[List.getLast?_cons_cons]; exact hz);have h0:val (y::ys)≠0:=fun e=>by rw[e,fJ] at i; cases i
   have l:x+4294967296*val (y::ys)≠0:=by have:0<4294967296*val (y::ys):=Nat.mul_pos (by decide) (aZU h0);omega
   show aI (x+4294967296*val (y::ys))=_;rw[qB l];have U:(x+4294967296*val (y::ys))%4294967296=x:=by rw[Nat.add_mul_mod_self_left,aYR p]
   have e2:(x+4294967296*val (y::ys))/4294967296=val (y::ys):=by rw[Nat.add_mul_div_left _ _ (by decide),a0S p,aYD]
   rw[U,e2,i]
theorem In {xs:List Nat} {n:Nat} (h:∀ j x,n≤j→xs[j]?=some x→x=0):val (xs.take n)=val xs:=by
 have e:xs.drop n=aXK (xs.drop n).length 0:=by apply a0K (by simp);intro i l p;rw[List.getElem_replicate,List.getElem_drop];exact h (n+i) _ Om (aXT _)
 conv=>rhs; rw[← a0E n xs,fK,e,qI]
 simp
theorem GJ {xs:List Nat} (J:Lim xs) {n:Nat} (p:n≤xs.length) (h:∀ j x,n≤j→xs[j]?=some x→x=0) (l:∀ x,0<n→xs[n-1]?=some x→x≠0):xs.take n=aI (val xs):=by
 rw[← In h,acG (J.take n)];intro x i;rw[List.getLast?_eq_getElem?,aYA,aZQ p] at i;rcases aZX n with e | e
 ·subst e; simp at i
 ·rw[List.getElem?_take_of_lt Om] at i;exact l x e i
theorem Rj {xs:List Nat} (p:Lim xs) {n:Nat} (l:n≤xs.length) (h:∀ j x,n≤j→xs[j]?=some x→x=0) (i:∀ x,0<n→xs[n-1]?=some x→x≠0):nl (val xs)=n:=by
 rw[nl,← GJ p l h i,aYA]; omega
theorem eY {xs:List Nat} (h:Lim xs):nl (val xs)≤xs.length:=(gQ _ _).2 (eK h)
theorem jJ {xs : List Nat} (h : Lim xs) : xs.take (nl (val xs)) = aI (val xs) := by
  have p := eY h;have e : val (xs.take (nl (val xs)) ++ xs.drop (nl (val xs))) = val xs := by rw [a0E]
  rw [fK, aYA, aZQ p] at e;have h1 := eK (h.take (nl (val xs)));rw [aYA, aZQ p] at h1;have h2 := (gQ (val xs) (nl (val xs))).1 (aXL _);have hd : val (xs.drop (nl (val xs))) = 0 := by
    rcases aZX (val (xs.drop (nl (val xs)))) with h | h
    · exact h
    · have := aZR (4294967296 ^ nl (val xs)) h
      omega
  have hz : ∀ j x, nl (val xs) ≤ j → xs[j]? = some x → x = 0 := by
    have zero : ∀ ys : List Nat, val ys = 0 → ∀ y ∈ ys, y = 0 := by
      intro ys
      induction ys with
      | nil => intro _ y i; cases i
      | cons z zs ih =>
        intro hv y i;simp only [val] at hv;rw [aXP] at i;rcases i with rfl | i
        · omega
        · exact ih (by have : 4294967296 * val zs = 0 := Om
                       rcases Nat.mul_eq_zero.1 this with h | h
                       · cases h
                       · exact h) y i
    intro j x hj J;refine zero _ hd x ?_;rw [List.mem_iff_getElem?];exact ⟨j - nl (val xs), by rw [List.getElem?_drop, Nat.add_sub_cancel' hj]; exact J⟩
  refine GJ h p hz fun x α J e => ?_;subst e;have R : ∀ j x, nl (val xs) - 1 ≤ j → xs[j]? = some x → x = 0 := fun j y hj i => by
    rcases aXZ j (nl (val xs)) with l | l
    · have : j = nl (val xs) - 1 := Om
      subst this; rw [J] at i; cases i; rfl
    · exact hz j y l i
  have l := In R;have U := eK (h.take (nl (val xs) - 1));rw [l, aYA, aZQ Om] at U;have := (gQ (val xs) (nl (val xs) - 1)).2 U;omega
theorem G2 {xs:List Nat} (h:Lim xs) {n:Nat} (J:nl (val xs)=n+1):∃ x,xs[n]?=some x∧x≠0:=by
 have R:=eY h;refine⟨xs[n]'Om,aXT _,fun e=>?_⟩;have p:=jJ h;have i:=aY (val xs);rw[← p,J,aZT Om,e,fK] at i;simp only[val,Nat.mul_zero,aZP] at i;have l:=eK (h.take n);rw[i,aYA,aZQ Om] at l;have:=(gQ (val xs) n).2 l;omega
theorem qG (xs:List Nat) {k:Nat} (h:k<xs.length):val xs=val (xs.take k)+4294967296 ^ k*(xs[k]+4294967296*val (xs.drop (k+1))):=by
 conv=>lhs; rw[← a0E k xs,fK,aYA,aZQ Om,aZG h]
 rfl
theorem WY {xs ys:List Nat} (U:Lim xs) {k:Nat} (i:k<xs.length) (l:k<ys.length) (R:xs.drop (k+1)=ys.drop (k+1)) (h:xs[k]<ys[k]):val xs<val ys:=by
 rw[qG xs i,qG ys l,R];have p:=eK (U.take k);rw[aYA,aZQ Om] at p;have J:4294967296 ^ k*(xs[k]+4294967296*val (ys.drop (k+1))+1)≤4294967296 ^ k*(ys[k]+4294967296*val (ys.drop (k+1))):=aZR _ Om;rw[aXS _ _ 1,Nat.mul_one] at J;omega
def dW (a b:Nat):Int:=if a<b then -1 else if b<a then 1 else 0
theorem mj {xs ys:List Nat} {k:Nat} (i:k<xs.length) (l:k<ys.length) (p:xs.drop (k+1)=ys.drop (k+1)) (h:xs[k]=ys[k]):xs.drop k=ys.drop k:=by
 rw[aZG i,aZG l,p,h]
theorem hC {a b:Nat} (h:a≤b):nl a≤nl b:=(gQ a _).2 (Nat.lt_of_le_of_lt h ((gQ b _).1 (aXL _)))
theorem wq {xs:List Nat} (h:Lim xs) {j:Nat} (i:j<nl (val xs)):∃ (l:j<xs.length) (p:j<(aI (val xs)).length),xs[j]=(aI (val xs))[j]:=by
 have J:=eY h;refine⟨by omega,i,?_⟩;have e:=jJ h;have:(xs.take (nl (val xs)))[j]?=(aI (val xs))[j]?:=by rw[e]
 rw[List.getElem?_take_of_lt i,aXT Om,aXT i] at this;exact aZS.inj this
def cF (n:Nat):Nat:=if h:n=0 then 0 else cF (n/2)+1
termination_by n
decreasing_by exact Nat.div_lt_self (aZU h) (by decide)
theorem jW:cF 0=0:=by rw[cF]; simp
theorem pN {n:Nat} (h:n≠0):cF n=cF (n/2)+1:=by rw[cF]; simp[h]
theorem kP (n k:Nat):cF n≤k↔n<2 ^ k:=by
 induction k generalizing n with
 | zero =>
  by_cases h:n=0
  ·subst h; simp[jW]
  ·rw[pN h]; simp; omega
 | succ k i =>
  by_cases h:n=0
  ·subst h; simp[jW,a0A]
  ·rw[pN h,Nat.succ_le_succ_iff,i,aZB,a0H (by decide)]
theorem iY {n:Nat}:cF n=0↔n=0:=by
 have:=kP n 0;simp at this;exact this
theorem wt {hi lo k:Nat} (R:lo<2 ^ k) (p:hi≠0):cF (lo+2 ^ k*hi)=k+cF hi:=by
 apply Nat.le_antisymm
 ·rw[kP,Nat.pow_add];have i:=(kP hi _).1 (aXL _);have:2 ^ k*(hi+1)≤2 ^ k*2 ^ cF hi:=aZR _ i;rw[aXS,Nat.mul_one] at this;omega
 ·obtain⟨b,l⟩:∃ b,cF hi=b+1:=⟨cF hi-1,by have:=mt iY.1 p; omega⟩;rw[l];rcases aXZ (cF (lo+2 ^ k*hi)) (k+(b+1)) with h | h
  ·have i:=(kP (lo+2 ^ k*hi) (k+b)).1 Om;rw[Nat.pow_add] at i;have J:¬ hi<2 ^ b:=fun h=>by have:=(kP hi b).2 h; omega
   have:2 ^ k*2 ^ b≤2 ^ k*hi:=aZR _ Om;omega
  ·exact h
theorem pX (n k:Nat):cF n≤32*k↔nl n≤k:=by
 rw[kP,gQ,Nat.pow_mul]
end Go.Na
namespace Go.PM
theorem Lq {F i:PF} (h:F.le i:=by (repeat' (first|exact PF.nil_le|refine PF.aJ ?_ ?_))<;>first|(simp only[go_sem]<;>rfl)|rfl|assumption):F.le i:=h
end Go.PM
namespace Go.PM
open Go Go.Na
abbrev aF (xs:List Nat):List (List PV):=xs.map fun (n:Nat)=>[PV.int .u32 (n:Int)]
abbrev aG (xs:List Nat):PV:=.sl 1 (xs.map fun (n:Nat)=>[PV.int .u32 (n:Int)])
theorem bR (xs:List Nat):(aF xs).length=xs.length:=by simp
theorem bK (xs:List Nat) {i:Nat} (h:i<xs.length):(aF xs)[i]?=some [.int .u32 (xs[i]:Nat)]:=by simp[h]
theorem p9 (xs:List Nat) (k:Nat):aG (xs.take k)=.sl 1 ((xs.map fun (n:Nat)=>[PV.int .u32 (n:Int)]).take k):=by rw[aG,List.map_take]
theorem cA (n:Nat):IntKind.u32.wrap (n:Int)=((n%4294967296:Nat):Int):=by
 have e:IntKind.u32.wrap (n:Int)=(n:Int)%4294967296:=by simp[IntKind.wrap,IntKind.bits,IntKind.signed]
 rw[e]; rfl
theorem tM {k:Nat} (h:k≤9223372036854775807) (i:0<k):IntKind.i64.wrap ((k:Int)-1)=((k-1:Nat):Int):=by
 rw[wrap_i64 Om Om]; omega
def Uy (xs:List Nat) (n:Nat):PF:=((PF.nil.set 0 (aG xs)).set 3 (.int .i64 n))
theorem ce {C:Ctx} (xs:List Nat) (hx:Lim xs) (hl:xs.length≤35184372087808):nJ.wp C (aW sA.res (aL (.int .i64 (nl (val xs):Nat)))) (PF.args [aG xs]) .nil:=by
 simp only[go_sem,nJ,FK,FL,sA];refine wp_loop (α:=Nat) (Uy xs) (fun _=>.nil) (fun n=>n≤xs.length∧∀ j x,n≤j→xs[j]?=some x→x=0) (fun n=>n) xs.length ⟨aXL _,fun j x h e=>by rw[aYT h] at e; cases e⟩ ?_ PH.nil_le ?_
 ·unfold Uy;exact Lq
 rintro n ⟨U,R⟩;have out:(∀ x,0<n→xs[n-1]?=some x→x≠0)→nl (val xs)=n:=fun h=>Rj hx U R h;simp only[go_sem,FJ,FN,Uy];by_cases p:(n:Int)>0
 ·have J:0<n:=Om;have hi:=bK xs (Om:n-1<xs.length);simp only[go_sem,p,tM (Om:n≤9223372036854775807) J,hi];by_cases l:xs[n-1]=0
  ·simp only[go_sem,bM (Om:((xs[n-1]:Nat):Int)=0),FO,tM (Om:n≤9223372036854775807) J];refine aM (n-1) ⟨by omega,fun j x hj i=>?_⟩ Om ?_ PH.nil_le
   ·rcases aXZ j n with h | h
    ·have:j=n-1:=Om;subst this;rw[aXT Om] at i;cases i; exact l
    ·exact R j x h i
   ·exact Lq
  ·simp only[go_sem,bF (Om:((xs[n-1]:Nat):Int)≠0),rE];refine bV (.inr rfl) rfl ?_;rw[out fun x _ i=>by rw[aXT Om] at i; cases i; exact l];rfl
 ·simp only[go_sem,p,rE];refine bV (.inr rfl) rfl ?_;rw[out fun x h=>by omega];rfl
theorem qt {C:Ctx} (xs:List Nat) (i:aH C 138 [aG xs] .nil (aL (.int .i64 (nl (val xs):Nat)))):zR.wp C (aW LO.res (aL (.bool (decide (nl (val xs)>512))))) (PF.args [aG xs]) .nil:=by
 simp only[go_sem,zR,qu,qw,LO];refine aC i rfl ?_;simp only[go_sem];refine bV (.inr rfl) rfl ?_;simp only[dB,PV.bool.injEq,decide_eq_decide];omega
def szL (n:Nat):List Nat:=if nl n>512 then [] else aI n
def szE (n:Nat):Int:=if nl n>512 then 2 else 0
def szV (n:Nat):PV:=.tup [aG (szL n),.int .i64 (szE n)]
theorem rt {C:Ctx} (xs:List Nat) (U:Lim xs) (i:aH C 138 [aG xs] .nil (aL (.int .i64 (nl (val xs):Nat)))):zT.wp C (aW LW.res (cG (szV (val xs)))) (PF.args [aG xs]) .nil:=by
 simp only[go_sem,zT,ru,rv,LW];refine aC i rfl ?_;simp only[go_sem,rz];by_cases h:nl (val xs)>512
 ·have R:((nl (val xs):Nat):Int)>512:=Om;simp only[go_sem,R,r8];refine bB (vs:=[.aB,.int .i64 2]) (.inr rfl) .nil rfl PH.nil_le ⟨?_,rfl⟩;rw[szV,szL,szE,if_pos h,if_pos h];refine .tup rfl fun j p q l J=>?_
  match j with
  | 0=>simp at l J; subst l; subst J; exact .nil 1
  | 1=>simp at l J; subst l; subst J; exact .refl _
  | j+2=>simp at l
 ·have R:¬ ((nl (val xs):Nat):Int)>512:=Om;have hl:=eY U;have hc:((nl (val xs):Nat):Int)≤(xs.length:Nat):=Om;simp only[go_sem,R,r9,hc,or_true,aYO];refine bB (.inr rfl) .nil rfl PH.nil_le ⟨?_,rfl⟩;rw[szV,szL,szE,if_neg h,if_neg h,← jJ U,p9];exact .refl _
theorem Ez {C:Ctx} (v:Nat) (hv:v<18446744073709551616) (l:∀ xs,Lim xs→xs.length≤35184372087808→aH C 138 [aG xs] .nil (aL (.int .i64 (nl (val xs):Nat)))) :
  FP.wp C (aW cf.res (aL (aG (aI v)))) (PF.args [.int .u64 v]) .nil:=by
 have e1:IntKind.u32.wrap ((v:Nat):Int)=((v%4294967296:Nat):Int):=cA v;have e2:Int.fdiv ((v:Nat):Int) 4294967296=((v/4294967296:Nat):Int):=by rw[Int.fdiv_eq_ediv_of_nonneg _ (by decide)]; rfl
 have R:v/4294967296<4294967296:=Om;have e3:IntKind.u32.wrap ((v/4294967296:Nat):Int)=((v/4294967296:Nat):Int):=by rw[cA,aYR R]
 have p:Lim [v%4294967296,v/4294967296]:=by
  intro x hx;simp only[aXP,List.mem_nil_iff,or_false] at hx;rcases hx with rfl | rfl
  ·exact aYW _ (by decide)
  ·exact R
 have i:val [v%4294967296,v/4294967296]=v:=by simp only[val,Nat.mul_zero,aZP]; exact Nat.mod_add_div v 4294967296
 have hs:∀ a b:Int,PV.bin .shr (.int .u64 a) (.int .u64 b)=shift .shr .u64 a b:=fun _ _=>rfl;have J:shift .shr .u64 (v:Int) 32=some (.int .u64 ((v/4294967296:Nat):Int)):=by
  unfold shift;rw[if_neg (by decide)];simp only;have:min (Int.toNat 32) IntKind.u64.bits=32:=by decide
  rw[this];rw[show (2:Int) ^ 32=4294967296 by decide,e2]
 simp only[go_sem,FP,E0,E4,cf,e1,J,e3];have hb:(2:Nat)*1≤16777216:=by decide
 simp only[go_sem,E5];refine aC (l [v%4294967296,v/4294967296] p (by simp)) rfl ?_;have U:=eY p;rw[i] at U ⊢;have hc:((nl v:Nat):Int)≤((2:Nat):Int):=by simp at U; omega
 simp only[go_sem,hc,or_true,aYO];refine bV (.inr rfl) rfl ?_;have:=jJ p;rw[i] at this;rw[← this,p9];rfl
theorem Fm {C:Ctx} (xs:List Nat) (l:Lim xs) (R:xs.length≤35184372087808) (i:aH C 138 [aG xs] .nil (aL (.int .i64 (nl (val xs):Nat)))) :
  FQ.wp C (aW cj.res (cG (aG (aI (val xs))))) (PF.args [aG xs]) .nil:=by
 simp only[go_sem,FQ,Fn,Fo,cj];refine aC i rfl ?_;have U:=eY l;have p:((nl (val xs):Nat):Int)≤(xs.length:Nat):=Om;simp only[go_sem,p,or_true,aYO];refine fX (rows:=[]) (src:=aF (aI (val xs))) .nil ?_ ?_ fun v H' J _=>?_
 ·simp only[go_sem];rw[← jJ l,← List.map_take]
 ·unfold roomFor;rw[bR];have:(aI (val xs)).length=nl (val xs):=rfl;simp only[aZV,maxLen];omega
 ·exact cz (.inr rfl) (by simpa using J) rfl
end Go.PM
theorem Sq {p:Prop} (h:p:=by simp only[go_sem]):p:=h
theorem Ev {p:Prop} (h:p:=by simp only[go_sem]<;>rfl):p:=h
namespace Go.PM
open Go Go.Na
def Ur (xs ys:List Nat) (i:Int):PF:=(((PF.nil.set 0 (aG xs)).set 1 (aG ys)).set 7 (.int .i64 i))
theorem Pz {C:Ctx} (xs ys:List Nat) (hx:Lim xs) (hy:Lim ys) (lx:xs.length≤35184372087808) (ly:ys.length≤35184372087808) (β:aH C 138 [aG xs] .nil (aL (.int .i64 (nl (val xs):Nat)))) (γ:aH C 138 [aG ys] .nil (aL (.int .i64 (nl (val ys):Nat)))) :
  LC.wp C (aW El.res (aL (.int .i64 (dW (val xs) (val ys))))) (PF.args [aG xs,aG ys]) .nil:=by
 simp only[go_sem,LC,P0,P1,El];refine aC β Ev ?_;simp only[go_sem];refine aC γ Ev ?_;simp only[go_sem,P2];have bx:=eY hx;have δ:=eY hy;by_cases c1:nl (val xs)<nl (val ys)
 ·have i:((nl (val xs):Nat):Int)<(nl (val ys):Nat):=Om;simp only[go_sem,i,P3];refine bV (.inr rfl) Ev ?_;have:val xs<val ys:=by
   rcases aXZ (val xs) (val ys) with h | h
   ·exact h
   ·have:=hC h; omega
  simp[dB,dW,this]
 have i:¬ ((nl (val xs):Nat):Int)<(nl (val ys):Nat):=Om;simp only[go_sem,i,P4];by_cases c2:nl (val xs)>nl (val ys)
 ·have l:((nl (val xs):Nat):Int)>(nl (val ys):Nat):=Om;simp only[go_sem,l,P5];refine bV (.inr rfl) Ev ?_;have:val ys<val xs:=by
   rcases aXZ (val ys) (val xs) with h | h
   ·exact h
   ·have:=hC h; omega
  have R:¬ val xs<val ys:=Om;simp[dB,dW,this,R]
 have l:¬ ((nl (val xs):Nat):Int)>(nl (val ys):Nat):=Om;have hn:nl (val xs)=nl (val ys):=Om;simp only[go_sem,l,P6];have ex:=aY (val xs);have J:=aY (val ys);have LX:=bC (val xs);have LY:=bC (val ys);refine wp_loop (α:=Nat) (fun k=>Ur xs ys ((k:Int)-1)) (fun _=>.nil) (fun k=>k≤nl (val xs)∧(aI (val xs)).drop k=(aI (val ys)).drop k) (fun k=>k) (nl (val xs)) ⟨aXL _,?_⟩ ?_ PH.nil_le ?_
 ·rw[a0W (by rw[nl]; exact aXL _),a0W (by rw[hn,nl]; exact aXL _)]
 ·unfold Ur
  (repeat' (first|exact PF.nil_le|refine PF.aJ ?_ ?_))<;>first|(simp only[go_sem,wrap_i64 (show -9223372036854775808≤((nl (val xs):Nat):Int)-1 by omega) (show ((nl (val xs):Nat):Int)-1≤9223372036854775807 by omega)]<;>rfl)|rfl
 rintro k ⟨hk,p⟩;simp only[go_sem,Em,P7,Ur];by_cases h0:0<k
 ·obtain⟨m,rfl⟩:∃ m,k=m+1:=⟨k-1,by omega⟩;have hz:((m+1:Nat):Int)-1=(m:Int):=Om;have U:(m:Int)≥0:=Om;obtain⟨x1,x2,x3⟩:=wq hx (Om:m<nl (val xs));obtain⟨y1,y2,y3⟩:=wq hy (Om:m<nl (val ys));simp only[go_sem,hz,U];refine cJ .nil eU PH.nil_le ?_;simp only[go_sem,P8,bK xs x1,bK ys y1];by_cases c3:xs[m]<ys[m]
  ·simp only[go_sem,show ((xs[m]:Nat):Int)<(ys[m]:Nat) by omega,P9];refine bV (.inr rfl) Ev ?_;have:=WY LX x2 y2 p (by rw[← x3,← y3]; exact c3);rw[ex,J] at this;simp[dB,dW,this]
  ·simp only[go_sem,show ¬ ((xs[m]:Nat):Int)<(ys[m]:Nat) by omega];refine cJ .nil eU PH.nil_le ?_;simp only[go_sem,En,bK xs x1,bK ys y1];by_cases c4:xs[m]>ys[m]
   ·simp only[go_sem,show ((xs[m]:Nat):Int)>(ys[m]:Nat) by omega,Eo];refine bV (.inr rfl) Ev ?_;have:=WY LY y2 x2 p.symm (by rw[← x3,← y3]; exact c4);rw[ex,J] at this;have R:¬ val xs<val ys:=Om;simp[dB,dW,this,R]
   ·simp only[go_sem,show ¬ ((xs[m]:Nat):Int)>(ys[m]:Nat) by omega,Ep];refine aM m ⟨by omega,mj x2 y2 p (by rw[← x3,← y3]; omega)⟩ Om ?_ PH.nil_le
    (repeat' (first|exact PF.nil_le|refine PF.aJ ?_ ?_))<;>first|(simp only[go_sem,wrap_i64 (Om:-9223372036854775808≤(m:Int)-1) (Om:(m:Int)-1≤9223372036854775807)]<;>rfl)|rfl
 ·have:k=0:=Om;subst this;have hz:¬ ((0:Nat):Int)-1≥0:=by decide
  simp only[go_sem,hz,Eq];refine bV (.inr rfl) Ev ?_;rw[aYO,aYO] at p;have:val xs=val ys:=by rw[← ex,← J,p]
  simp[dB,dW,this]
def D9 (k:Nat) (v:Nat):PF:=((PF.nil.set 4 (.int .i64 k)).set 5 (.int .u32 v))
theorem Eb {C:Ctx} (xs:List Nat) (hx:Lim xs) (lx:xs.length≤35184372087808) (β:aH C 138 [aG xs] .nil (aL (.int .i64 (nl (val xs):Nat)))) :
  EW.wp C (aW bd.res (aL (.int .i64 (cF (val xs):Nat)))) (PF.args [aG xs]) .nil:=by
 simp only[go_sem,EW,Ec,Ed,bd];refine aC β Ev ?_;simp only[go_sem,Ee];have bx:=eY hx;by_cases c1:nl (val xs)=0
 ·simp only[go_sem,bM (show ((nl (val xs):Nat):Int)=0 by omega),Ef];refine bV (.inr rfl) Ev ?_;have:val xs=0:=jU.1 c1;simp[dB,this,jW]
 obtain⟨n,hn⟩:∃ n,nl (val xs)=n+1:=⟨nl (val xs)-1,by omega⟩;obtain⟨t,R,γ⟩:=G2 hx hn;have U:t<4294967296:=hx t (a0D R);have i:n<xs.length:=Om;have hv:val xs=val (xs.take n)+4294967296 ^ n*t:=by
  have e:=jJ hx;have:=aY (val xs);have hg:xs[n]=t:=by rw[aXT i] at R; exact aZS.inj R
  rw[← e,hn,aZT i,hg,fK,aYA,aZQ Om] at this;simp only[val,Nat.mul_zero,aZP] at this;exact this.symm
 have hb:cF (val xs)=32*n+cF t:=by
  have h3:=eK (hx.take n);rw[aYA,aZQ Om] at h3;rw[hv,show (4294967296:Nat) ^ n=2 ^ (32*n) by rw[Nat.pow_mul]] at *
  exact wt h3 γ
 have l:(aF xs)[n]?=some [.int .u32 (t:Nat)]:=by rw[bK xs i];rw[aXT i] at R;rw[aZS.inj R]
 have e1:IntKind.i64.wrap (((nl (val xs):Nat):Int)-1)=(n:Int):=by rw[wrap_i64 Om Om]; omega
 have e2:IntKind.i64.wrap ((n:Int)*32)=((32*n:Nat):Int):=by rw[wrap_i64 Om Om]; omega
 simp only[go_sem,bF (show ((nl (val xs):Nat):Int)≠0 by omega),Eg,Eh,e1,e2,l];refine wp_loop (α:=Nat × Nat) (fun a=>D9 a.1 a.2) (fun _=>.nil) (fun a=>a.1+cF a.2=32*n+cF t∧a.2<4294967296) (fun a=>a.2) (32*n,t) ⟨rfl,U⟩ ?_ PH.nil_le ?_
 ·unfold D9;exact Lq
 rintro⟨k,v⟩ ⟨hk,hlt⟩;simp only at hk hlt;have ε:cF t≤32:=(kP t 32).2 U;simp only[go_sem,Ea,Ei,D9];by_cases c2:(v:Int)>0
 ·have δ:v≠0:=Om;have p:PV.bin .shr (.int .u32 (v:Int)) (.int .u64 1)=some (.int .u32 ((v/2:Nat):Int)):=by
   show shift .shr .u32 (v:Int) 1=_;unfold shift;rw[if_neg (by decide)];simp only;have:min (Int.toNat 1) IntKind.u32.bits=1:=by decide
   rw[this,show (2:Int) ^ 1=2 by decide,Int.fdiv_eq_ediv_of_nonneg _ (by decide)];rfl
  have J:shift .shr .u32 (v:Int) 1=some (.int .u32 ((v/2:Nat):Int)):=p;simp only[go_sem,c2,Ej,Ek,p,J,wZz k];refine aM (k+1,v/2) ⟨?_,?_⟩ (Nat.div_lt_self Om (by decide)) ?_ PH.nil_le
  ·have:=pN δ;simp only; omega
  ·simp only; omega
  ·exact Lq
 ·have:v=0:=Om;subst this;simp only[go_sem,c2,qi];refine bV (.inr rfl) Ev ?_;rw[jW] at hk;simp only[dB,PV.int.injEq,true_and];omega
structure nO (C:Ctx):Prop where
 length:∀ xs,Lim xs→xs.length≤35184372087808→aH C 138 [aG xs] .nil (aL (.int .i64 (nl (val xs):Nat)))
 large:∀ xs,Lim xs→xs.length≤35184372087808→aH C 137 [aG xs] .nil (aL (.bool (decide (nl (val xs)>512))))
 sized:∀ xs,Lim xs→xs.length≤35184372087808→aH C 141 [aG xs] .nil (aL (szV (val xs)))
 trim:∀ xs,Lim xs→xs.length≤35184372087808→aH C 135 [aG xs] .nil (aL (aG (aI (val xs))))
 make:∀ v:Nat,v<18446744073709551616→aH C 132 [.int .u64 v] .nil (aL (aG (aI v)))
 cmp:∀ xs ys,Lim xs→Lim ys→xs.length≤35184372087808→ys.length≤35184372087808→aH C 129 [aG xs,aG ys] .nil (aL (.int .i64 (dW (val xs) (val ys))))
def kC:PV→List Nat
 | .sl _ rows=>rows.map fun r=>match r with | [.int _ n]=>n.toNat | _=>0
 | _=>[]
theorem eP (xs:List Nat):kC (aG xs)=xs:=by
 simp[kC,List.map_map,Function.comp_def]
def Uq:Spec:=fun name vs=>match name,vs with
 | 138,[x]=>some ([],fun _=>aL (.int .i64 (nl (val (kC x)):Nat)))
 | _,_=>none
theorem mM (xs:List Nat):Uq 138 [aG xs]=some ([],fun _=>aL (.int .i64 (nl (val xs):Nat))):=by
 show some _=_; rw[eP]
theorem vQ (P:List Nat) (k v:Nat):(P++aXK (k+1) 0).set P.length v=(P++[v])++aXK k 0:=by
 rw[a0L _ _ (aXL _),Nat.sub_self,List.replicate_succ,a0Y,aYQ];rfl
theorem eZ (L:List Nat) (i v:Nat):(aF L).set i [.int .u32 (v:Int)]=aF (L.set i v):=by
 unfold aF; rw[List.map_set]
theorem gX (P:List Nat) (v:Nat):val (P++[v])=val P+4294967296 ^ P.length*v:=by
 rw[fK]; simp[val]
theorem bW (xs:List Nat) {i:Nat} (h:i<xs.length):val (xs.take (i+1))=val (xs.take i)+4294967296 ^ i*xs[i]:=by
 rw[aZT h,gX,aYA,aZQ Om]
theorem uT {v:Nat}:shift .shr .u64 (v:Int) 32=some (.int .u64 ((v/4294967296:Nat):Int)):=by
 unfold shift;rw[if_neg (by decide)];simp only;have:min (Int.toNat 32) IntKind.u64.bits=32:=by decide
 rw[this,show (2:Int) ^ 32=4294967296 by decide,Int.fdiv_eq_ediv_of_nonneg _ (by decide)];rfl
theorem eM {a b:Nat} (h:a+b<18446744073709551616):IntKind.u64.wrap ((a:Int)+(b:Int))=((a+b:Nat):Int):=by
 rw[wrap_u64 Om Om]; omega
theorem bA {a:Nat} (h:a<18446744073709551616):IntKind.u64.wrap (a:Int)=(a:Int):=wrap_u64 Om Om
def bb (a b:List Nat) (o i c:Nat):PF:=(((((((PF.nil.set 0 (aG a)).set 1 (aG b)).set 6 (.osl o 1 0 (a.length+1))).set 7 (.int .u64 c)).set 35 (.int .i64 (a.length:Nat))).set 34 (aG a)).set 36 (.int .i64 i))
theorem p8 {C:Ctx} (L:nO C) (a b:List Nat) (ha:Lim a) (hb:Lim b) (hl:b.length≤a.length) (h1:a.length≤1000) (F:PF) (f0:F 0=some (aG a)) (f1:F 1=some (aG b)) :
  aA.wp C (.seq (.region ip) (.seq (.region iq) (.seq (.seq (.region ir) (.block 0 (.loop UD))) (.seq (.region UH) (.seq (.region UI) .ret))))) (aW [.tmp 4,.tmp 5] (cG (szV (val a+val b)))) F .nil:=by
 have η:IntKind.i64.wrap ((a.length:Int)+1)=((a.length+1:Nat):Int):=cP Om;have ο:((a.length+1:Nat):Int)*((4:Nat):Int)≤140737488355328:=Om;have ρ:((a.length+1:Nat):Int)≤9223372036854775807:=Om;have hz:aXK (a.length+1) [PV.int .u32 0]=aF ([]++aXK (a.length+1) 0):=by simp[aF]
 simp only[go_sem,ip,f0,η,ο,ρ,hz];refine aT fun o ho=>?_;simp only[go_sem,iq,ir,f0];refine wp_loop (α:=List Nat × Nat × Nat) (fun s=>bb a b s.2.2 s.1.length s.2.1) (fun s=>PH.nil.set s.2.2 (.rows 1 (aF (s.1++aXK (a.length+1-s.1.length) 0))))
  (fun s=>s.1.length≤a.length∧Lim s.1∧s.2.1≤1∧val s.1+4294967296 ^ s.1.length*s.2.1=val (a.take s.1.length)+val (b.take s.1.length)) (fun s=>a.length-s.1.length) ([],0,o) ⟨by simp,by simp[Lim],by simp,by simp[val]⟩ ?_ ?_ ?_
 ·unfold bb;exact Lq
 ·exact PH.aJ PH.nil_le (by simp only[go_sem,aZV])
 rintro⟨P,c,q⟩ ⟨hP,i,hc,U⟩;simp only at hP i hc U;simp only[go_sem,UD,Py,bb];by_cases c1:P.length<a.length
 ·have β:(P.length:Int)<(a.length:Nat):=Om;have σ:=ha _ (aXM c1);obtain⟨k,hk⟩:∃ k,a.length+1-P.length=k+1:=⟨a.length-P.length,by omega⟩;have ε:(aF (P++aXK (k+1) 0))[P.length]?=some [.int .u32 ((0:Nat):Int)]:=by rw[bK _ (by simp)]; simp
  have l:a.length+1-(P.length+1)=k:=Om;have γ:(P.length:Int)<((a.length+1:Nat):Int):=Om;have fin:∀ (t:Nat) (J:PF) (H':PH),t<2*4294967296→val P+4294967296 ^ P.length*t=val (a.take (P.length+1))+val (b.take (P.length+1)) →
    J 0=some (aG a)→J 1=some (aG b)→J 6=some (.osl q 1 0 (a.length+1))→J 7=some (.int .u64 (t:Nat))→J 8=some (.int .i64 P.length)→J 34=some (aG a)→J 35=some (.int .i64 (a.length:Nat))→J 36=some (.int .i64 P.length) →
    H' q=some (.rows 1 (aF (P++aXK (k+1) 0)))→∀ K:bT,(∀ R c' F2 H2,R.length=P.length+1→Lim R→c'≤1→val R+4294967296 ^ R.length*c'=val (a.take (P.length+1))+val (b.take (P.length+1))→(bb a b q R.length c').le F2→H2 q=some (.rows 1 (aF (R++aXK k 0)))→K .normal F2 H2) →
    aA.wp C (.seq (.region UE) (.region UF)) (fG 1 (fZ C (aA.wp C (.region UG)) K)) J H':=by
   intro t J H' ht hv g0 g1 g6 g7 g8 κ μ ν gH K hK;have p:(aF (P++aXK (k+1) 0)).set P.length [.int .u32 ((t%4294967296:Nat):Int)]=aF ((P++[t%4294967296])++aXK k 0):=by rw[eZ,vQ]
   simp only[go_sem,UE,g6,g8,g7,cA,γ,gH,ε,p,UF,uT,UG,ν,cP (Om:P.length<9223372036854775807)];refine hK (P++[t%4294967296]) (t/4294967296) _ _ (by simp) (i.app fun x hx=>by simp at hx; subst hx; exact aYW _ (by decide)) Om ?_ ?_ Sq
   ·rw[gX,aXN,aXR,aZB,aYC,aZO,← aXS,Nat.mod_add_div];exact hv
   ·unfold bb;rw[aXN,aXR];refine PF.aJ (PF.aJ (PF.aJ (PF.aJ (PF.aJ (PF.aJ (PF.aJ PF.nil_le ?_) ?_) ?_) ?_) ?_) ?_) ?_<;>simp only[go_sem,g0,g1,g6,κ,μ]
  have θ:=bW a c1;have ea:IntKind.u64.wrap ((a[P.length]:Nat):Int)=((a[P.length]:Nat):Int):=bA Om;have es:IntKind.u64.wrap ((c:Nat)+((a[P.length]:Nat):Int))=((c+a[P.length]:Nat):Int):=eM Om;simp only[go_sem,β,D5,D6,bK a c1,ea,es,D7];by_cases c3:P.length<b.length
  ·have δ:(P.length:Int)<(b.length:Nat):=Om;have τ:=hb _ (aXM c3);have ζ:=bW b c3;have eb:IntKind.u64.wrap ((b[P.length]:Nat):Int)=((b[P.length]:Nat):Int):=bA Om;have ι:IntKind.u64.wrap (((c+a[P.length]:Nat):Int)+((b[P.length]:Nat):Int))=((c+a[P.length]+b[P.length]:Nat):Int):=eM Om;simp only[go_sem,δ,D8,bK b c3,eb,ι];refine fin (c+a[P.length]+b[P.length]) _ _ Om ?_ ?_ ?_ ?_ ?_ ?_ ?_ ?_ ?_ ?_ _ ?_
   ·rw[θ,ζ,aXS,aXS]; omega
   any_goals simp only[go_sem,hk]
   intro R c' F2 H2 e1 e2 e3 e4 e5 e6;rw[← e1] at e4;refine aM (R,c',q) ⟨by simp only; omega,e2,e3,e4⟩ (by simp only; omega) e5 (PH.aJ PH.nil_le ?_);simp only;rw[e1,l]; exact e6
  ·have δ:¬ (P.length:Int)<(b.length:Nat):=Om;have ζ:val (b.take (P.length+1))=val (b.take P.length):=by rw[aXY Om,aXY Om]
   simp only[go_sem,δ];refine fin (c+a[P.length]) _ _ Om ?_ ?_ ?_ ?_ ?_ ?_ ?_ ?_ ?_ ?_ _ ?_
   ·rw[θ,ζ,aXS]; omega
   any_goals simp only[go_sem,hk]
   intro R c' F2 H2 e1 e2 e3 e4 e5 e6;rw[← e1] at e4;refine aM (R,c',q) ⟨by simp only; omega,e2,e3,e4⟩ (by simp only; omega) e5 (PH.aJ PH.nil_le ?_);simp only;rw[e1,l]; exact e6
 ·have e:P.length=a.length:=Om;have β:¬ (P.length:Int)<(a.length:Nat):=Om;have hk:aXK (a.length+1-P.length) 0=[0]:=by rw[show a.length+1-P.length=1 by omega]; rfl
  have ε:(aF (P++[0]))[a.length]?=some [.int .u32 ((0:Nat):Int)]:=by rw[bK _ (by simp; omega)];simp[e]
  have p:(aF (P++[0])).set a.length [.int .u32 ((c%4294967296:Nat):Int)]=aF (P++[c]):=by have:=vQ P 0 (c%4294967296);simp only[List.replicate_zero,aZK,aYD,List.replicate_one] at this;rw[← e,eZ,this,aYR Om]
  have γ:(a.length:Int)<((a.length+1:Nat):Int):=Om;have hV:val (P++[c])=val a+val b:=by rw[gX,U,e,aYS,aXY hl]
  have ξ:Lim (P++[c]):=i.app fun x hx=>by simp at hx; omega
  simp only[go_sem,β,UH,cA,hk,ε,γ,p,UI];have hs:=L.sized _ ξ (by simp; omega);rw[hV] at hs;refine oO (o:=q) (s:=1) (k:=a.length+1) (rs:=aF (P++[c])) (v:=szV (val a+val b)) ?_ rfl Sq (by rw[bR]; simp; omega) ?_
  ·rw[aXY (by rw[bR]; simp; omega)]; exact hs
  ·simp only[go_sem,szV];exact bB (.inr rfl) .nil rfl PH.nil_le ⟨.refl _,rfl⟩
def opV (big:Bool) (n:Nat):PV:=if big then .tup [aG [],.int .i64 2] else szV n
def eN (a b:Nat):Bool:=decide (nl a>512)||decide (nl b>512)
theorem jB {res:List dN} {F:PF} {H:PH} {e:Int} (h:dN.evs F H res=some [.aB,.int .i64 e]):aW res (cG (.tup [aG [],.int .i64 e])) .ret F H:=by
 refine bB (.inr rfl) .nil h PH.nil_le ⟨?_,rfl⟩;refine .tup rfl fun j p q i l=>?_
 match j with
 | 0=>simp at i l; subst i; subst l; exact .nil 1
 | 1=>simp at i l; subst i; subst l; exact .refl _
 | j+2=>simp at i
theorem bH (n:Nat):(aI n).length=nl n:=rfl
theorem gU {xs:List Nat} (h:Lim xs):(xs.map fun (n:Nat)=>[PV.int .u32 (n:Int)]).take (nl (val xs))=(aI (val xs)).map fun (n:Nat)=>[PV.int .u32 (n:Int)]:=by
 rw[← List.map_take,jJ h]
theorem Ps {C:Ctx} (L:nO C) (a b:List Nat) (J:Lim a) (R:Lim b) (la:a.length≤35184372087808) (lb:b.length≤35184372087808) :
  KZ.wp C (aW D4.res (cG (opV (eN (val a) (val b)) (val a+val b)))) (PF.args [aG a,aG b]) .nil:=by
 simp only[go_sem,KZ,Pt,Pu,D4];refine aC (L.large a J la) rfl ?_;by_cases l:nl (val a)>512
 ·simp only[go_sem,l,io];rw[show opV (eN (val a) (val b)) (val a+val b)=.tup [aG [],.int .i64 2] by simp[opV,eN,l]];exact jB rfl
 simp only[go_sem,l];refine aC (L.large b R lb) rfl ?_;by_cases p:nl (val b)>512
 ·simp only[go_sem,p,io];rw[show opV (eN (val a) (val b)) (val a+val b)=.tup [aG [],.int .i64 2] by simp[opV,eN,p]];exact jB rfl
 have e:opV (eN (val a) (val b)) (val a+val b)=szV (val a+val b):=by simp[opV,eN,l,p]
 rw[e];simp only[go_sem,p];refine cJ .nil Uq PH.nil_le ?_;simp only[go_sem,Pv];have h1:=eY J;have h2:=eY R;have U:((nl (val a):Nat):Int)≤(a.length:Nat):=Om;have α:((nl (val b):Nat):Int)≤(b.length:Nat):=Om;refine cW (mM a) (L.length a J la) rfl PH.nil_le ?_;simp only[go_sem,U,or_true,aYO,gU J];refine cW (mM b) (L.length b R lb) rfl PH.nil_le ?_;simp only[go_sem,α,or_true,aYO,gU R,Pw,bH];have va:=aY (val a);have vb:=aY (val b);by_cases c3:nl (val a)<nl (val b)
 ·have i:((nl (val a):Nat):Int)<(nl (val b):Nat):=Om;simp only[go_sem,i,Px];have:=p8 L (aI (val b)) (aI (val a)) (bC _) (bC _) (by rw[bH,bH]; omega) (by rw[bH]; omega);rw[va,vb,Nat.add_comm] at this;exact this _ rfl rfl
 ·have i:¬ ((nl (val a):Nat):Int)<(nl (val b):Nat):=Om;simp only[go_sem,i];have:=p8 L (aI (val a)) (aI (val b)) (bC _) (bC _) (by rw[bH,bH]; omega) (by rw[bH]; omega);rw[va,vb] at this;exact this _ rfl rfl
theorem fE (n:Int):IntKind.u64.wrap n=n%18446744073709551616:=by simp[IntKind.wrap,IntKind.bits,IntKind.signed]
theorem RV (n:Int):IntKind.u32.wrap n=n%4294967296:=by simp[IntKind.wrap,IntKind.bits,IntKind.signed]
theorem Wg {v:Int}:shift .shr .u64 v 63=some (.int .u64 (v/9223372036854775808)):=by
 unfold shift;rw[if_neg (by decide)];simp only;have:min (Int.toNat 63) IntKind.u64.bits=63:=by decide
 rw[this,show (2:Int) ^ 63=9223372036854775808 by decide,Int.fdiv_eq_ediv_of_nonneg _ (by decide)]
def NC (a bor b:Nat):Nat:=(a+4294967296-bor-b)%4294967296
def VC (a bor b:Nat):Nat:=if a<bor+b then 1 else 0
theorem Gv {a bor b:Nat} (i:a<4294967296) (l:b<4294967296) (p:bor≤1) (v:Int) (J:v=((a:Int)-bor-b)%18446744073709551616) :
  IntKind.u32.wrap v=((NC a bor b:Nat):Int)∧v/9223372036854775808=((VC a bor b:Nat):Int)∧a+4294967296*VC a bor b=NC a bor b+b+bor∧NC a bor b<4294967296:=by
 rw[RV];unfold NC VC;split<;>omega
def ci (a b:List Nat) (o i c:Nat):PF:=(((((((PF.nil.set 0 (aG a)).set 1 (aG b)).set 6 (.osl o 1 0 a.length)).set 7 (.int .u64 c)).set 33 (aG a)).set 34 (.int .i64 (a.length:Nat))).set 35 (.int .i64 i))
theorem adH {C:Ctx} (L:nO C) (a b:List Nat) (ha:Lim a) (hb:Lim b) (ο:val b≤val a) (hl:b.length≤a.length) (h1:a.length≤1000) (F:PF) (f0:F 0=some (aG a)) (f1:F 1=some (aG b)) :
  aA.wp C (.seq (.region i8) (.seq (.region i9) (.seq (.seq (.region ja) (.block 1 (.loop UP))) (.seq (.region UT) .ret)))) (aW [.tmp 4,.tmp 5] (cG (szV (val a-val b)))) F .nil:=by
 have μ:(a.length:Int)*((4:Nat):Int)≤140737488355328:=Om;have ν:(a.length:Int)≤9223372036854775807:=Om;have hz:aXK a.length [PV.int .u32 0]=aF ([]++aXK a.length 0):=by simp[aF]
 simp only[go_sem,i8,f0,μ,ν,hz];refine aT fun o ho=>?_;simp only[go_sem,i9,ja,f0];refine wp_loop (α:=List Nat × Nat × Nat) (fun s=>ci a b s.2.2 s.1.length s.2.1) (fun s=>PH.nil.set s.2.2 (.rows 1 (aF (s.1++aXK (a.length-s.1.length) 0))))
  (fun s=>s.1.length≤a.length∧Lim s.1∧s.2.1≤1∧val (a.take s.1.length)+4294967296 ^ s.1.length*s.2.1=val s.1+val (b.take s.1.length)) (fun s=>a.length-s.1.length) ([],0,o) ⟨by simp,by simp[Lim],by simp,by simp[val]⟩ ?_ ?_ ?_
 ·unfold ci;exact Lq
 ·exact PH.aJ PH.nil_le (by simp only[go_sem,aZV])
 rintro⟨P,c,q⟩ ⟨hP,i,hc,β⟩;simp only at hP i hc β;simp only[go_sem,UP,Q2,ci];by_cases c1:P.length<a.length
 ·have U:(P.length:Int)<(a.length:Nat):=Om;have θ:=ha _ (aXM c1);obtain⟨k,hk⟩:∃ k,a.length-P.length=k+1:=⟨a.length-P.length-1,by omega⟩;have κ:(aF (P++aXK (k+1) 0))[P.length]?=some [.int .u32 ((0:Nat):Int)]:=by rw[bK _ (by simp)]; simp
  have l:a.length-(P.length+1)=k:=Om;have ξ:=bW a c1;have fin:∀ (t:Nat) (v:Int) (J:PF) (H':PH),t<4294967296→v=((a[P.length]:Int)-c-t)%18446744073709551616→val (b.take (P.length+1))=val (b.take P.length)+4294967296 ^ P.length*t →
    J 0=some (aG a)→J 1=some (aG b)→J 6=some (.osl q 1 0 a.length)→J 9=some (.int .u64 v)→J 8=some (.int .i64 P.length)→J 33=some (aG a)→J 34=some (.int .i64 (a.length:Nat))→J 35=some (.int .i64 P.length) →
    H' q=some (.rows 1 (aF (P++aXK (k+1) 0)))→∀ K:bT,(∀ R c' F2 H2,R.length=P.length+1→Lim R→c'≤1→val (a.take (P.length+1))+4294967296 ^ R.length*c'=val R+val (b.take (P.length+1))→(ci a b q R.length c').le F2→H2 q=some (.rows 1 (aF (R++aXK k 0)))→K .normal F2 H2) →
    aA.wp C (.seq (.region UQ) (.region UR)) (fG 2 (fZ C (aA.wp C (.region US)) K)) J H':=by
   intro t v J H' ht hv p g0 g1 g6 g9 g8 ε ζ η gH K hK;obtain⟨e1,e2,e3,e4⟩:=Gv θ ht hc v hv;have δ:(aF (P++aXK (k+1) 0)).set P.length [.int .u32 ((NC a[P.length] c t:Nat):Int)]=aF ((P++[NC a[P.length] c t])++aXK k 0):=by rw[eZ,vQ]
   simp only[go_sem,UQ,g6,g8,g9,e1,U,gH,κ,δ,UR,Wg,e2,US,η,cP (Om:P.length<9223372036854775807)];refine hK (P++[NC a[P.length] c t]) (VC a[P.length] c t) _ _ (by simp) (i.app fun x hx=>by simp at hx; subst hx; exact e4) (by unfold VC; split<;>omega) ?_ ?_ Sq
   ·rw[gX,aXN,aXR,aZB,aYC,ξ,p,aZO,← aXS,e3,aXS,aXS];omega
   ·unfold ci;rw[aXN,aXR];refine PF.aJ (PF.aJ (PF.aJ (PF.aJ (PF.aJ (PF.aJ (PF.aJ PF.nil_le ?_) ?_) ?_) ?_) ?_) ?_) ?_<;>simp only[go_sem,g0,g1,g6,ε,ζ]
  have ea:IntKind.u64.wrap ((a[P.length]:Nat):Int)=((a[P.length]:Nat):Int):=bA Om;simp only[go_sem,U,Fg,Fh,bK a c1,ea,Fi];by_cases c3:P.length<b.length
  ·have γ:(P.length:Int)<(b.length:Nat):=Om;have ι:=hb _ (aXM c3);have p:=bW b c3;have eb:IntKind.u64.wrap ((b[P.length]:Nat):Int)=((b[P.length]:Nat):Int):=bA Om;simp only[go_sem,γ,Fj,bK b c3,eb];refine fin b[P.length] (IntKind.u64.wrap (IntKind.u64.wrap ((a[P.length]:Int)-(c:Int))-(b[P.length]:Int))) _ _ ι (by rw[fE,fE]; omega) p ?_ ?_ ?_ ?_ ?_ ?_ ?_ ?_ ?_ _ ?_
   any_goals simp only[go_sem,hk]
   intro R c' F2 H2 e1 e2 e3 e4 e5 e6;rw[← e1] at e4;refine aM (R,c',q) ⟨by simp only; omega,e2,e3,e4⟩ (by simp only; omega) e5 (PH.aJ PH.nil_le ?_);simp only;rw[e1,l]; exact e6
  ·have γ:¬ (P.length:Int)<(b.length:Nat):=Om;have p:val (b.take (P.length+1))=val (b.take P.length)+4294967296 ^ P.length*0:=by rw[aXY Om,aXY Om]; simp
   simp only[go_sem,γ];refine fin 0 (IntKind.u64.wrap ((a[P.length]:Int)-(c:Int))) _ _ (by decide) (by rw[fE]; omega) p ?_ ?_ ?_ ?_ ?_ ?_ ?_ ?_ ?_ _ ?_
   any_goals simp only[go_sem,hk]
   intro R c' F2 H2 e1 e2 e3 e4 e5 e6;rw[← e1] at e4;refine aM (R,c',q) ⟨by simp only; omega,e2,e3,e4⟩ (by simp only; omega) e5 (PH.aJ PH.nil_le ?_);simp only;rw[e1,l]; exact e6
 ·have e:P.length=a.length:=Om;have U:¬ (P.length:Int)<(a.length:Nat):=Om;have hk:aXK (a.length-P.length) 0=[]:=by rw[show a.length-P.length=0 by omega]; rfl
  have hV:val P=val a-val b:=by
   rw[e,aYS,aXY hl] at β;have hlt:=eK i;rw[e] at hlt;rcases aZX c with h | h
   ·subst h; omega
   ·have:c=1:=Om;subst this; omega
  simp only[go_sem,U,hk,aZK,UT];have hs:=L.sized _ i Om;rw[hV] at hs;refine oO (o:=q) (s:=1) (k:=a.length) (rs:=aF P) (v:=szV (val a-val b)) ?_ rfl Sq (by rw[bR]; omega) ?_
  ·rw[aXY (by rw[bR]; omega)]; exact hs
  ·simp only[go_sem,szV];exact bB (.inr rfl) .nil rfl PH.nil_le ⟨.refl _,rfl⟩
def tT (a b:Nat):PV:=if eN a b then .tup [aG [],.int .i64 2] else if a<b then .tup [aG [],.int .i64 4] else szV (a-b)
theorem Qv {C:Ctx} (L:nO C) (a b:List Nat) (p:Lim a) (J:Lim b) (la:a.length≤35184372087808) (lb:b.length≤35184372087808) :
  LZ.wp C (aW Ff.res (cG (tT (val a) (val b)))) (PF.args [aG a,aG b]) .nil:=by
 simp only[go_sem,LZ,Qw,Qx,Ff];refine aC (L.large a p la) rfl ?_;by_cases i:nl (val a)>512
 ·simp only[go_sem,i,i7];rw[show tT (val a) (val b)=.tup [aG [],.int .i64 2] by simp[tT,eN,i]];exact jB rfl
 simp only[go_sem,i];refine aC (L.large b J lb) rfl ?_;by_cases l:nl (val b)>512
 ·simp only[go_sem,l,i7];rw[show tT (val a) (val b)=.tup [aG [],.int .i64 2] by simp[tT,eN,l]];exact jB rfl
 simp only[go_sem,l,Qy];refine aC (L.cmp a b p J la lb) rfl ?_;by_cases R:val a<val b
 ·have hc:dW (val a) (val b)<0:=by simp[dW,R]
  simp only[go_sem,hc,Qz];rw[show tT (val a) (val b)=.tup [aG [],.int .i64 4] by simp[tT,eN,i,l,R]];exact jB rfl
 have hc:¬ dW (val a) (val b)<0:=by unfold dW;rw[if_neg R];split<;>decide
 rw[show tT (val a) (val b)=szV (val a-val b) by simp[tT,eN,i,l,R]];simp only[go_sem,hc];refine cJ .nil Uq PH.nil_le ?_;simp only[go_sem,Q1];have h1:=eY p;have h2:=eY J;have U:((nl (val a):Nat):Int)≤(a.length:Nat):=Om;have α:((nl (val b):Nat):Int)≤(b.length:Nat):=Om;refine cW (mM a) (L.length a p la) rfl PH.nil_le ?_;simp only[go_sem,U,or_true,aYO,gU p];refine cW (mM b) (L.length b J lb) rfl PH.nil_le ?_;simp only[go_sem,α,or_true,aYO,gU J];have va:=aY (val a);have vb:=aY (val b);have hm:=hC (Om:val b≤val a);have:=adH L (aI (val a)) (aI (val b)) (bC _) (bC _) Om (by rw[bH,bH]; omega) (by rw[bH]; omega);rw[va,vb] at this;exact this _ rfl rfl
end Go.PM
namespace Go.Na
def dL:Nat→Nat→List Nat
 | 0,_=>[]
 | k+1,n=>(n%4294967296)::dL k (n/4294967296)
theorem kD:∀ k n,(dL k n).length=k
 | 0,_=>rfl
 | k+1,n=>by simp[dL,kD k]
theorem CP {xs:List Nat} (h:Lim xs):dL xs.length (val xs)=xs:=by
 induction xs with
 | nil=>rfl
 | cons x xs J =>have R:=h x (by simp);have i:(x+4294967296*val xs)%4294967296=x:=Om;have l:(x+4294967296*val xs)/4294967296=val xs:=Om;simp only[aZA,dL,val];rw[i,l,J fun y p=>h y (by simp[p])]
theorem lG:∀ k n,Lim (dL k n)
 | 0,_=>fun x i=>by cases i
 | k+1,n=>fun x i=>by
  simp only[dL,aXP] at i;rcases i with rfl | i
  ·exact aYW _ (by decide)
  ·exact lG k _ x i
theorem wX:∀ k n,val (dL k n)=n%4294967296 ^ k
 | 0,n=>by simp[dL,val,Nat.mod_one]
 | k+1,n=>by simp only[dL,val,wX k];rw[aZB,aYI (4294967296 ^ k) 4294967296,Nat.mod_mul]
theorem mP {k n:Nat} (h:n<4294967296 ^ k):val (dL k n)=n:=by rw[wX,aYR h]
end Go.Na
namespace Go.PM
open Go Go.Na
theorem aMZ {a b:Nat} (i:a<18446744073709551616) (l:b<18446744073709551616):(BitVec.ofInt 64 (a:Int) ||| BitVec.ofInt 64 (b:Int)).toNat=a ||| b:=by
 rw[BitVec.ofInt_natCast,BitVec.ofInt_natCast,BitVec.toNat_or,BitVec.toNat_ofNat,BitVec.toNat_ofNat,aYR (by simpa using i),aYR (by simpa using l)]
theorem Ft {c x s:Nat} (i:c<2 ^ s) (h:c+2 ^ s*x<18446744073709551616):c ||| (2 ^ s*x)=c+2 ^ s*x:=by
 rw[Nat.or_comm,← Nat.two_pow_add_eq_or_of_lt i,Nat.add_comm]
theorem orI {a b n:Nat} (i:a<18446744073709551616) (l:b<18446744073709551616) (h:a ||| b=n) (p:n<18446744073709551616):kA .or .u64 (a:Int) (b:Int)=some (.int .u64 (n:Int)):=by
 show some (PV.int .u64 (IntKind.u64.wrap (((BitVec.ofInt 64 (a:Int) ||| BitVec.ofInt 64 (b:Int)).toNat:Nat):Int)))=_;rw[aMZ i l,h,bA p]
theorem GF {x s:Nat} (i:s≤64) (h:x*2 ^ s<18446744073709551616):shift .shl .u64 (x:Int) (s:Int)=some (.int .u64 ((2 ^ s*x:Nat):Int)):=by
 unfold shift;rw[if_neg Om];simp only;have:min (Int.toNat (s:Int)) IntKind.u64.bits=s:=by rw[show IntKind.u64.bits=64 from rfl]; omega
 rw[this,show (x:Int)*2 ^ s=((x*2 ^ s:Nat):Int) by simp,bA h,aYI]
def asK (a:List Nat) (s o i c:Nat):PF:=(((((((PF.nil.set 0 (aG a)).set 1 (.int .u64 s)).set 5 (.osl o 1 0 (a.length+1))).set 6 (.int .u64 c)).set 13 (aG a)).set 14 (.int .i64 (a.length:Nat))).set 15 (.int .i64 i))
def upR (a:List Nat) (s:Nat) (r:PV) (H:PH):Prop:=∃ o,r=.osl o 1 0 (a.length+1)∧H=PH.nil.set o (.rows 1 (aF (dL (a.length+1) (val a*2 ^ s))))
theorem adI {C:Ctx} (a:List Nat) (s:Nat) (ha:Lim a) (hs:s<32) (h1:a.length≤1000):UV.wp C (aW nup.res (upR a s)) (PF.args [aG a,.int .u64 s]) .nil:=by
 have ε:IntKind.i64.wrap ((a.length:Int)+1)=((a.length+1:Nat):Int):=cP Om;have ν:((a.length+1:Nat):Int)*((4:Nat):Int)≤140737488355328:=Om;have ξ:((a.length+1:Nat):Int)≤9223372036854775807:=Om;have hz:aXK (a.length+1) [PV.int .u32 0]=aF ([]++aXK (a.length+1) 0):=by simp[aF]
 have ι:2 ^ s≤2147483648:=a0Z (show 0<2 by decide) (Om:s≤31);have γ:0<2 ^ s:=a0A (by decide);simp only[go_sem,UV,adJ,adK,nup,ε,ν,ξ,hz];refine aT fun o ho=>?_;simp only[go_sem,adL,adM];refine wp_loop (α:=List Nat × Nat × Nat) (fun t=>asK a s t.2.2 t.1.length t.2.1) (fun t=>PH.nil.set t.2.2 (.rows 1 (aF (t.1++aXK (a.length+1-t.1.length) 0))))
  (fun t=>t.1.length≤a.length∧Lim t.1∧t.2.1<2 ^ s∧val t.1+4294967296 ^ t.1.length*t.2.1=val (a.take t.1.length)*2 ^ s) (fun t=>a.length-t.1.length) ([],0,o) ⟨by simp,by simp[Lim],γ,by simp[val]⟩ ?_ ?_ ?_
 ·unfold asK;exact Lq
 ·exact PH.aJ PH.nil_le (by simp only[go_sem,aZV])
 rintro⟨P,c,q⟩ ⟨hP,i,hc,p⟩;simp only at hP i hc p;simp only[go_sem,Q3,adN,asK];by_cases c1:P.length<a.length
 ·have J:(P.length:Int)<(a.length:Nat):=Om;have ρ:=ha _ (aXM c1);obtain⟨k,hk⟩:∃ k,a.length+1-P.length=k+1:=⟨a.length-P.length,by omega⟩;have U:(aF (P++aXK (k+1) 0))[P.length]?=some [.int .u32 ((0:Nat):Int)]:=by rw[bK _ (by simp)]; simp
  have β:a.length+1-(P.length+1)=k:=Om;have R:(P.length:Int)<((a.length+1:Nat):Int):=Om;have ο:=bW a c1;generalize hx:a[P.length]=x at *
  have σ:x*2 ^ s≤4294967295*2147483648:=a0O Om ι;have ex:IntKind.u64.wrap ((x:Nat):Int)=((x:Nat):Int):=bA Om;have ζ:2 ^ s*x=x*2 ^ s:=aYI _ _;have θ:shift .shl .u64 (x:Int) (s:Int)=some (.int .u64 ((2 ^ s*x:Nat):Int)):=GF Om Om;have η:=orI (a:=c) (b:=2 ^ s*x) (n:=c+2 ^ s*x) Om Om (Ft hc Om) Om;have δ:(c+2 ^ s*x)/4294967296<2 ^ s:=by rw[a0H (by decide)];have:2 ^ s*(x+1)≤2 ^ s*4294967296:=aZR _ Om;rw[aXS,Nat.mul_one] at this;omega
  have l:(aF (P++aXK (k+1) 0)).set P.length [.int .u32 (((c+2 ^ s*x)%4294967296:Nat):Int)]=aF ((P++[(c+2 ^ s*x)%4294967296])++aXK k 0):=by rw[eZ,vQ]
  have μ:(aF a)[P.length]?=some [.int .u32 ((x:Nat):Int)]:=by rw[bK a c1,hx]
  simp only[go_sem,J,adO,adP,μ,ex,θ,η,adQ,cA,hk,R,U,l,adR,uT,adS,cP (Om:P.length<9223372036854775807)];refine aM (P++[(c+2 ^ s*x)%4294967296],(c+2 ^ s*x)/4294967296,q) ⟨by simp; omega,i.app fun y hy=>by simp at hy; subst hy; exact aYW _ (by decide),δ,?_⟩ (by simp; omega) ?_ (PH.aJ PH.nil_le ?_)
  ·simp only;rw[gX,aXN,aXR,aZB,aYC,aZO,← aXS,Nat.mod_add_div,ο,aXS,aYM,← aZO,p,ζ,aYC]
  ·simp only;rw[aXN,aXR];exact Lq
  ·simp only;rw[aXN,aXR,β];simp only[go_sem]
 ·have e:P.length=a.length:=Om;have J:¬ (P.length:Int)<(a.length:Nat):=Om;have hk:aXK (a.length+1-P.length) 0=[0]:=by rw[show a.length+1-P.length=1 by omega]; rfl
  have U:(aF (P++[0]))[a.length]?=some [.int .u32 ((0:Nat):Int)]:=by rw[bK _ (by simp; omega)];simp[e]
  have l:(aF (P++[0])).set a.length [.int .u32 ((c%4294967296:Nat):Int)]=aF (P++[c]):=by have:=vQ P 0 (c%4294967296);simp only[List.replicate_zero,aZK,aYD,List.replicate_one] at this;rw[← e,eZ,this,aYR Om]
  have R:(a.length:Int)<((a.length+1:Nat):Int):=Om;have hV:val (P++[c])=val a*2 ^ s:=by rw[gX,p,e,aYS]
  have κ:Lim (P++[c]):=i.app fun x hx=>by simp at hx; omega
  have hD:dL (a.length+1) (val a*2 ^ s)=P++[c]:=by have:=CP κ;rw[hV,aXN,aXR,e] at this;exact this
  simp only[go_sem,J,Q4,cA,hk,U,R,l,Q5];exact bB (vs:=[.osl q 1 0 (a.length+1)]) (.inr rfl) (PH.nil.set q (.rows 1 (aF (P++[c])))) Ev (PH.aJ PH.nil_le Sq) ⟨q,rfl,by rw[hD]⟩
def i6 (a:List Nat) (d o k r:Nat):PF:=(((((PF.nil.set 0 (aG a)).set 1 (.int .u32 d)).set 6 (.osl o 1 0 a.length)).set 7 (.int .u64 r)).set 8 (.int .i64 ((k:Int)-1)))
theorem qz {C:Ctx} (L:nO C) (a:List Nat) (d:Nat) (ha:Lim a) (p:0<d) (hd:d<4294967296) (h1:a.length≤1000) :
  zS.wp C (aW LT.res (aL (.tup [aG (aI (val a/d)),.int .u32 ((val a%d:Nat):Int)]))) (PF.args [aG a,.int .u32 d]) .nil:=by
 have ρ:(a.length:Int)*((4:Nat):Int)≤140737488355328:=Om;have σ:(a.length:Int)≤9223372036854775807:=Om;have hz:aXK a.length [PV.int .u32 0]=aF (aXK a.length 0++[]):=by simp[aF]
 simp only[go_sem,zS,q9,rc,LT,ρ,σ,hz];refine aT fun o ho=>?_;simp only[go_sem,re,rg];refine wp_loop (α:=Nat × List Nat × Nat × Nat) (fun t=>i6 a d t.2.2.2 t.1 t.2.2.1) (fun t=>PH.nil.set t.2.2.2 (.rows 1 (aF (aXK t.1 0++t.2.1))))
  (fun t=>t.1+t.2.1.length=a.length∧Lim t.2.1∧t.2.2.1<d∧val t.2.1*d+t.2.2.1=val (a.drop t.1)) (fun t=>t.1) (a.length,[],0,o) ⟨by simp,by simp[Lim],p,by simp[val]⟩ ?_ ?_ ?_
 ·unfold i6
  (repeat' (first|exact PF.nil_le|refine PF.aJ ?_ ?_))<;>first|(simp only[go_sem,wrap_i64 (Om:-9223372036854775808≤(a.length:Int)-1) (Om:(a.length:Int)-1≤9223372036854775807)]<;>rfl)|rfl
 ·exact PH.aJ PH.nil_le Sq
 rintro⟨k,S,r,q⟩ ⟨hk,i,hr,l⟩;simp only at hk i hr l;simp only[go_sem,qy,rh,i6];by_cases h0:0<k
 ·obtain⟨m,rfl⟩:∃ m,k=m+1:=⟨k-1,by omega⟩;have U:((m+1:Nat):Int)-1=(m:Int):=Om;have ξ:(m:Int)≥0:=Om;have R:m<a.length:=Om;have hlt:(m:Int)<(a.length:Nat):=Om;have υ:=ha _ (aXM R);have J:val (a.drop m)=a[m]+4294967296*val (a.drop (m+1)):=by rw[aZG R]; rfl
  generalize hx:a[m]=x at *
  have ι:(aF a)[m]?=some [.int .u32 ((x:Nat):Int)]:=by rw[bK a R,hx]
  have ex:IntKind.u64.wrap ((x:Nat):Int)=((x:Nat):Int):=bA Om;have ed:IntKind.u64.wrap ((d:Nat):Int)=((d:Nat):Int):=bA Om;have ε:shift .shl .u64 (r:Int) 32=some (.int .u64 ((2 ^ 32*r:Nat):Int)):=GF (s:=32) Om Om;have θ:(2:Nat) ^ 32=4294967296:=by decide
  have β:=orI (a:=2 ^ 32*r) (b:=x) (n:=2 ^ 32*r+x) Om Om (Nat.two_pow_add_eq_or_of_lt Om r).symm Om;rw[θ] at ε β;have hq:(4294967296*r+x)/d<4294967296:=by rw[a0H p];have:4294967296*(r+1)≤4294967296*d:=aZR _ hr;omega
  have κ:¬ ((d:Nat):Int)=0:=Om;have γ:IntKind.u64.wrap (Int.tdiv ((4294967296*r+x:Nat):Int) ((d:Nat):Int))=(((4294967296*r+x)/d:Nat):Int):=by rw[show Int.tdiv ((4294967296*r+x:Nat):Int) ((d:Nat):Int)=(((4294967296*r+x)/d:Nat):Int) from rfl];exact bA Om
  have δ:Int.tmod ((4294967296*r+x:Nat):Int) ((d:Nat):Int)=(((4294967296*r+x)%d:Nat):Int):=rfl;have ec:IntKind.u32.wrap (((4294967296*r+x)/d:Nat):Int)=(((4294967296*r+x)/d:Nat):Int):=by rw[cA,aYR hq]
  have ζ:aXK (m+1) 0++S=aXK m 0++(0::S):=by rw[List.replicate_succ',aYQ]; rfl
  have ο:(aF (aXK m 0++(0::S)))[m]?=some [.int .u32 ((0:Nat):Int)]:=by rw[bK _ (by simp)]; simp
  have η:(aF (aXK m 0++(0::S))).set m [.int .u32 (((4294967296*r+x)/d:Nat):Int)]=aF (aXK m 0++(((4294967296*r+x)/d)::S)):=by rw[eZ,a0L _ _ (by simp)]; simp
  simp only[go_sem,U,ξ,ri,ε,ι,ex,β,rj,ed,κ,γ,ec,hlt,ζ,ο,η,rk,δ,rp];refine aM (m,((4294967296*r+x)/d)::S,(4294967296*r+x)%d,q) ⟨by simp only[aZA]; omega,fun y hy=>?_,aYW _ p,?_⟩ (by simp only; omega) ?_ (PH.aJ PH.nil_le Sq)
  ·rw[aXP] at hy;rcases hy with rfl | hy
   ·exact hq
   ·exact i y hy
  ·simp only[val];rw[J,← l,aYM,aXS,aYC];have:=a0R (4294967296*r+x) d;rw[aYI d] at this;omega
  ·(repeat' (first|exact PF.nil_le|refine PF.aJ ?_ ?_))<;>first|(simp only[go_sem,wrap_i64 (Om:-9223372036854775808≤(m:Int)-1) (Om:(m:Int)-1≤9223372036854775807)]<;>rfl)|rfl
 ·have:k=0:=Om;subst this;have U:¬ ((0:Nat):Int)-1≥0:=by decide
  rw[aYO] at l;have hS:S.length=a.length:=Om;have hq:val S=val a/d:=by rw[← l,aYI,Nat.mul_add_div p,a0S hr,aZP]
  have τ:r=val a%d:=by rw[← l,aYI,Nat.mul_add_mod,aYR hr]
  have φ:aXK 0 0++S=S:=by simp
  simp only[go_sem,U,cg,List.nil_append];have hl:=L.length S i Om;have χ:=eY i;have hc:((nl (val S):Nat):Int)≤(S.length:Nat):=Om;refine oO (o:=q) (s:=1) (k:=a.length) (rs:=aF S) (v:=.int .i64 (nl (val S):Nat)) ?_ Sq Sq (by rw[bR]; omega) ?_
  ·rw[aXY (by rw[bR]; omega)]; exact hl
  ·have ν:PV.frz q 1 (aF S) (.osl q 1 0 a.length)=aG S:=by
    have:0+a.length≤(aF S).length:=by rw[bR]; omega
    simp only[PV.frz,PV.qV,PV.cN,if_true,true_and,if_pos this,aYO];rw[aXY (by rw[bR]; omega)]
   have μ:∀ n:Int,∀ k,PV.frz q 1 (aF S) (.int k n)=.int k n:=fun _ _=>rfl;have er:IntKind.u32.wrap ((r:Nat):Int)=((r:Nat):Int):=by rw[cA,aYR Om]
   simp only[go_sem,ν,μ,hc,or_true,aYO,gU i,er];refine bB (vs:=[aG (aI (val S)),.int .u32 ((r:Nat):Int)]) (.inr rfl) .nil Ev PH.nil_le ⟨?_,rfl⟩;simp only[dB,← hq,← τ]
end Go.PM
namespace Go.Na
theorem BL {L:List Nat} {i:Nat} (h:i<L.length) (v:Nat):val (L.set i v)+4294967296 ^ i*L[i]=val L+4294967296 ^ i*v:=by
 have l:i<(L.set i v).length:=by rw[aZM]; exact h
 rw[qG L h,qG (L.set i v) l,List.getElem_set_self,List.take_set_of_le (aXL _),List.drop_set_of_lt Om,aXS,aXS];omega
theorem fq {L:List Nat} {i:Nat} (h:∀ (j x:Nat),i≤j→L[j]?=some x→x=0) (k v:Nat) (J:k<i):∀ (j x:Nat),i≤j→(L.set k v)[j]?=some x→x=0:=fun j x p l=>by
 rw[List.getElem?_set_ne Om] at l;exact h j x p l
end Go.Na
namespace Go.PM
open Go Go.Na
def jV (a b:List Nat) (o i:Nat):PF:=((((((PF.nil.set 0 (aG a)).set 1 (aG b)).set 6 (.osl o 1 0 (a.length+b.length))).set 32 (aG a)).set 33 (.int .i64 (a.length:Nat))).set 34 (.int .i64 i))
def U2 (a b:List Nat) (o i x c j:Nat):PF:=((((((((((((PF.nil.set 0 (aG a)).set 1 (aG b)).set 6 (.osl o 1 0 (a.length+b.length))).set 32 (aG a)).set 33 (.int .i64 (a.length:Nat))).set 34 (.int .i64 i)).set 7 (.int .i64 i)).set 8 (.int .u32 x)).set 9 (.int .u64 c)).set 39 (aG b)).set 40 (.int .i64 (b.length:Nat))).set 41 (.int .i64 j))
structure AO (a b L:List Nat) (i:Nat):Prop where
 len:L.length=a.length+b.length
 lim:Lim L
 v:val L=val (a.take i)*val b
 z:∀ j x,i+b.length≤j→L[j]?=some x→x=0
theorem Pq {x y:Nat} (i:x<4294967296) (l:y<4294967296):IntKind.u64.wrap ((x:Int)*(y:Int))=((x*y:Nat):Int):=by
 have:x*y≤4294967295*4294967295:=a0O Om Om;rw[show (x:Int)*(y:Int)=((x*y:Nat):Int) by simp];exact bA Om
theorem fN {a b:Nat} (h:a+b≤9223372036854775807):IntKind.i64.wrap ((a:Int)+(b:Int))=((a+b:Nat):Int):=by
 rw[wrap_i64 Om Om]; omega
theorem asI {C:Ctx} (a b:List Nat) (ha:Lim a) (hb:Lim b) (h1:a.length≤1000) (h2:b.length≤1000) (L:List Nat) (i:Nat) (hi:i<a.length) (hI:AO a b L i) (q:Nat) (K:bT) (F:PF) (H:PH) (hF:(jV a b q i).le F) (hH:H q=some (.rows 1 (aF L)))
  (hK:∀ L' F' H',AO a b L' (i+1)→(jV a b q i).le F'→H' q=some (.rows 1 (aF L'))→K .normal F' H') :
  aA.wp C (.block 1 (.seq (.region i0) (.seq (.region i4) (.seq (.seq (.region i5) (.block 2 (.loop UK))) (.region UM))))) K F H:=by
 have f0:=hF 0 _ (by unfold jV; simp only[go_sem]; rfl);have f1:=hF 1 _ (by unfold jV; simp only[go_sem]; rfl);have f6:=hF 6 _ (by unfold jV; simp only[go_sem]; rfl);have f32:=hF 32 _ (by unfold jV; simp only[go_sem]; rfl);have ο:=hF 33 _ (by unfold jV; simp only[go_sem]; rfl);have ζ:=hF 34 _ (by unfold jV; simp only[go_sem]; rfl);have hx:=ha _ (aXM hi);have ι:=bW a hi;generalize μ:a[i]=x at *
 have η:(aF a)[i]?=some [.int .u32 ((x:Nat):Int)]:=by rw[bK a hi,μ]
 simp only[go_sem,i0,i4,i5,f32,ζ,f1,η];refine wp_loop (α:=List Nat × Nat × Nat) (fun t=>U2 a b q i x t.2.1 t.2.2) (fun t=>PH.nil.set q (.rows 1 (aF t.1)))
  (fun t=>t.2.2≤b.length∧t.1.length=a.length+b.length∧Lim t.1∧t.2.1<4294967296∧val t.1+4294967296 ^ (i+t.2.2)*t.2.1=val (a.take i)*val b+4294967296 ^ i*(x*val (b.take t.2.2))∧∀ j y,i+b.length≤j→t.1[j]?=some y→y=0) (fun t=>b.length-t.2.2) (L,0,0)
  ⟨by simp,hI.len,hI.lim,by simp,by simp[val,hI.v],hI.z⟩ ?_ (PH.aJ PH.nil_le hH) ?_
 ·unfold U2;exact Lq
 rintro⟨M,c,j⟩ ⟨hj,hM,p,hc,U,hz⟩;simp only at hj hM p hc U hz;simp only[go_sem,UK,E7,U2];by_cases c1:j<b.length
 ·have β:(j:Int)<(b.length:Nat):=Om;have hy:=hb _ (aXM c1);have κ:=bW b c1;generalize ν:b[j]=y at *
  have θ:(aF b)[j]?=some [.int .u32 ((y:Nat):Int)]:=by rw[bK b c1,ν]
  have l:i+j<M.length:=Om;have ε:=p _ (aXM l);have R:=BL l;generalize ξ:M[i+j]=z at *
  have δ:(aF M)[i+j]?=some [.int .u32 ((z:Nat):Int)]:=by rw[bK M l,ξ]
  have ex:IntKind.u64.wrap ((x:Nat):Int)=((x:Nat):Int):=bA Om;have ey:IntKind.u64.wrap ((y:Nat):Int)=((y:Nat):Int):=bA Om;have ez:IntKind.u64.wrap ((z:Nat):Int)=((z:Nat):Int):=bA Om;have em:=Pq hx hy;have σ:x*y≤4294967295*4294967295:=a0O Om Om;have e1:IntKind.u64.wrap (((x*y:Nat):Int)+(z:Int))=((x*y+z:Nat):Int):=eM Om;have e2:IntKind.u64.wrap ((c:Int)+((x*y+z:Nat):Int))=((c+(x*y+z):Nat):Int):=eM Om;have γ:IntKind.i64.wrap ((i:Int)+(j:Int))=((i+j:Nat):Int):=fN Om;have hlt:((i+j:Nat):Int)<((a.length+b.length:Nat):Int):=Om;generalize ht:c+(x*y+z)=t at *
  have ρ:t<4294967296*4294967296:=Om;have J:(aF M).set (i+j) [.int .u32 ((t%4294967296:Nat):Int)]=aF (M.set (i+j) (t%4294967296)):=eZ M (i+j) _;simp only[go_sem,β,E8,θ,E9,ex,ey,em,γ,hlt,δ,ez,e1,e2,Fa,cA,J,Fb,uT,Fc,wZz j];refine aM (M.set (i+j) (t%4294967296),t/4294967296,j+1) ⟨by simp only; omega,by simp only[aZM]; exact hM,p.set _ (aYW _ (by decide)),by simp only; omega,?_,fq hz _ _ Om⟩ (by simp only; omega) ?_ (PH.aJ PH.nil_le Sq)
  ·simp only;have h3:=R (t%4294967296);have h4:4294967296 ^ (i+(j+1))*(t/4294967296)+4294967296 ^ (i+j)*(t%4294967296)=4294967296 ^ (i+j)*t:=by rw[← aZO,aZB,aYC,← aXS,a0R]
   have h5:4294967296 ^ (i+j)*t=4294967296 ^ (i+j)*c+(4294967296 ^ (i+j)*(x*y)+4294967296 ^ (i+j)*z):=by rw[← ht,aXS,aXS]
   have h6:4294967296 ^ i*(x*val (b.take (j+1)))=4294967296 ^ i*(x*val (b.take j))+4294967296 ^ (i+j)*(x*y):=by rw[κ,aXS,aXS,Nat.pow_add];congr 1;rw[Nat.mul_left_comm x,aYC]
   omega
  ·exact Lq
 ·have he:j=b.length:=Om;have β:¬ (j:Int)<(b.length:Nat):=Om;subst he;have l:i+b.length<M.length:=Om;have ε:M[i+b.length]=0:=hz _ _ (aXL _) (aXT l);have R:=BL l;have δ:(aF M)[i+b.length]?=some [.int .u32 ((0:Nat):Int)]:=by rw[bK M l,ε]
  have γ:IntKind.i64.wrap ((i:Int)+(b.length:Int))=((i+b.length:Nat):Int):=fN Om;have hlt:((i+b.length:Nat):Int)<((a.length+b.length:Nat):Int):=Om;have J:(aF M).set (i+b.length) [.int .u32 ((c%4294967296:Nat):Int)]=aF (M.set (i+b.length) c):=by rw[aYR hc]; exact eZ M _ _
  simp only[go_sem,β,UM,γ,cA,hlt,δ,J];refine hK (M.set (i+b.length) c) _ _ ⟨by rw[aZM]; exact hM,p.set _ hc,?_,fun j y hj hy=>?_⟩ (by unfold jV; exact Lq) Sq
  ·have h3:=R c;rw[ε,Nat.mul_zero,aZP] at h3;rw[h3,U,aYS,ι,aYM,aYC]
  ·rw[List.getElem?_set_ne Om] at hy;exact hz j y Om hy
theorem adE {C:Ctx} (L:nO C) (a b:List Nat) (ha:Lim a) (hb:Lim b) (h1:a.length≤1000) (h2:b.length≤1000) (F:PF) (f0:F 0=some (aG a)) (f1:F 1=some (aG b)) :
  aA.wp C (.seq (.region iy) (.seq (.seq (.region iz) (.block 0 (.loop UL))) (.seq (.region UN) .ret))) (aW [.tmp 4,.tmp 5] (cG (szV (val a*val b)))) F .nil:=by
 have R:IntKind.i64.wrap ((a.length:Int)+(b.length:Int))=((a.length+b.length:Nat):Int):=fN Om;have δ:((a.length+b.length:Nat):Int)*((4:Nat):Int)≤140737488355328:=Om;have ε:((a.length+b.length:Nat):Int)≤9223372036854775807:=Om;have hz:aXK (a.length+b.length) [PV.int .u32 0]=aF (aXK (a.length+b.length) 0):=by simp[aF]
 simp only[go_sem,iy,f0,f1,R,δ,ε,hz];refine aT fun o ho=>?_;simp only[go_sem,iz,f0];refine wp_loop (α:=List Nat × Nat) (fun t=>jV a b o t.2) (fun t=>PH.nil.set o (.rows 1 (aF t.1))) (fun t=>t.2≤a.length∧AO a b t.1 t.2) (fun t=>a.length-t.2) (aXK (a.length+b.length) 0,0)
  ⟨by simp,by simp,tC _,by simp[val,qI],fun j x _ hx=>by rw[List.getElem?_replicate] at hx; split at hx<;>simp_all⟩ ?_ (PH.aJ PH.nil_le Sq) ?_
 ·unfold jV;exact Lq
 rintro⟨M,i⟩ ⟨hi,p⟩;simp only at hi p;simp only[go_sem,UL,Qu,jV];by_cases c1:i<a.length
 ·have J:(i:Int)<(a.length:Nat):=Om;have key:=asI (C:=C) a b ha hb h1 h2 M i c1 p o;simp only[go_sem] at key;simp only[go_sem,J];refine key _ _ _ (by unfold jV; exact Lq) Sq ?_;intro L' F' H' γ l β;have U:=l 34 _ (by unfold jV; simp only[go_sem]; rfl);have g0:=l 0 _ (by unfold jV; simp only[go_sem]; rfl);have g1:=l 1 _ (by unfold jV; simp only[go_sem]; rfl);have g6:=l 6 _ (by unfold jV; simp only[go_sem]; rfl);have ζ:=l 32 _ (by unfold jV; simp only[go_sem]; rfl);have η:=l 33 _ (by unfold jV; simp only[go_sem]; rfl);simp only[go_sem,Fd,U,wZz i];refine aM (L',i+1) ⟨by simp only; omega,γ⟩ (by simp only; omega) ?_ (PH.aJ PH.nil_le β);exact Lq
 ·have he:i=a.length:=Om;subst he;have J:¬ (a.length:Int)<(a.length:Nat):=Om;have hV:val M=val a*val b:=by rw[p.v,aYS]
  simp only[go_sem,UN];have hs:=L.sized _ p.lim (by rw[p.len]; omega);rw[hV] at hs;refine oO (o:=o) (s:=1) (k:=a.length+b.length) (rs:=aF M) (v:=szV (val a*val b)) ?_ rfl Sq (by rw[bR,p.len]; exact aXL _) ?_
  ·rw[aXY (by rw[bR,p.len]; exact aXL _)]; exact hs
  ·simp only[go_sem,szV];exact bB (.inr rfl) .nil rfl PH.nil_le ⟨.refl _,rfl⟩
theorem Qq {C:Ctx} (L:nO C) (a b:List Nat) (p:Lim a) (J:Lim b) (la:a.length≤35184372087808) (lb:b.length≤35184372087808) :
  LP.wp C (aW E6.res (cG (opV (eN (val a) (val b)) (val a*val b)))) (PF.args [aG a,aG b]) .nil:=by
 simp only[go_sem,LP,Qr,Qs,E6];refine aC (L.large a p la) rfl ?_;by_cases i:nl (val a)>512
 ·simp only[go_sem,i,ix];rw[show opV (eN (val a) (val b)) (val a*val b)=.tup [aG [],.int .i64 2] by simp[opV,eN,i]];exact jB rfl
 simp only[go_sem,i];refine aC (L.large b J lb) rfl ?_;by_cases l:nl (val b)>512
 ·simp only[go_sem,l,ix];rw[show opV (eN (val a) (val b)) (val a*val b)=.tup [aG [],.int .i64 2] by simp[opV,eN,l]];exact jB rfl
 have e:opV (eN (val a) (val b)) (val a*val b)=szV (val a*val b):=by simp[opV,eN,i,l]
 rw[e];simp only[go_sem,l];refine cJ .nil Uq PH.nil_le ?_;simp only[go_sem,Qt];have h1:=eY p;have h2:=eY J;have R:((nl (val a):Nat):Int)≤(a.length:Nat):=Om;have U:((nl (val b):Nat):Int)≤(b.length:Nat):=Om;refine cW (mM a) (L.length a p la) rfl PH.nil_le ?_;simp only[go_sem,R,or_true,aYO,gU p];refine cW (mM b) (L.length b J lb) rfl PH.nil_le ?_;simp only[go_sem,U,or_true,aYO,gU J];have va:=aY (val a);have vb:=aY (val b);have:=adE L (aI (val a)) (aI (val b)) (bC _) (bC _) (by rw[bH]; omega) (by rw[bH]; omega);rw[va,vb] at this;have:=fun F f0 f1=>this F f0 f1;simp only[go_sem] at this;exact this _ rfl rfl
open Go Go.Na
theorem c8 {A P W Z:List Nat} {i:Nat} (p:P.length=i) (hi:i<W.length):(aF (A++(P++W.drop i)++Z))[A.length+i]?=some [.int .u32 ((W[i]:Nat):Int)]:=by
 have l:A.length+i<(A++(P++W.drop i)++Z).length:=by simp; omega
 rw[bK _ l];congr 4;rw[List.getElem_append_left (by simp; omega),a1A Om,a1A Om,List.getElem_drop];congr 1;omega
theorem BI {A P W Z:List Nat} {i:Nat} (l:P.length=i) (hi:i<W.length) (v:Nat):(aF (A++(P++W.drop i)++Z)).set (A.length+i) [.int .u32 (v:Int)]=aF (A++((P++[v])++W.drop (i+1))++Z):=by
 rw[eZ];congr 1;rw[List.set_append_left _ _ (by simp; omega),a0L _ _ Om,a0L _ _ Om,aZG hi];rw[show A.length+i-A.length-P.length=0 by omega,a0Y];simp
theorem apA {t:Nat} (h:t<18446744073709551616):kA .and .u64 (t:Int) 4294967295=some (.int .u64 ((t%4294967296:Nat):Int)):=by
 show some (PV.int .u64 (IntKind.u64.wrap (((BitVec.ofInt 64 (t:Int) &&& BitVec.ofInt 64 (4294967295:Int)).toNat:Nat):Int)))=_;have e:BitVec.ofInt 64 (4294967295:Int)=BitVec.ofNat 64 4294967295:=by rfl
 rw[e,BitVec.ofInt_natCast,BitVec.toNat_and,BitVec.toNat_ofNat,BitVec.toNat_ofNat,aYR (by simpa using h)];have i:(4294967295:Nat)%2 ^ 64=2 ^ 32-1:=by decide
 rw[i,Nat.and_two_pow_sub_one_eq_mod];rw[bA (Nat.lt_of_lt_of_le (aYW _ (by decide)) (by decide))]
theorem apL {c f x:Nat} (l:c<4294967296) (i:f≤4294967296) (p:x<4294967296):c+f*x<18446744073709551616∧(c+f*x)/4294967296<4294967296∧f*x≤4294967296*4294967295:=by
 have:f*x≤4294967296*4294967295:=a0O i Om;refine⟨by omega,?_,this⟩;omega
def Fk (v:List Nat) (j o i c b:Nat) (f:Nat):PF:=((((((((PF.nil.set 0 (.osl o 1 j (v.length+1))).set 1 (aG v)).set 2 (.int .u64 f)).set 7 (.int .u64 c)).set 8 (.int .u64 b)).set 13 (aG v)).set 14 (.int .i64 (v.length:Nat))).set 15 (.int .i64 i))
def GH (n w m:Nat):Nat:=if w<m then w+4294967296 ^ n-m else w-m
theorem MA {C:Ctx} (A W Z v:List Nat) (f:Nat) (hW:Lim W) (hv:Lim v) (hl:W.length=v.length+1) (h1:A.length+v.length≤100000) (hf:f≤4294967296) (Δ:val v*f≤val W+4294967296 ^ (v.length+1)) (o:Nat) :
  sB.wp C (aW tH.res (fun r H'=>r=.bool (decide (val W<val v*f))∧H'=PH.nil.set o (.rows 1 (aF (A++dL (v.length+1) (GH (v.length+1) (val W) (val v*f))++Z)))))
   (PF.args [.osl o 1 A.length (v.length+1),aG v,.int .u64 f]) (PH.nil.set o (.rows 1 (aF (A++W++Z)))):=by
 simp only[go_sem,sB,MB,MC,MD,tH];refine wp_loop (α:=List Nat × Nat × Nat) (fun t=>Fk v A.length o t.1.length t.2.1 t.2.2 f) (fun t=>PH.nil.set o (.rows 1 (aF (A++(t.1++W.drop t.1.length)++Z))))
  (fun t=>t.1.length≤v.length∧Lim t.1∧t.2.1<4294967296∧t.2.2≤1∧val (W.take t.1.length)+4294967296 ^ t.1.length*t.2.2+4294967296 ^ t.1.length*t.2.1=val t.1+val (v.take t.1.length)*f) (fun t=>v.length-t.1.length) ([],0,0)
  ⟨by simp,by simp[Lim],by simp,by simp,by simp[val]⟩ ?_ (PH.aJ PH.nil_le (by simp only[go_sem,aZV,aYO,List.nil_append])) ?_
 ·unfold Fk;exact Lq
 rintro⟨P,c,b⟩ ⟨hP,i,hc,hb,J⟩;simp only at hP i hc hb J;simp only[go_sem,HO,MF,Fk];by_cases c1:P.length<v.length
 ·have γ:(P.length:Int)<(v.length:Nat):=Om;have U:P.length<W.length:=Om;have δ:(P.length:Int)<((v.length+1:Nat):Int):=Om;have hx:=hv _ (aXM c1);have hw:=hW _ (aXM U);have φ:=bW v c1;have β:=bW W U;have ζ:=c8 (A:=A) (Z:=Z) (P:=P) rfl U;have p:=BI (A:=A) (Z:=Z) (P:=P) rfl U;generalize Γ:v[P.length]=x at *
  generalize ω:W[P.length]=y at *
  have ψ:(aF v)[P.length]?=some [.int .u32 ((x:Nat):Int)]:=by rw[bK v c1,Γ]
  obtain⟨k1,k2,k3⟩:=apL hc hf hx;have ex:IntKind.u64.wrap ((x:Nat):Int)=((x:Nat):Int):=bA Om;have ey:IntKind.u64.wrap ((y:Nat):Int)=((y:Nat):Int):=bA Om;have em:IntKind.u64.wrap ((f:Int)*(x:Int))=((f*x:Nat):Int):=by rw[show (f:Int)*(x:Int)=((f*x:Nat):Int) by simp];exact bA Om
  have l:c+f*x<18446744073709551616:=k1;have ea:IntKind.u64.wrap ((c:Int)+((f*x:Nat):Int))=((c+f*x:Nat):Int):=eM l;have κ:=apA l;have χ:val (v.take (P.length+1))*f=val (v.take P.length)*f+4294967296 ^ P.length*(f*x):=by rw[φ,aYM,aYC,aYI x f]
  generalize f*x=R at *
  have ν:(c+R)%4294967296<4294967296:=aYW _ (by decide);obtain⟨s1,s2,s3,s4⟩:=Gv (a:=y) (bor:=b) (b:=(c+R)%4294967296) hw ν hb (IntKind.u64.wrap (IntKind.u64.wrap ((y:Int)-(((c+R)%4294967296:Nat):Int))-(b:Int))) (by rw[fE,fE]; omega);generalize hd:NC y b ((c+R)%4294967296)=d at *
  generalize σ:VC y b ((c+R)%4294967296)=b' at *
  have ρ:b'≤1:=by rw[← σ]; unfold VC; split<;>omega
  have hs:=p d;simp only[go_sem,γ,MG,ψ,MH,ex,em,ea,MI,δ,ζ,ey,κ,MJ,s1,hs,MK,Wg,s2,ML,uT,HP,cP (Om:P.length<9223372036854775807)];refine aM (P++[d],(c+R)/4294967296,b') ⟨by simp; omega,i.app fun z hz=>by simp at hz; omega,k2,ρ,?_⟩ (by simp; omega) ?_ (PH.aJ PH.nil_le ?_)
  ·simp only;rw[aXN,aXR,gX,β,χ,aZB,aYC,aYC];have h4:4294967296 ^ P.length*y+4294967296 ^ P.length*(4294967296*b')=4294967296 ^ P.length*d+4294967296 ^ P.length*((c+R)%4294967296)+4294967296 ^ P.length*b:=by rw[← aXS,s3,aXS,aXS]
   have h5:4294967296 ^ P.length*(4294967296*((c+R)/4294967296))+4294967296 ^ P.length*((c+R)%4294967296)=4294967296 ^ P.length*c+4294967296 ^ P.length*R:=by rw[← aXS,a0R,aXS]
   omega
  ·simp only;rw[aXN,aXR];exact Lq
  ·simp only;rw[aXN,aXR];simp only[go_sem]
 ·have e:P.length=v.length:=Om;have γ:¬ (P.length:Int)<(v.length:Nat):=Om;have U:v.length<W.length:=Om;have δ:(v.length:Int)<((v.length+1:Nat):Int):=Om;have hw:=hW _ (aXM U);have β:=bW W U;have ζ:=c8 (A:=A) (Z:=Z) (P:=P) e U;have p:=BI (A:=A) (Z:=Z) (P:=P) e U;have ε:val (W.take (v.length+1))=val W:=by rw[aXY Om]
  generalize ω:W[v.length]=y at *
  have ey:IntKind.u64.wrap ((y:Nat):Int)=((y:Nat):Int):=bA Om;have ο:=eK i;rw[e] at J ο;rw[aYS] at J;rw[ε] at β;have ξ:4294967296 ^ (v.length+1)=4294967296 ^ v.length*4294967296:=aZB _ _;have key:val W+4294967296 ^ v.length*(b+c)=val P+val v*f+4294967296 ^ v.length*y:=by rw[β,aXS]; omega
  have Θ:b+c≤y+4294967296:=by
   rcases aXZ (y+4294967296) (b+c) with h | h
   ·exfalso;have:4294967296 ^ v.length*(y+4294967296+1)≤4294967296 ^ v.length*(b+c):=aZR _ h;rw[aXS,aXS,Nat.mul_one] at this;omega
   ·exact h
  have θ:∃ d k:Nat,d<4294967296∧k≤1∧y+4294967296*k=d+(b+c)∧IntKind.u32.wrap (IntKind.u64.wrap (IntKind.u64.wrap ((y:Int)-(c:Int))-(b:Int)))=(d:Int)∧((IntKind.u64.wrap (IntKind.u64.wrap ((y:Int)-(c:Int))-(b:Int))/9223372036854775808==1)=decide (k=1)):=by
   rw[RV,fE,fE];by_cases h:y<b+c
   ·refine⟨y+4294967296-(b+c),1,by omega,by omega,by omega,by omega,?_⟩;simp only[decide_true];exact bM Om
   ·refine⟨y-(b+c),0,by omega,by omega,by omega,by omega,?_⟩;exact bF Om
  obtain⟨d,k,hd,hk,hy,w1,w2⟩:=θ;have hs:=p d;have hN:val (P++[d])+val v*f=val W+4294967296 ^ (v.length+1)*k:=by
   have:4294967296 ^ v.length*y+4294967296 ^ v.length*(4294967296*k)=4294967296 ^ v.length*d+4294967296 ^ v.length*(b+c):=by rw[← aXS,hy,aXS]
   rw[gX,e,ξ,aYC];omega
  have μ:Lim (P++[d]):=i.app fun z hz=>by simp at hz; omega
  have τ:=eK μ;rw[aXN,aXR,e] at τ;have η:decide (k=1)=decide (val W<val v*f):=by
   congr 1;apply propext;constructor
   ·intro h; subst h; omega
   ·intro h;rcases aZX k with h0 | h0
    ·subst h0; omega
    ·omega
  have ι:GH (v.length+1) (val W) (val v*f)=val (P++[d]):=by
   unfold GH;split
   ·rename_i h;have:k=1:=by simpa [h] using η
    subst this; omega
   ·rename_i h;have:k=0:=by
     have:¬ k=1:=by simpa [h] using η
     omega
    subst this; omega
  have hD:dL (v.length+1) (GH (v.length+1) (val W) (val v*f))=P++[d]:=by have:=CP μ;rw[aXN,aXR,e] at this;rw[ι,this]
  have υ:W.drop (v.length+1)=[]:=a0W Om;simp only[go_sem,γ,HQ,e,δ,ζ,ey,HR,w1,hs,HS,Wg,w2,η];refine bB (vs:=[.bool (decide (val W<val v*f))]) (.inr rfl) (PH.nil.set o (.rows 1 (aF (A++(P++[d]++W.drop (v.length+1))++Z)))) rfl (PH.aJ PH.nil_le Sq) ⟨rfl,?_⟩;rw[hD,υ,aZK]
end Go.PM
namespace Go.Na
theorem O0 {xs ys:List Nat} (p:Lim xs) (J:Lim ys) (i:xs.length=ys.length) (l:val xs=val ys):xs=ys:=by
 rw[← CP p,← CP J,i,l]
theorem aAD {k n:Nat} {xs:List Nat} (p:Lim xs) (i:xs.length=k) (l:val xs=n%4294967296 ^ k):dL k n=xs :=
 O0 (lG k n) p (by rw[kD,i]) (by rw[wX,l])
end Go.Na
namespace Go.PM
open Go Go.Na
def Fe (v:List Nat) (j o i c:Nat):PF:=((((((PF.nil.set 0 (.osl o 1 j (v.length+1))).set 1 (aG v)).set 4 (.int .u64 c)).set 7 (aG v)).set 8 (.int .i64 (v.length:Nat))).set 9 (.int .i64 i))
theorem QQ {C:Ctx} (A W Z v:List Nat) (hW:Lim W) (hv:Lim v) (hl:W.length=v.length+1) (h1:A.length+v.length≤100000) (o:Nat) :
  tP.wp C (aW wP.res (fun r H'=>r=.tup []∧H'=PH.nil.set o (.rows 1 (aF (A++dL (v.length+1) (val W+val v)++Z)))))
   (PF.args [.osl o 1 A.length (v.length+1),aG v]) (PH.nil.set o (.rows 1 (aF (A++W++Z)))):=by
 simp only[go_sem,tP,QR,QS,wP];refine wp_loop (α:=List Nat × Nat) (fun t=>Fe v A.length o t.1.length t.2) (fun t=>PH.nil.set o (.rows 1 (aF (A++(t.1++W.drop t.1.length)++Z))))
  (fun t=>t.1.length≤v.length∧Lim t.1∧t.2≤1∧val (W.take t.1.length)+val (v.take t.1.length)=val t.1+4294967296 ^ t.1.length*t.2) (fun t=>v.length-t.1.length) ([],0)
  ⟨by simp,by simp[Lim],by simp,by simp[val]⟩ ?_ (PH.aJ PH.nil_le (by simp only[go_sem,aZV,aYO,List.nil_append])) ?_
 ·unfold Fe;exact Lq
 rintro⟨P,c⟩ ⟨hP,i,hc,p⟩;simp only at hP i hc p;simp only[go_sem,QP,QT,Fe];by_cases c1:P.length<v.length
 ·have R:(P.length:Int)<(v.length:Nat):=Om;have J:P.length<W.length:=Om;have U:(P.length:Int)<((v.length+1:Nat):Int):=Om;have hx:=hv _ (aXM c1);have hw:=hW _ (aXM J);have ι:=bW v c1;have δ:=bW W J;have γ:=c8 (A:=A) (Z:=Z) (P:=P) rfl J;have l:=BI (A:=A) (Z:=Z) (P:=P) rfl J;generalize ν:v[P.length]=x at *
  generalize μ:W[P.length]=y at *
  have κ:(aF v)[P.length]?=some [.int .u32 ((x:Nat):Int)]:=by rw[bK v c1,ν]
  have ex:IntKind.u64.wrap ((x:Nat):Int)=((x:Nat):Int):=bA Om;have ey:IntKind.u64.wrap ((y:Nat):Int)=((y:Nat):Int):=bA Om;have e1:IntKind.u64.wrap ((y:Int)+(x:Int))=((y+x:Nat):Int):=eM Om;have e2:IntKind.u64.wrap ((c:Int)+((y+x:Nat):Int))=((c+(y+x):Nat):Int):=eM Om;have hs:=l ((c+(y+x))%4294967296);simp only[go_sem,R,QU,κ,QV,U,γ,ex,ey,e1,e2,QW,cA,hs,QX,uT,QY,cP (Om:P.length<9223372036854775807)];refine aM (P++[(c+(y+x))%4294967296],(c+(y+x))/4294967296) ⟨by simp; omega,i.app fun z hz=>by simp at hz; subst hz; exact aYW _ (by decide),by simp only; omega,?_⟩ (by simp; omega) ?_ (PH.aJ PH.nil_le ?_)
  ·simp only;rw[aXN,aXR,gX,δ,ι,aZB,aYC];have h5:4294967296 ^ P.length*(4294967296*((c+(y+x))/4294967296))+4294967296 ^ P.length*((c+(y+x))%4294967296)=4294967296 ^ P.length*c+(4294967296 ^ P.length*y+4294967296 ^ P.length*x):=by rw[← aXS,a0R,aXS,aXS]
   omega
  ·simp only;rw[aXN,aXR];exact Lq
  ·simp only;rw[aXN,aXR];simp only[go_sem]
 ·have e:P.length=v.length:=Om;have R:¬ (P.length:Int)<(v.length:Nat):=Om;have J:v.length<W.length:=Om;have U:(v.length:Int)<((v.length+1:Nat):Int):=Om;have hw:=hW _ (aXM J);have δ:=bW W J;have γ:=c8 (A:=A) (Z:=Z) (P:=P) e J;have l:=BI (A:=A) (Z:=Z) (P:=P) e J;have β:val (W.take (v.length+1))=val W:=by rw[aXY Om]
  generalize μ:W[v.length]=y at *
  have η:=eK i;rw[e] at p η;rw[aYS] at p;rw[β] at δ;have ec:IntKind.u32.wrap ((c:Nat):Int)=((c:Nat):Int):=by rw[cA,aYR Om]
  have ey:IntKind.u32.wrap ((y:Int)+(c:Int))=(((y+c)%4294967296:Nat):Int):=by rw[show (y:Int)+(c:Int)=((y+c:Nat):Int) by omega,cA]
  have hs:=l ((y+c)%4294967296);have ε:Lim (P++[(y+c)%4294967296]):=i.app fun z hz=>by simp at hz; subst hz; exact aYW _ (by decide)
  have ζ:=eK ε;rw[aXN,aXR,e] at ζ;have hD:dL (v.length+1) (val W+val v)=P++[(y+c)%4294967296]:=by
   refine aAD ε (by rw[aXN,aXR,e]) ?_;have:val W+val v=val (P++[(y+c)%4294967296])+4294967296 ^ (v.length+1)*((y+c)/4294967296):=by rw[gX,e,aZB,aYC,aZO,← aXS,Nat.mod_add_div,aXS];omega
   rw[this,Nat.add_mul_mod_self_left,aYR ζ]
  have θ:W.drop (v.length+1)=[]:=a0W Om;simp only[go_sem,R,QZ,e,U,γ,ec,ey,hs];refine bB (vs:=[]) (.inl rfl) (PH.nil.set o (.rows 1 (aF (A++(P++[(y+c)%4294967296]++W.drop (v.length+1))++Z)))) rfl (PH.aJ PH.nil_le Sq) ⟨rfl,?_⟩;rw[hD,θ,aZK]
def Uz (o n:Nat) (len:Nat):PF:=((PF.nil.set 0 (.osl o 1 0 len)).set 3 (.int .i64 n))
theorem QO {C:Ctx} (xs:List Nat) (hx:Lim xs) (hl:xs.length≤35184372087808) (o:Nat):nJ.wp C (aW sA.res (fun r H'=>r=.int .i64 (nl (val xs):Nat)∧H'=PH.nil.set o (.rows 1 (aF xs)))) (PF.args [.osl o 1 0 xs.length]) (PH.nil.set o (.rows 1 (aF xs))):=by
 simp only[go_sem,nJ,FK,FL,sA];refine wp_loop (α:=Nat) (fun n=>Uz o n xs.length) (fun _=>PH.nil.set o (.rows 1 (aF xs))) (fun n=>n≤xs.length∧∀ j x,n≤j→xs[j]?=some x→x=0) (fun n=>n) xs.length ⟨aXL _,fun j x h e=>by rw[aYT h] at e; cases e⟩ ?_ PH.le_refl ?_
 ·unfold Uz;exact Lq
 rintro n ⟨U,R⟩;have out:(∀ x,0<n→xs[n-1]?=some x→x≠0)→nl (val xs)=n:=fun h=>Rj hx U R h;simp only[go_sem,FJ,FN,Uz];by_cases p:(n:Int)>0
 ·have J:0<n:=Om;have hi:=bK xs (Om:n-1<xs.length);have hlt:((n-1:Nat):Int)<(xs.length:Nat):=Om;simp only[go_sem,p,tM (Om:n≤9223372036854775807) J,hi,hlt];by_cases l:xs[n-1]=0
  ·simp only[go_sem,bM (Om:((xs[n-1]:Nat):Int)=0),FO,tM (Om:n≤9223372036854775807) J];refine aM (n-1) ⟨by omega,fun j x hj i=>?_⟩ Om ?_ PH.le_refl
   ·rcases aXZ j n with h | h
    ·have:j=n-1:=Om;subst this;rw[aXT Om] at i;cases i; exact l
    ·exact R j x h i
   ·exact Lq
  ·simp only[go_sem,bF (Om:((xs[n-1]:Nat):Int)≠0),rE];refine bB (.inr rfl) _ rfl PH.le_refl ⟨?_,rfl⟩;rw[out fun x _ i=>by rw[aXT Om] at i; cases i; exact l];rfl
 ·simp only[go_sem,p,rE];refine bB (.inr rfl) _ rfl PH.le_refl ⟨?_,rfl⟩;rw[out fun x h=>by omega];rfl
end Go.PM
namespace Go.Na
structure Kn (V W top next Vr head u2 Wr p:Nat):Prop where
 hV:V=top*(4294967296*p)+next*p+Vr
 hW:W=head*(4294967296*p)+u2*p+Wr
 hVr:Vr<p
 hWr:Wr<p
 htop:2147483648≤top
 aWU:next<4294967296
 hu2:u2<4294967296
 hlt:W<V*4294967296
section
variable {V W top next Vr head u2 Wr p:Nat}
theorem Kn.low (K:Kn V W top next Vr head u2 Wr p):next*p+Vr<4294967296*p∧u2*p+Wr<4294967296*p:=by
 have i:(next+1)*p≤4294967296*p:=aYL _ K.aWU;have l:(u2+1)*p≤4294967296*p:=aYL _ K.hu2;rw[aYM,Nat.one_mul] at i l;have:=K.hVr;have:=K.hWr;omega
theorem Kn.we (K:Kn V W top next Vr head u2 Wr p):0<V∧4294967296*p≤V∧0<p:=by
 have:=K.hVr;have h:1*(4294967296*p)≤top*(4294967296*p):=aYL _ (by have:=K.htop; omega);have:=K.hV;omega
theorem Kn.aJX (K:Kn V W top next Vr head u2 Wr p):W/V<4294967296:=by
 rw[a0H K.we.1,aYI]; exact K.hlt
theorem Kn.g0 (K:Kn V W top next Vr head u2 Wr p):W/V≤head/top:=by
 have i:0<top:=by have:=K.htop; omega
 rw[Nat.le_div_iff_mul_le i];have l:W/V*V≤W:=Nat.div_mul_le_self W V;have J:W/V*(top*(4294967296*p))≤W/V*V:=aZR _ (by have:=K.hV; omega);have R:=K.low.2;have U:=K.hW;have h5:(W/V*top)*(4294967296*p)<(head+1)*(4294967296*p):=by rw[aYC,aYM,Nat.one_mul]; omega
 have:=Nat.lt_of_mul_lt_mul_right h5;omega
theorem Kn.g1 (K:Kn V W top next Vr head u2 Wr p) {g r:Nat} (J:g*top+r=head) (hq:W/V≤g) (h:g≥4294967296∨g*next>r*4294967296+u2):1≤g∧W/V≤g-1:=by
 have U:=K.aJX;have i:=Nat.div_mul_le_self W V;generalize W/V=Q at *
 rcases h with h | h
 ·omega
 ·have R:Q≠g:=by
   intro e;have h1:g*V≤W:=by rw[← e]; exact i
   have h2:g*V=g*top*(4294967296*p)+g*next*p+g*Vr:=by rw[K.hV,aXS,aXS,aYC,aYC]
   have l:(r*4294967296+u2+1)*p≤g*next*p:=aYL _ h
   rw[aYM,aYM,Nat.one_mul,aYC r] at l;have h4:g*top*(4294967296*p)+r*(4294967296*p)=head*(4294967296*p):=by rw[← aYM,J]
   have:=K.hW;have:=K.hWr;omega
  omega
theorem Kn.g2 (K:Kn V W top next Vr head u2 Wr p) {g r:Nat} (R:g*top+r=head) (U:g≤4294967296) (h:g*next≤r*4294967296+u2):g≤W/V+1:=by
 rcases aZX g with e | e
 ·rw[e]; exact aXU _
 have l:g*V=g*top*(4294967296*p)+g*next*p+g*Vr:=by rw[K.hV,aXS,aXS,aYC,aYC]
 have i:g*next*p≤(r*4294967296+u2)*p:=aYL _ h
 rw[aYM,aYC r] at i;have J:g*top*(4294967296*p)+r*(4294967296*p)=head*(4294967296*p):=by rw[← aYM,R]
 have h5:g*Vr≤4294967296*Vr:=aYL _ U;have h6:4294967296*(Vr+1)≤4294967296*p:=aZR _ K.hVr;have hV:=K.we;have hW:=K.hW;have h7:(g-1)*V≤W:=by
  have:g*V=(g-1)*V+V:=by obtain⟨k,rfl⟩:∃ k,g=k+1:=⟨g-1,by omega⟩;rw[aYM,Nat.one_mul]; rfl
  omega
 have:=(Nat.le_div_iff_mul_le hV.1).2 h7;generalize W/V=Q at *
 clear l i J h5 h7;omega
theorem Kn.g3 (K:Kn V W top next Vr head u2 Wr p) {g r:Nat} (U:g*top+r=head) (hl:g≤4294967296) (hr:4294967296≤r):g≤W/V+1:=by
 have i:=K.low.1;have hV:=K.we;have l:g*V=g*top*(4294967296*p)+g*(next*p+Vr):=by rw[K.hV,aZO,aXS,aYC]
 have J:g*(next*p+Vr)≤4294967296*(4294967296*p):=a0O hl Om;have R:g*top*(4294967296*p)+r*(4294967296*p)=head*(4294967296*p):=by rw[← aYM,U]
 have h5:4294967296*(4294967296*p)≤r*(4294967296*p):=aYL _ hr;have hW:=K.hW;have h7:g*V≤W:=Om;have:=(Nat.le_div_iff_mul_le hV.1).2 h7;generalize W/V=Q at *
 clear l J R h5 h7;omega
theorem Kn.g4 (K:Kn V W top next Vr head u2 Wr p):head/top≤4294967296+1:=by
 have i:=K.low.1;have hV:=K.we;have hW:=K.hW;have hlt:=K.hlt;have ht:=K.htop;have R:head<(top+1)*4294967296:=by
  have l:V<(top+1)*(4294967296*p):=by rw[K.hV,aYM,Nat.one_mul]; omega
  have U:V*4294967296≤(top+1)*(4294967296*p)*4294967296:=aYL _ (Nat.le_of_lt l);have J:head*(4294967296*p)<(top+1)*4294967296*(4294967296*p):=by
   have:(top+1)*(4294967296*p)*4294967296=(top+1)*4294967296*(4294967296*p):=by rw[aYC,aYI (4294967296*p) 4294967296,← aYC]
   omega
  exact Nat.lt_of_mul_lt_mul_right J
 have h5:head/top<4294967296+2:=by rw[a0H Om];omega
 omega
end
theorem sY:∀ (k n:Nat),dL (k+1) n=dL k n++[n/4294967296 ^ k%4294967296]
 | 0,n=>by simp[dL]
 | k+1,n=>by show (n%4294967296)::dL (k+1) (n/4294967296)=(n%4294967296)::dL k (n/4294967296)++[n/4294967296 ^ (k+1)%4294967296];rw[sY k (n/4294967296),Nat.div_div_eq_div_mul,aZB,aYI 4294967296];rfl
theorem sH {xs:List Nat} (h:Lim xs):∀ {k:Nat},k≤xs.length→val (xs.drop k)=val xs/4294967296 ^ k:=by
 intro k i;have e:val xs=val (xs.take k)+4294967296 ^ k*val (xs.drop k):=by
  conv=>lhs; rw[← a0E k xs,fK,aYA,aZQ i]
 have l:=eK (h.take k);rw[aYA,aZQ i] at l;rw[e,Nat.add_mul_div_left _ _ (a0A (by decide)),a0S l,aYD]
theorem RB {R s i l J X:Nat} (hs:s<32) (h:R/4294967296 ^ i=l+4294967296*(J+4294967296*X)):(R/2 ^ s)/4294967296 ^ i%4294967296=(4294967296*J+l)/2 ^ s%4294967296:=by
 rw[Nat.div_div_eq_div_mul,aYI (2 ^ s),← Nat.div_div_eq_div_mul,h];have U:4294967296*4294967296=2 ^ s*(2 ^ (32-s)*4294967296):=by rw[← aYC,← Nat.pow_add,show s+(32-s)=32 by omega]
 have e:l+4294967296*(J+4294967296*X)=(4294967296*J+l)+2 ^ s*(2 ^ (32-s)*X*4294967296):=by
  have:4294967296*(4294967296*X)=2 ^ s*(2 ^ (32-s)*X*4294967296):=by rw[← aYC,U,aYC,aYC,aYC,aYI 4294967296 X]
  rw[aXS,this]; omega
 rw[e,Nat.add_mul_div_left _ _ (a0A (by decide)),Nat.add_mul_mod_self_right]
end Go.Na
namespace Go.PM
open Go Go.Na
theorem aEB {A W Z:List Nat} {i:Nat} (hi:i<W.length):(aF (A++W++Z))[A.length+i]?=some [.int .u32 ((W[i]:Nat):Int)]:=by
 have l:A.length+i<(A++W++Z).length:=by simp; omega
 rw[bK _ l];congr 4;rw[List.getElem_append_left (by simp; omega),a1A Om];congr 1;omega
def dF (u v:PV) (n:Nat) (q:PV) (top next j s:Nat):PF:=((((((((PF.nil.set 8 (.int .u64 s)).set 9 (u)).set 10 (v)).set 11 (.int .i64 n)).set 12 (q)).set 13 (.int .u64 top)).set 14 (.int .u64 next)).set 15 (.int .i64 j))
def dG (u v:PV) (n:Nat) (q:PV) (top next j s g r:Nat):PF:=((((((((((PF.nil.set 8 (.int .u64 s)).set 9 (u)).set 10 (v)).set 11 (.int .i64 n)).set 12 (q)).set 13 (.int .u64 top)).set 14 (.int .u64 next)).set 15 (.int .i64 j)).set 17 (.int .u64 g)).set 18 (.int .u64 r))
theorem um {C:Ctx} {V Wv top next Vr head l Wr p:Nat} (J:Kn V Wv top next Vr head l Wr p) (htop:top<4294967296) (o R m j s:Nat) (v q:PV) (τ:j+m+2<R) (υ:R≤100000) (U:List Nat) (hU:(aF U)[j+m]?=some [.int .u32 (l:Nat)]) (K:bT) (F:PF) (H:PH)
  (hF:(dG (.osl o 1 0 R) v (m+2) q top next j s (head/top) (head%top)).le F) (hH:H o=some (.rows 1 (aF U)))
  (hK:∀ g r F',Wv/V≤g→g≤Wv/V+1→g≤4294967296→(dG (.osl o 1 0 R) v (m+2) q top next j s g r).le F'→K .normal F' H) :
  aA.wp C (.block 4 (.loop sN)) K F H:=by
 have ν:0<top:=by have:=J.htop; omega
 have hn:=J.aWU;have hu2:=J.hu2;simp only[go_sem];refine wp_loop (α:=Nat × Nat) (fun t=>dG (.osl o 1 0 R) v (m+2) q top next j s t.1 t.2) (fun _=>H) (fun t=>t.1*top+t.2=head∧Wv/V≤t.1∧t.1≤4294967296+1∧t.2<4294967296) (fun t=>t.1) (head/top,head%top)
  ⟨by simp only; rw[aYI]; exact a0R head top,J.g0,J.g4,Nat.lt_trans (aYW _ ν) htop⟩ hF PH.le_refl ?_
 rintro⟨g,r⟩ ⟨hg,hq,μ,hr⟩;simp only at hg hq μ hr;have e1:IntKind.i64.wrap ((j:Int)+((m+2:Nat):Int))=((j+(m+2):Nat):Int):=fN Om;have e2:IntKind.i64.wrap (((j+(m+2):Nat):Int)-2)=((j+m:Nat):Int):=by rw[wrap_i64 Om Om]; omega
 have hlt:((j+m:Nat):Int)<(R:Nat):=Om;have θ:IntKind.u64.wrap ((l:Nat):Int)=((l:Nat):Int):=bA Om;have ε:shift .shl .u64 (r:Int) 32=some (.int .u64 ((2 ^ 32*r:Nat):Int)):=GF (s:=32) Om Om;have η:(2:Nat) ^ 32=4294967296:=by decide
 have δ:=orI (a:=2 ^ 32*r) (b:=l) (n:=2 ^ 32*r+l) Om Om (Nat.two_pow_add_eq_or_of_lt Om r).symm Om;rw[η] at ε δ;have more:(g≥4294967296∨g*next>r*4294967296+l)→∀ F':PF,(dG (.osl o 1 0 R) v (m+2) q top next j s g r).le F'→aA.wp C (.block 5 (.seq (.region zH) (.seq (.region zI) (.seq (.region zJ) (.cond (.tmp 136) (.exit 4) .skip)))))
   (jD (fun t:Nat × Nat=>dG (.osl o 1 0 R) v (m+2) q top next j s t.1 t.2) (fun _=>H) (fun t=>t.1*top+t.2=head∧Wv/V≤t.1∧t.1≤4294967296+1∧t.2<4294967296) (fun t=>t.1) g (fG 4 K)) F' H:=by
  intro hc F' i;obtain⟨g1,g2⟩:=J.g1 hg hq hc;have f8:=i 8 _ (by unfold dG; simp only[go_sem]; rfl);have f9:=i 9 _ (by unfold dG; simp only[go_sem]; rfl);have ξ:=i 10 _ (by unfold dG; simp only[go_sem]; rfl);have f11:=i 11 _ (by unfold dG; simp only[go_sem]; rfl);have ο:=i 12 _ (by unfold dG; simp only[go_sem]; rfl);have f13:=i 13 _ (by unfold dG; simp only[go_sem]; rfl);have f14:=i 14 _ (by unfold dG; simp only[go_sem]; rfl);have ρ:=i 15 _ (by unfold dG; simp only[go_sem]; rfl);have ι:=i 17 _ (by unfold dG; simp only[go_sem]; rfl);have κ:=i 18 _ (by unfold dG; simp only[go_sem]; rfl);have w1:IntKind.u64.wrap ((g:Int)-1)=((g-1:Nat):Int):=by rw[wrap_u64 Om Om]; omega
  have w2:IntKind.u64.wrap ((r:Int)+(top:Int))=((r+top:Nat):Int):=eM Om;have ζ:(g-1)*top+(r+top)=head:=by obtain⟨k,rfl⟩:∃ k,g=k+1:=⟨g-1,by omega⟩;rw[aYM,Nat.one_mul] at hg;simp only[Nat.add_sub_cancel];omega
  simp only[go_sem,zH,zI,zJ,ι,κ,f13,w1,w2];by_cases c:r+top≥4294967296
  ·have c':((r+top:Nat):Int)≥4294967296:=Om;simp only[go_sem,c'];refine hK (g-1) (r+top) _ g2 (J.g3 ζ Om c) Om ?_;unfold dG;exact Lq
  ·have c':¬ ((r+top:Nat):Int)≥4294967296:=Om;simp only[go_sem,c'];refine aM (g-1,r+top) ⟨ζ,g2,by simp only; omega,by simp only; omega⟩ (by simp only; omega) ?_ PH.le_refl;unfold dG;exact Lq
 simp only[go_sem,sN,QH,dG];by_cases c1:g≥4294967296
 ·have β:(g:Int)≥4294967296:=Om;simp only[go_sem,β];have:=more (.inl c1);simp only[go_sem,dG] at this;refine this _ ?_;exact Lq
 ·have β:¬ (g:Int)≥4294967296:=Om;have σ:g*next≤4294967295*4294967295:=a0O Om Om
  have em:IntKind.u64.wrap ((g:Int)*(next:Int))=((g*next:Nat):Int):=by rw[show (g:Int)*(next:Int)=((g*next:Nat):Int) by simp];exact bA Om
  simp only[go_sem,β,em,ε,e1,e2,hlt,hH,hU,θ,δ];by_cases c2:g*next>r*4294967296+l
  ·have γ:((g*next:Nat):Int)>((4294967296*r+l:Nat):Int):=Om;simp only[go_sem,γ];have:=more (.inr c2);simp only[go_sem,dG] at this;refine this _ ?_;exact Lq
  ·have γ:¬ ((g*next:Nat):Int)>((4294967296*r+l:Nat):Int):=Om;simp only[go_sem,γ];refine hK g r _ hq (J.g2 hg Om Om) Om ?_;unfold dG;exact Lq
end Go.PM
namespace Go.Na
theorem aNQ {W v:List Nat} {m:Nat} (hW:Lim W) (i:Lim v) (α:v.length=m+2) (U:W.length=m+3) (ht:2147483648≤v[m+1]) (hlt:val W<val v*4294967296) :
  Kn (val v) (val W) (v[m+1]) (v[m]) (val (v.take m)) (W[m+2]*4294967296+W[m+1]) (W[m]) (val (W.take m)) (4294967296 ^ m):=by
 have J:val v=val (v.take m)+4294967296 ^ m*(v[m]+4294967296*v[m+1]):=by
  rw[qG v (Om:m<v.length)];congr 4;have:v.drop (m+1)=[v[m+1]]:=by rw[aZG Om,a0W Om]
  rw[this]; simp[val]
 have R:val W=val (W.take m)+4294967296 ^ m*(W[m]+4294967296*(W[m+1]+4294967296*W[m+2])):=by
  rw[qG W (Om:m<W.length)];congr 4;have:W.drop (m+1)=[W[m+1],W[m+2]]:=by rw[aZG Om,aZG Om,a0W Om]
  rw[this]; simp[val]
 have l:=eK (i.take m);have p:=eK (hW.take m);rw[aYA,aZQ Om] at l p;refine⟨?_,?_,l,p,ht,i _ (aXM _),hW _ (aXM _),hlt⟩
 ·rw[J,aXS,aYI (4294967296 ^ m) (v[m]),← aYC (4294967296 ^ m),aYI (4294967296 ^ m*4294967296),aYI (4294967296 ^ m) 4294967296];omega
 ·rw[R,aXS,aYI (4294967296 ^ m) (W[m]),← aYC (4294967296 ^ m),aYI (4294967296 ^ m*4294967296),aYI (4294967296 ^ m) 4294967296,aYI (W[m+2]),Nat.add_comm (4294967296*W[m+2])];omega
end Go.Na
namespace Go.PM
open Go Go.Na
structure VX (C:Ctx):Prop where
 subtract:∀ (A W Z v:List Nat) (f o:Nat),Lim W→Lim v→W.length=v.length+1→A.length+v.length≤100000→f≤4294967296→val v*f≤val W+4294967296 ^ (v.length+1) →
  aH C 142 [.osl o 1 A.length (v.length+1),aG v,.int .u64 f] (PH.nil.set o (.rows 1 (aF (A++W++Z)))) (fun r H'=>r=.bool (decide (val W<val v*f))∧H'=PH.nil.set o (.rows 1 (aF (A++dL (v.length+1) (GH (v.length+1) (val W) (val v*f))++Z))))
 restore:∀ (A W Z v:List Nat) (o:Nat),Lim W→Lim v→W.length=v.length+1→A.length+v.length≤100000 →
  aH C 139 [.osl o 1 A.length (v.length+1),aG v] (PH.nil.set o (.rows 1 (aF (A++W++Z)))) (fun r H'=>r=.tup []∧H'=PH.nil.set o (.rows 1 (aF (A++dL (v.length+1) (val W+val v)++Z))))
theorem yc (k n:Nat):dL k (n%4294967296 ^ k)=dL k n :=
 O0 (lG _ _) (lG _ _) (by rw[kD,kD]) (by rw[wX,wX,Nat.mod_mod])
theorem uk {C:Ctx} (D:VX C) (A W Z v Q:List Nat) (m o oq lu s:Nat) (κ:oq≠o) (hW:Lim W) (hv:Lim v) (ω:v.length=m+2) (ψ:W.length=m+3) (ht:2147483648≤v[m+1]) (hlt:val W<val v*4294967296)
  (x':lu=A.length+(m+3)+Z.length) (s':lu≤10000) (i':A.length<Q.length) (K:bT) (F:PF) (H:PH) (hF:(dF (.osl o 1 0 lu) (aG v) (m+2) (.osl oq 1 0 Q.length) (v[m+1]) (v[m]) A.length s).le F)
  (hH:H o=some (.rows 1 (aF (A++W++Z)))) (υ:H oq=some (.rows 1 (aF Q)))
  (hK:∀ F' H',(dF (.osl o 1 0 lu) (aG v) (m+2) (.osl oq 1 0 Q.length) (v[m+1]) (v[m]) A.length s).le F'→H' o=some (.rows 1 (aF (A++dL (m+3) (val W%val v)++Z)))→H' oq=some (.rows 1 (aF (Q.set A.length (val W/val v))))→K .normal F' H') :
  aA.wp C (.block 3 (.seq (.draw zF) (.seq (.draw zG) (.seq (.block 4 (.loop sN)) (.seq (.seq (.region zK) (.cond (.tmp 146) (.seq (.region zL) (.region zM)) .skip)) (.region sO)))))) K F H:=by
 have Kk:=aNQ hW hv ω ψ ht hlt;have R:∀ i (h:i<W.length),(aF (A++W++Z))[A.length+i]?=some [.int .u32 ((W[i]:Nat):Int)]:=fun i h=>aEB h;have g0:=R (m+2) Om;have g1:=R (m+1) Om;have g2:=R m Om;have hq:=Kk.aJX;have htop:v[m+1]<4294967296:=hv _ (aXM _);have B':=hW _ (aXM (Om:m+2<W.length));have C':=hW _ (aXM (Om:m+1<W.length));have ι:=Kk.we.1;generalize A':v[m+1]=top at *
 generalize y':v[m]=next at *
 generalize D':W[m+2]=u0 at *
 generalize E':W[m+1]=u1 at *
 generalize G':W[m]=u2 at *
 have f8:=hF 8 _ (by unfold dF; simp only[go_sem]; rfl);have f9:=hF 9 _ (by unfold dF; simp only[go_sem]; rfl);have c':=hF 10 _ (by unfold dF; simp only[go_sem]; rfl);have f11:=hF 11 _ (by unfold dF; simp only[go_sem]; rfl);have d':=hF 12 _ (by unfold dF; simp only[go_sem]; rfl);have f13:=hF 13 _ (by unfold dF; simp only[go_sem]; rfl);have f14:=hF 14 _ (by unfold dF; simp only[go_sem]; rfl);have ο:=hF 15 _ (by unfold dF; simp only[go_sem]; rfl);have e1:IntKind.i64.wrap ((A.length:Int)+((m+2:Nat):Int))=((A.length+(m+2):Nat):Int):=fN Om;have e2:IntKind.i64.wrap (((A.length+(m+2):Nat):Int)-1)=((A.length+(m+1):Nat):Int):=by rw[wrap_i64 Om Om]; omega
 have c0:((A.length+(m+2):Nat):Int)<(lu:Nat):=Om;have c1:((A.length+(m+1):Nat):Int)<(lu:Nat):=Om;have a':IntKind.u64.wrap ((u0:Nat):Int)=((u0:Nat):Int):=bA Om;have b':IntKind.u64.wrap ((u1:Nat):Int)=((u1:Nat):Int):=bA Om;have ξ:shift .shl .u64 (u0:Int) 32=some (.int .u64 ((2 ^ 32*u0:Nat):Int)):=GF (s:=32) Om Om;have Ω:(2:Nat) ^ 32=4294967296:=by decide
 have η:=orI (a:=2 ^ 32*u0) (b:=u1) (n:=2 ^ 32*u0+u1) Om Om (Nat.two_pow_add_eq_or_of_lt Om u0).symm Om;rw[Ω] at ξ η;have f':4294967296*u0+u1=u0*4294967296+u1:=Om;rw[f'] at η;simp only[go_sem];refine cJ H eU PH.le_refl ?_;simp only[go_sem,zF,f9,ο,f11,e1,e2,c0,c1,hH,g0,g1,a',b',ξ,η];refine cJ H eU PH.le_refl ?_;have z':0<top:=Om;have m':¬ ((top:Nat):Int)=0:=Om;generalize w':u0*4294967296+u1=head at *
 have μ:IntKind.u64.wrap (Int.tdiv ((head:Nat):Int) ((top:Nat):Int))=((head/top:Nat):Int):=by rw[show Int.tdiv ((head:Nat):Int) ((top:Nat):Int)=((head/top:Nat):Int) from rfl];exact bA (by have:=Kk.g4; omega)
 have ν:Int.tmod ((head:Nat):Int) ((top:Nat):Int)=((head%top:Nat):Int):=rfl;simp only[go_sem,zG,f13,m',μ,ν];have J:=um (C:=C) Kk htop o lu m A.length s (aG v) (.osl oq 1 0 Q.length) Om Om (A++W++Z) g2;simp only[go_sem] at J;refine J _ _ H ?_ hH ?_
 ·unfold dG;refine PF.aJ (PF.aJ (PF.aJ (PF.aJ (PF.aJ (PF.aJ (PF.aJ (PF.aJ (PF.aJ (PF.aJ PF.nil_le ?_) ?_) ?_) ?_) ?_) ?_) ?_) ?_) ?_) ?_<;>simp only[go_sem,f8,f9,c',f11,d',f13,f14,ο]
 clear J;intro g r F' q1 q2 q3 l;have h8:=l 8 _ (by unfold dG; simp only[go_sem]; rfl);have h9:=l 9 _ (by unfold dG; simp only[go_sem]; rfl);have β:=l 10 _ (by unfold dG; simp only[go_sem]; rfl);have γ:=l 11 _ (by unfold dG; simp only[go_sem]; rfl);have ρ:=l 12 _ (by unfold dG; simp only[go_sem]; rfl);have σ:=l 13 _ (by unfold dG; simp only[go_sem]; rfl);have τ:=l 14 _ (by unfold dG; simp only[go_sem]; rfl);have δ:=l 15 _ (by unfold dG; simp only[go_sem]; rfl);have θ:=l 17 _ (by unfold dG; simp only[go_sem]; rfl);have e3:IntKind.i64.wrap (((A.length+(m+2):Nat):Int)+1)=((A.length+(m+3):Nat):Int):=by rw[wrap_i64 Om Om]; omega
 have c3:(A.length:Int)≤((A.length+(m+3):Nat):Int):=Om;have c4:((A.length+(m+3):Nat):Int)≤(lu:Nat):=Om;have e4:A.length+(m+3)-A.length=v.length+1:=Om;have α:v.length+1=m+3:=Om;have v':val v*(val W/val v)+val W%val v=val W:=a0R _ _;have φ:=eK hW;rw[ψ] at φ;have Ψ:val W%val v<val v:=aYW _ ι;have Λ:=eK hv;rw[ω] at Λ;have Δ:4294967296 ^ (m+3)=4294967296 ^ (m+2)*4294967296:=aZB _ _;generalize t':val W/val v=qd at *
 generalize u':val W%val v=rd at *
 have ζ:∀ (U:PF) (H2:PH),U 8=some (.int .u64 s)→U 9=some (.osl o 1 0 lu)→U 10=some (aG v)→U 11=some (.int .i64 ((m+2:Nat):Int))→U 12=some (.osl oq 1 0 Q.length)→U 13=some (.int .u64 top)→U 14=some (.int .u64 next)→U 15=some (.int .i64 A.length)→U 17=some (.int .u64 qd) →
   H2 o=some (.rows 1 (aF (A++dL (m+3) rd++Z)))→H2 oq=some (.rows 1 (aF Q))→aA.wp C (.region sO) (fG 3 K) U H2:=by
  intro U H2 k8 k9 n' o' Ξ p' q' Φ r' kH kQ;have l':(aF Q)[A.length]?=some [.int .u32 ((Q[A.length]:Nat):Int)]:=bK Q i';have k':(A.length:Int)<(Q.length:Nat):=Om;have eq:IntKind.u32.wrap ((qd:Nat):Int)=((qd:Nat):Int):=by rw[cA,aYR hq]
  have Θ:=eZ Q A.length qd;have Γ:¬ o=oq:=fun h=>κ h.symm;simp only[go_sem,sO,Ξ,Φ,r',eq,k',kQ,l',Θ];refine hK _ _ ?_ (by simp only[go_sem,Γ,kH]) Sq;unfold dF;refine PF.aJ (PF.aJ (PF.aJ (PF.aJ (PF.aJ (PF.aJ (PF.aJ (PF.aJ PF.nil_le ?_) ?_) ?_) ?_) ?_) ?_) ?_) ?_<;>simp only[go_sem,k8,k9,n',o',Ξ,p',q',Φ]
 have j':(PH.nil.set o (.rows 1 (aF (A++W++Z)))).le H:=PH.aJ PH.nil_le hH;have χ:val v*g≤val W+4294967296 ^ (v.length+1):=by have:val v*g≤val v*(qd+1):=aZR _ q2;rw[aXS,Nat.mul_one] at this;rw[α,Δ]; omega
 simp only[go_sem,zK,h9,δ,γ,e1,e3,c3,c4,e4,β,θ];refine lF (D.subtract A W Z v g o hW hv Om Om q3 χ) rfl j' ?_;rintro rr H' ⟨rfl,rfl⟩ -;rw[PH.rG];by_cases h':g=qd
 ·subst h';have p:¬ val W<val v*g:=Om;have hN:GH (v.length+1) (val W) (val v*g)=rd:=by unfold GH; rw[if_neg p]; omega
  rw[hN,α];simp only[go_sem,p];have:=ζ;simp only[go_sem] at this;refine this _ _ ?_ ?_ ?_ ?_ ?_ ?_ ?_ ?_ ?_ ?_ ?_<;>simp only[go_sem,h8,h9,β,γ,ρ,σ,τ,δ,θ,κ,υ]
 ·have g':g=qd+1:=Om;subst g';rw[aXS,Nat.mul_one];have p:val W<val v*qd+val v:=Om;have hN:GH (v.length+1) (val W) (val v*qd+val v)=rd+4294967296 ^ (m+3)-val v:=by unfold GH; rw[if_pos p,α]; omega
  rw[hN];have w1:IntKind.u64.wrap (((qd+1:Nat):Int)-1)=((qd:Nat):Int):=by rw[wrap_u64 Om Om]; omega
  simp only[go_sem,p,zL,θ,w1,zM,h9,δ,γ,e1,e3,c3,c4,e4,β];have e':val (dL (v.length+1) (rd+4294967296 ^ (m+3)-val v))=rd+4294967296 ^ (m+3)-val v:=mP (by rw[α]; omega);refine lF (D.restore A (dL (v.length+1) (rd+4294967296 ^ (m+3)-val v)) Z v o (lG _ _) hv (kD _ _) Om) rfl (PH.aJ PH.nil_le Sq) ?_;rintro rr H' ⟨rfl,rfl⟩ -;rw[PH.rG,PH.set_set,e'];have ε:dL (v.length+1) (rd+4294967296 ^ (m+3)-val v+val v)=dL (m+3) rd:=by rw[α,← yc (m+3) (rd+4294967296 ^ (m+3)-val v+val v)];rw[show rd+4294967296 ^ (m+3)-val v+val v=rd+4294967296 ^ (m+3) by omega,Nat.add_mod_right,yc]
  rw[ε];simp only[go_sem];have:=ζ;simp only[go_sem] at this;refine this _ _ ?_ ?_ ?_ ?_ ?_ ?_ ?_ ?_ ?_ ?_ ?_<;>simp only[go_sem,h8,h9,β,γ,ρ,σ,τ,δ,κ,υ]
open Go
section
variable {C:Ctx} {K:bT} {F:PF} {H Hs:PH} {S:Spec}
theorem Mm {name:Nat} {vs:List PV} {R:PV→PH→Prop} {args:List aO} {st:Bool} {d:Option Nat} {K:PF→PH→Prop} (U:S name vs=some ([],fun _=>R)) (h:aH C name vs .nil R) (i:aO.evs F args=some vs)
  (l:∀ G:PH,∃ r H',R r H'∧kS G .nil H') (hk:∀ r H',R r H'→kS H .nil H'→Hs.le (H.over .nil H')∧K (F.put d r) (H.over .nil H')):dOp C Hs S st (.call name args) d K F H:=by
 refine⟨vs,[],fun _=>R,i,U,fun o ho=>by simp at ho,by rw[FS]; exact h,fun G=>?_,fun r H' hr i=>?_⟩
 ·obtain⟨r,H',p,J⟩:=l G;exact⟨r,H',p,fun o x hx hn=>J o x hx (by simp[PH.nil])⟩
 ·rw[FS] at i ⊢;exact hk r H' hr i
theorem PH.over_self (i:PH) (h:i.le H):H.over i i=H:=PH.ext fun q=>by
 rw[fW];cases e:i q with
 | none=>rfl
 | some x=>exact (h q x e).symm
theorem UX {o:Nat} {x:bX} (h:H o=some x):H.only [o]=PH.nil.set o x:=PH.ext fun q=>by
 rw[qD,aQ];by_cases e:q=o
 ·subst e; simp[h]
 ·simp[e,OO]
theorem SH {name o:Nat} {x:bX} {vs:List PV} {v:PV} {R:PH→PV→PH→Prop} {args:List aO} {st:Bool} {d:Option Nat} {K:PF→PH→Prop} (hS:S name vs=some ([o],R)) (ho:H o=some x)
  (h:aH C name vs (PH.nil.set o x) (fun r H'=>r=v∧H'=PH.nil.set o x)) (i:R (PH.nil.set o x) v (PH.nil.set o x)) (p:∀ r H',R (PH.nil.set o x) r H'→r=v∧H'=PH.nil.set o x) (ha:aO.evs F args=some vs) (J:Hs.le H) (hk:K (F.put d v) H) :
  dOp C Hs S st (.call name args) d K F H:=by
 have e:=UX ho;refine⟨vs,[o],_,ha,hS,fun q hq=>?_,?_,fun G=>⟨v,_,by rw[e]; exact i,fun q y hy U=>?_⟩,fun r H' l _=>?_⟩
 ·simp at hq; subst hq; exact⟨x,ho⟩
 ·rw[e];exact h.post fun r H' l=>⟨r,.refl _,by rw[l.1,l.2]; exact i⟩
 ·rw[e] at U; rw[hy] at U; cases U
 ·rw[e] at l;obtain⟨rfl,rfl⟩:=p r H' l;rw[e,PH.over_self _ (by rw[← e]; exact OZ H [o])];exact⟨J,hk⟩
theorem Lf {c:aA} {α:Type} (i:α→PF) (Hs:α→PH) (l:α→Prop) (m:α→Nat) (p:α) (o:Nat) {s:Nat} {rs:List (List PV)} (ho:H o=some (.rows s rs)) (J:l p) (R:(i p).le (F.frz o s rs)) (U:(Hs p).le (H.frz o s rs))
  (hb:∀ a,l a→c.wp C (jD i Hs l m (m a) K) (i a) (Hs a)):aA.wp C (.loop c) K F H :=
 ⟨α,i,Hs,l,m,p,_,_,.step o ho (.refl _ _),J,R,U,hb⟩
@[go_sem] theorem vJ (o s:Nat) (rs:List (List PV)) (q:Nat):(H.frz o s rs) q=if q=o then none else (H q).map (bX.frz o s rs):=(rfl)
theorem aeI {t u o1 o2 s1 s2 k1 k2:Nat} {rs1 rs2:List (List PV)} {R:PV→PH→Prop} {e:kL} (he:e=.normal∨e=.ret) (l:o1≠o2) (h1:F t=some (.osl o1 s1 0 k1)) (h2:F u=some (.osl o2 s2 0 k2)) (p:H o1=some (.rows s1 rs1)) (J:H o2=some (.rows s2 rs2))
  (α:k1≤rs1.length) (β:k2≤rs2.length) (U:rs2.map (fun r=>r.map (PV.cN o1 s1 rs1))=rs2) (γ:(rs1.take k1)=rs1.take k1) (hR:R (.tup [.sl s1 (rs1.take k1),.sl s2 (rs2.take k2)]) .nil):aW [.tmp t,.tmp u] R e F H:=by
 have key:∃ vs,dN.evs F H [.tmp t,.tmp u]=some vs∧∃ F1 H1 H2,gT (PF.nil.set 0 (dB vs)) H F1 H1∧H2.le H1∧∃ w,F1 0=some w∧R w H2:=by
  have i:o2≠o1:=fun h=>l h.symm;have e2:(H.frz o1 s1 rs1) o2=some (.rows s2 rs2):=by rw[vJ,if_neg i,J]; simp only[aYX,bX.frz,U]
  refine⟨[.osl o1 s1 0 k1,.osl o2 s2 0 k2],by rw[jI,lP,h1,jI,lP,h2,mN],_,_,.nil,.step o1 p (.step o2 e2 (.refl _ _)),PH.nil_le,_,?_,hR⟩;have a1:0+k1≤rs1.length:=Om;have a2:0+k2≤rs2.length:=Om;simp only[PF.frz,jM,if_true,dB,aYX,PV.frz,PV.qV,PV.cN,aYU,aZN,true_and,if_pos a1,if_pos a2,aYO,if_neg i]
 rcases he with rfl | rfl<;>exact key
end
end Go.PM
namespace Go.Na
structure nA (U0 V n lu lq:Nat) (k:Nat) (U Q:List Nat):Prop where
 lu':U.length=lu
 lq':Q.length=lq
 limU:Lim U
 limQ:Lim Q
 v:val U+val Q*V=U0
 r:val (U.drop k)<V
 z:∀ i x,i<k→Q[i]?=some x→x=0
theorem yd {U0 V n lu lq j:Nat} {U Q:List Nat} (h:nA U0 V n lu lq (j+1) U Q) (hV:V<4294967296 ^ n) (hj:j<lq) (hl:lu=lq+n) :
  val ((U.drop j).take (n+1))<V*4294967296∧nA U0 V n lu lq j (U.take j++dL (n+1) (val ((U.drop j).take (n+1))%V)++U.drop (j+(n+1))) (Q.set j (val ((U.drop j).take (n+1))/V)):=by
 have κ:=h.lu';have ε:=h.lq';have l:0<V:=by have:=h.r; omega
 have J:j<U.length:=Om;have e1:val (U.drop j)=U[j]+4294967296*val (U.drop (j+1)):=by rw[aZG J]; rfl
 have θ:=h.limU _ (aXM J);have hlt:val (U.drop j)<V*4294967296:=by have:=h.r; omega
 have δ:((U.drop j).take (n+1)).length=n+1:=by rw[aYA,aZI]; omega
 have e2:val (U.drop j)=val ((U.drop j).take (n+1))+4294967296 ^ (n+1)*val (U.drop (j+(n+1))):=by
  conv=>lhs; rw[← a0E (n+1) (U.drop j),fK,δ,List.drop_drop]
 have η:4294967296 ^ (n+1)=4294967296 ^ n*4294967296:=aZB _ _;have ι:V*4294967296≤4294967296 ^ n*4294967296:=aYL _ (Nat.le_of_lt hV);have hZ:val (U.drop (j+(n+1)))=0:=by
  rcases aZX (val (U.drop (j+(n+1)))) with h0 | h0
  ·exact h0
  ·have:=aZR (4294967296 ^ (n+1)) h0;omega
 rw[hZ,Nat.mul_zero,aZP] at e2;generalize hW:val ((U.drop j).take (n+1))=W at *
 have e3:val U=val (U.take j)+4294967296 ^ j*W:=by
  conv=>lhs; rw[← a0E j U,fK,aYA,aZQ Om,e2]
 have α:W%V<V:=aYW _ l;have γ:V*(W/V)+W%V=W:=a0R _ _;have ζ:W/V<4294967296:=by rw[a0H l,aYI]; omega
 have hD:val (dL (n+1) (W%V))=W%V:=mP Om;have β:Q[j]=0:=h.z j _ Om (aXT Om);have p:=BL (Om:j<Q.length) (W/V);rw[β,Nat.mul_zero,aZP] at p;have R:(U.take j).length=j:=by rw[aYA]; omega
 refine⟨by omega,?_,?_,?_,?_,?_,?_,?_⟩
 ·simp only[aXN,kD,aZI,aYA]; omega
 ·rw[aZM]; exact ε
 ·exact ((h.limU.take j).app (lG _ _)).app (h.limU.drop _)
 ·exact h.limQ.set _ ζ
 ·rw[aYQ,fK,fK,R,hD,kD,hZ,Nat.mul_zero,aZP,p];have:=h.v;have h5:(val Q+4294967296 ^ j*(W/V))*V=val Q*V+4294967296 ^ j*(V*(W/V)):=by rw[aYM,aYC,aYI (W/V) V]
  have h6:4294967296 ^ j*W=4294967296 ^ j*(V*(W/V))+4294967296 ^ j*(W%V):=by rw[← aXS,γ]
  omega
 ·rw[aYQ,List.drop_append_of_le_length Om,a0W Om,List.nil_append,fK,hD,hZ,Nat.mul_zero,aZP];exact α
 ·intro i x hi hx;rw[List.getElem?_set_ne Om] at hx;exact h.z i x Om hx
end Go.Na
namespace Go.PM
open Go Go.Na
def dI (u v:PV) (n:Nat) (q:PV) (top next s:Nat) (j:Int):PF:=((((((((PF.nil.set 8 (.int .u64 s)).set 9 (u)).set 10 (v)).set 11 (.int .i64 n)).set 12 (q)).set 13 (.int .u64 top)).set 14 (.int .u64 next)).set 15 (.int .i64 j))
theorem qA (o s:Nat) (rs:List (List PV)) (L:List Nat):(aF L).map (fun r=>r.map (PV.cN o s rs))=aF L:=by
 unfold aF;rw[List.map_map];rfl
theorem Et {C:Ctx} (D:VX C) (U0 m lu J o o2 R s:Nat) (v i:List Nat) (h2:o2≠o) (h3:R≠o) (h4:R≠o2) (hv:Lim v) (η:v.length=m+2) (d':(aF i).take (m+2)=aF v) (e':m+2≤i.length) (ht:2147483648≤v[m+1])
  (c':lu=J+(m+2)) (θ:lu≤10000) (U:List Nat) (hI:nA U0 (val v) (m+2) lu J J U (aXK J 0)) (K:bT) (F:PF) (H:PH)
  (hF:(dI (.osl o 1 0 lu) (.osl o2 1 0 (m+2)) (m+2) (.osl R 1 0 J) (v[m+1]) (v[m]) s ((J:Int)-1)).le F) (hH:H o=some (.rows 1 (aF U))) (ω:H o2=some (.rows 1 (aF i))) (ψ:H R=some (.rows 1 (aF (aXK J 0))))
  (hK:∀ U' Q' F',nA U0 (val v) (m+2) lu J 0 U' Q'→(dI (.osl o 1 0 lu) (aG v) (m+2) (.osl R 1 0 J) (v[m+1]) (v[m]) s (-1)).le F'→K .normal F' ((PH.nil.set o (.rows 1 (aF U'))).set R (.rows 1 (aF Q')))) :
  aA.wp C (.block 2 (.loop zD)) K F H:=by
 have f8:=hF 8 _ (by unfold dI; simp only[go_sem]; rfl);have f9:=hF 9 _ (by unfold dI; simp only[go_sem]; rfl);have μ:=hF 10 _ (by unfold dI; simp only[go_sem]; rfl);have f11:=hF 11 _ (by unfold dI; simp only[go_sem]; rfl);have ν:=hF 12 _ (by unfold dI; simp only[go_sem]; rfl);have f13:=hF 13 _ (by unfold dI; simp only[go_sem]; rfl);have f14:=hF 14 _ (by unfold dI; simp only[go_sem]; rfl);have ξ:=hF 15 _ (by unfold dI; simp only[go_sem]; rfl);have γ:¬ o=o2:=fun h=>h2 h.symm;have δ:¬ R=o2:=h4;have ι:¬ o=R:=fun h=>h3 h.symm;have Φ:∀ (k:IntKind) (n:Int),PV.frz o2 1 (aF i) (.int k n)=.int k n:=fun _ _=>rfl;have Ω:∀ l,PV.frz o2 1 (aF i) (.osl o 1 0 l)=.osl o 1 0 l:=fun l=>by simp only[PV.frz,PV.qV,PV.cN,if_neg γ]
 have Ψ:∀ l,PV.frz o2 1 (aF i) (.osl R 1 0 l)=.osl R 1 0 l:=fun l=>by simp only[PV.frz,PV.qV,PV.cN,if_neg δ]
 have a':PV.frz o2 1 (aF i) (.osl o2 1 0 (m+2))=aG v:=by
  have:0+(m+2)≤(aF i).length:=by rw[bR]; omega
  simp only[PV.frz,PV.qV,PV.cN,if_true,true_and,if_pos this,aYO,d']
 simp only[go_sem];refine Lf (α:=Nat × List Nat × List Nat) (fun t=>dI (.osl o 1 0 lu) (aG v) (m+2) (.osl R 1 0 J) (v[m+1]) (v[m]) s ((t.1:Int)-1)) (fun t=>(PH.nil.set o (.rows 1 (aF t.2.1))).set R (.rows 1 (aF t.2.2)))
  (fun t=>t.1≤J∧nA U0 (val v) (m+2) lu J t.1 t.2.1 t.2.2) (fun t=>t.1) (J,U,aXK J 0) o2 ω ⟨aXL _,hI⟩ ?_ ?_ ?_
 ·unfold dI;refine PF.aJ (PF.aJ (PF.aJ (PF.aJ (PF.aJ (PF.aJ (PF.aJ (PF.aJ PF.nil_le ?_) ?_) ?_) ?_) ?_) ?_) ?_) ?_<;>simp only[go_sem,f8,f9,μ,f11,ν,f13,f14,ξ,Φ,Ω,Ψ,a']
 ·refine PH.aJ (PH.aJ PH.nil_le ?_) ?_
  ·simp only[go_sem,γ,hH,bX.frz,qA]
  ·simp only[go_sem,δ,ψ,bX.frz,qA]
 rintro⟨k,U,Q⟩ ⟨hk,hI⟩;simp only at hk hI;simp only[go_sem,zD,QG,dI];by_cases h0:0<k
 ·obtain⟨j,rfl⟩:∃ j,k=j+1:=⟨k-1,by omega⟩;have hz:((j+1:Nat):Int)-1=(j:Int):=Om;have b':(j:Int)≥0:=Om;have ζ:val v<4294967296 ^ (m+2):=by have:=eK hv; rw[η] at this; exact this
  obtain⟨hlt,Γ⟩:=yd hI ζ Om c';have Θ:=hI.lu';have Δ:=hI.lq';have hA:(U.take j).length=j:=by rw[aYA]; omega
  have Λ:((U.drop j).take (m+3)).length=m+3:=by rw[aYA,aZI]; omega
  have β:U.take j++(U.drop j).take (m+3)++U.drop (j+(m+3))=U:=by rw[aYQ,← List.drop_drop,a0E,a0E]
  have Ξ:(U.drop (j+(m+3))).length=lu-(j+(m+3)):=by rw[aZI,Θ]
  have key:=uk (C:=C) D (U.take j) ((U.drop j).take (m+3)) (U.drop (j+(m+3))) v Q m o R lu s h3 ((hI.limU.drop _).take _) hv η Λ ht hlt (by rw[hA,Ξ]; omega) θ (by rw[hA]; omega);rw[hA,β,Δ] at key;have κ:IntKind.i64.wrap ((j:Int)-1)=(j:Int)-1:=wrap_i64 Om Om;simp only[go_sem,hz,b'];simp only[go_sem] at key;refine key _ _ _ ?_ (by simp only[go_sem,ι]) Sq ?_
  ·unfold dF;exact Lq
  ·intro F' H' p χ ε;have g8:=p 8 _ (by unfold dF; simp only[go_sem]; rfl);have g9:=p 9 _ (by unfold dF; simp only[go_sem]; rfl);have ο:=p 10 _ (by unfold dF; simp only[go_sem]; rfl);have ρ:=p 11 _ (by unfold dF; simp only[go_sem]; rfl);have σ:=p 12 _ (by unfold dF; simp only[go_sem]; rfl);have τ:=p 13 _ (by unfold dF; simp only[go_sem]; rfl);have υ:=p 14 _ (by unfold dF; simp only[go_sem]; rfl);have φ:=p 15 _ (by unfold dF; simp only[go_sem]; rfl);simp only[go_sem,QI,φ,κ];refine aM (j,_,_) ⟨by simp only; omega,Γ⟩ (by simp only; omega) ?_ (PH.aJ (PH.aJ PH.nil_le χ) ε);refine PF.aJ (PF.aJ (PF.aJ (PF.aJ (PF.aJ (PF.aJ (PF.aJ (PF.aJ PF.nil_le ?_) ?_) ?_) ?_) ?_) ?_) ?_) ?_<;>simp only[go_sem,g8,g9,ο,ρ,σ,τ,υ]
 ·have:k=0:=Om;subst this;have hz:¬ ((0:Nat):Int)-1≥0:=by decide
  simp only[go_sem,hz];refine hK U Q _ hI ?_;unfold dI
  (repeat' (first|exact PF.nil_le|refine PF.aJ ?_ ?_))<;>first|(simp only[go_sem,show ((0:Nat):Int)-1=-1 from rfl]<;>rfl)|rfl
open Go Go.Na
def rFr (o p J l or n s i:Nat):PF:=((((((PF.nil.set 8 (.int .u64 s)).set 9 (.osl o 1 0 p)).set 12 (.osl J 1 0 l)).set 19 (.osl or 1 0 n)).set 166 (.int .i64 n)).set 167 (.int .i64 i))
theorem aKJ {x s:Nat} (i:s≤64):shift .shr .u64 (x:Int) (s:Int)=some (.int .u64 ((x/2 ^ s:Nat):Int)):=by
 unfold shift;rw[if_neg Om];simp only;have:min (Int.toNat (s:Int)) IntKind.u64.bits=s:=by rw[show IntKind.u64.bits=64 from rfl]; omega
 rw[this,Int.fdiv_eq_ediv_of_nonneg _ (by exact_mod_cast aXU _)]
 norm_cast
theorem Eu {C:Ctx} (o J i lq n s:Nat) (U Q:List Nat) (hs:s<32) (h3:i≠o) (hU:Lim U) (hl:U.length=J) (hn:n<J) (υ:J≤10000) (K:bT) (F:PF)
  (f8:F 8=some (.int .u64 s)) (f9:F 9=some (.osl o 1 0 J)) (f11:F 11=some (.int .i64 n)) (φ:F 12=some (.osl i 1 0 lq))
  (hK:∀ or F' H',or≠o→or≠i→(rFr o J i lq or n s n).le F'→H' i=some (.rows 1 (aF Q))→H' or=some (.rows 1 (aF (dL n (val U/2 ^ s))))→K .normal F' H') :
  aA.wp C (.seq (.region zN) (.seq (.region zO) (.block 6 (.loop zE)))) K F ((PH.nil.set o (.rows 1 (aF U))).set i (.rows 1 (aF Q))):=by
 have σ:((n:Nat):Int)*((4:Nat):Int)≤140737488355328:=Om;have τ:((n:Nat):Int)≤9223372036854775807:=Om;have hz:aXK n [PV.int .u32 0]=aF ([]++aXK n 0):=by simp[aF]
 simp only[go_sem,zN,f11,σ,τ,hz];refine aT fun or ι=>?_;have n1:¬ or=i:=(gD.1 ι).1;have n2:¬ or=o:=(gD.1 (gD.1 ι).2).1;have β:¬ i=or:=fun h=>n1 h.symm;have γ:¬ o=or:=fun h=>n2 h.symm;have n3:¬ i=o:=h3;have δ:¬ o=i:=fun h=>n3 h.symm;simp only[go_sem,zO];refine wp_loop (α:=List Nat) (fun P=>rFr o J i lq or n s P.length) (fun P=>((PH.nil.set o (.rows 1 (aF U))).set i (.rows 1 (aF Q))).set or (.rows 1 (aF (P++aXK (n-P.length) 0)))) (fun P=>P.length≤n∧P=dL P.length (val U/2 ^ s)) (fun P=>n-P.length) []
  ⟨by simp,rfl⟩ ?_ ?_ ?_
 ·unfold rFr;exact Lq
 ·refine PH.aJ (PH.aJ (PH.aJ PH.nil_le ?_) ?_) ?_<;>simp only[go_sem,n1,β,n2,γ,n3,δ,aZV]
 rintro P ⟨hP,hD⟩;simp only[go_sem,zE,QJ,rFr];by_cases c1:P.length<n
 ·have p:(P.length:Int)<(n:Nat):=Om;obtain⟨k,hk⟩:∃ k,n-P.length=k+1:=⟨n-P.length-1,by omega⟩;have ρ:(aF (P++aXK (k+1) 0))[P.length]?=some [.int .u32 ((0:Nat):Int)]:=by rw[bK _ (by simp)]; simp
  have a0:P.length<U.length:=Om;have a1:P.length+1<U.length:=Om;have b0:(P.length:Int)<(J:Nat):=Om;have b1:((P.length+1:Nat):Int)<(J:Nat):=Om;have χ:=hU _ (aXM a0);have ψ:=hU _ (aXM a1);have e:val U/4294967296 ^ P.length=U[P.length]+4294967296*(U[P.length+1]+4294967296*val (U.drop (P.length+2))):=by rw[← sH hU Om,aZG a0,aZG a1];rfl
  have θ:=RB hs e;have g0:=bK U a0;have g1:=bK U a1;generalize ω:U[P.length]=R at *
  generalize Γ:U[P.length+1]=l at *
  have e1:IntKind.i64.wrap ((P.length:Int)+1)=((P.length+1:Nat):Int):=cP Om;have ξ:IntKind.u64.wrap ((R:Nat):Int)=((R:Nat):Int):=bA Om;have ο:IntKind.u64.wrap ((l:Nat):Int)=((l:Nat):Int):=bA Om;have ζ:shift .shl .u64 (l:Int) 32=some (.int .u64 ((2 ^ 32*l:Nat):Int)):=GF (s:=32) Om Om;have ν:(2:Nat) ^ 32=4294967296:=by decide
  have ε:=orI (a:=2 ^ 32*l) (b:=R) (n:=2 ^ 32*l+R) Om Om (Nat.two_pow_add_eq_or_of_lt Om l).symm Om;rw[ν] at ζ ε;have η:=aKJ (x:=4294967296*l+R) (s:=s) Om;have μ:(aF (P++aXK (k+1) 0)).set P.length [.int .u32 (((4294967296*l+R)/2 ^ s%4294967296:Nat):Int)]=aF ((P++[(4294967296*l+R)/2 ^ s%4294967296])++aXK k 0):=by rw[eZ,vQ]
  simp only[go_sem,p,QK];refine cJ .nil eU PH.nil_le ?_;simp only[go_sem,QL,p,e1,b0,b1,γ,δ,g0,g1,ξ,ο,ζ,ε,η,cA,hk,ρ,μ];refine⟨PH.nil_le,?_⟩;simp only[go_sem,QM,e1];refine aM (P++[(4294967296*l+R)/2 ^ s%4294967296]) ⟨by simp; omega,?_⟩ (by simp; omega) ?_ (PH.aJ (PH.aJ (PH.aJ PH.nil_le ?_) ?_) ?_)
  ·rw[aXN,aXR,sY,← hD,θ]
  ·rw[aXN,aXR];exact Lq
  ·simp only[go_sem,γ,δ]
  ·simp only[go_sem,β]
  ·rw[aXN,aXR,show n-(P.length+1)=k by omega];simp only[go_sem]
 ·have e:P.length=n:=Om;have p:¬ (P.length:Int)<(n:Nat):=Om;have κ:aXK (n-P.length) 0=[]:=by rw[show n-P.length=0 by omega]; rfl
  rw[e] at hD;simp only[go_sem,p,κ,aZK];refine hK or _ _ n2 n1 ?_ (by simp only[go_sem,β]) (by simp only[go_sem]; rw[← hD]);unfold rFr;rw[e];exact Lq
structure RY (C:Ctx):Prop where
 L:nO C
 D:VX C
 up:∀ (a:List Nat) (s:Nat),Lim a→s<32→a.length≤1000→aH C 143 [aG a,.int .u64 s] .nil (upR a s)
 short:∀ (a:List Nat) (d:Nat),Lim a→0<d→d<4294967296→a.length≤1000→aH C 140 [aG a,.int .u32 d] .nil (aL (.tup [aG (aI (val a/d)),.int .u32 ((val a%d:Nat):Int)]))
 lengthO:∀ (xs:List Nat) (o:Nat),Lim xs→xs.length≤35184372087808→aH C 138 [.osl o 1 0 xs.length] (PH.nil.set o (.rows 1 (aF xs))) (fun r H'=>r=.int .i64 (nl (val xs):Nat)∧H'=PH.nil.set o (.rows 1 (aF xs)))
def aqE:Spec:=fun name vs=>match name,vs with
 | 143,[x,.int _ s]=>some ([],fun _=>upR (kC x) s.toNat)
 | 138,[.osl q _ _ _]=>some ([q],fun i r H'=>H'=i∧∀ xs,Lim xs→i q=some (.rows 1 (aF xs))→r=.int .i64 (nl (val xs):Nat))
 | _,_=>none
theorem Mn (a:List Nat) (s:Nat):aqE 143 [aG a,.int .u64 s]=some ([],fun _=>upR a s):=by
 show some _=_; rw[eP,aZL]
theorem Ia (a:List Nat) (s:Nat):∀ G:PH,∃ r H',upR a s r H'∧kS G .nil H':=fun G=>by
 obtain⟨o,l⟩:=G.fresh;refine⟨_,_,⟨o,rfl,rfl⟩,fun q x i _=>?_⟩;rw[aQ] at i;split at i
 ·rename_i e; subst e; exact l
 ·cases i
theorem LS {xs ys:List Nat} (h:aF xs=aF ys):xs=ys:=by
 have:=congrArg kC (show aG xs=aG ys by show PV.sl 1 (aF xs)=PV.sl 1 (aF ys); rw[h])
 rwa [eP,eP] at this
theorem sm (q:Nat) (L:List Nat):(PH.nil.set q (.rows 1 (aF L)))=(PH.nil.set q (.rows 1 (aF L)))∧∀ xs,Lim xs→(PH.nil.set q (.rows 1 (aF L))) q=some (.rows 1 (aF xs))→(PV.int .i64 (nl (val L):Nat))=.int .i64 (nl (val xs):Nat):=by
 refine⟨rfl,fun xs i e=>?_⟩;rw[cD] at e;have:aF L=aF xs:=(bX.rows.inj (aZS.inj e)).2;rw[LS this]
def nG (A B:Nat):PV:=.tup [aG (aI (A/B)),aG (aI (A%B))]
def Us (a b:List Nat) (s:Nat):PF:=(((PF.nil.set 0 (aG a)).set 1 (aG b)).set 8 (.int .u64 s))
theorem aEE {x s:Nat} (i:s≤31) (h:x*2 ^ s<4294967296):shift .shl .u32 (x:Int) (s:Int)=some (.int .u32 ((x*2 ^ s:Nat):Int)):=by
 unfold shift;rw[if_neg Om];simp only;have:min (Int.toNat (s:Int)) IntKind.u32.bits=s:=by rw[show IntKind.u32.bits=32 from rfl]; omega
 rw[this,show (x:Int)*2 ^ s=((x*2 ^ s:Nat):Int) by simp,cA,aYR h]
theorem I7 {n i x:Nat} (l:(aXK n 0)[i]?=some x):x=0:=by
 have:=a0D l;rw[List.mem_replicate] at this;exact this.2
theorem bf {C:Ctx} (Lb:RY C) (A B:Nat) (hB:B≠0) (hA:nl A≤900) (v':nl B≤900) :
  wO.wp C (aW BE.res (cG (nG A B))) (PF.args [aG (aI A),aG (aI B)]) .nil:=by
 have LA:=bC A;have LB:=bC B;have vA:=aY A;have vB:=aY B;have lA:(aI A).length=nl A:=rfl;have lB:(aI B).length=nl B:=rfl;simp only[go_sem,wO,bg,bi,BE];refine aC (Lb.L.cmp _ _ LA LB Om Om) rfl ?_;rw[vA,vB];by_cases c1:A<B
 ·have hc:dW A B<0:=by simp[dW,c1]
  simp only[go_sem,hc,bj];refine aC (Lb.L.trim _ LA Om) rfl ?_;rw[vA];simp only[go_sem];refine bB (vs:=[.aB,aG (aI A)]) (.inr rfl) .nil rfl PH.nil_le ⟨?_,rfl⟩;rw[nG,a0S c1,aYR c1,fJ];refine .tup rfl fun j p q hp hq=>?_
  match j with
  | 0=>simp at hp hq; subst hp; subst hq; exact .nil 1
  | 1=>simp at hp hq; subst hp; subst hq; exact .refl _
  | j+2=>simp at hp
 have hc:¬ dW A B<0:=by unfold dW;rw[if_neg c1];split<;>decide
 have κ:0<B:=aZU hB;have y':nl B≠0:=fun h=>hB (jU.1 h);simp only[go_sem,hc,bk];by_cases c2:nl B=1
 ·have σ:B<4294967296:=by have:=(gQ B 1).1 Om; simpa using this
  have j':aI B=[B]:=mL hB σ;have hr:A%B<B:=aYW _ κ;have ew:IntKind.u64.wrap ((A%B:Nat):Int)=((A%B:Nat):Int):=bA Om;rw[j'];have Λ:=Lb.short (aI A) B LA κ σ Om;rw[vA] at Λ;simp only[go_sem,show (((1:Nat):Int)==1)=true from rfl,bn];refine aC Λ rfl ?_;simp only[go_sem,bo,ew];refine aC (Lb.L.make (A%B) Om) rfl ?_;simp only[go_sem];exact bB (vs:=[aG (aI (A/B)),aG (aI (A%B))]) (.inr rfl) .nil rfl PH.nil_le ⟨.refl _,rfl⟩
 obtain⟨m,hm⟩:∃ m,nl B=m+2:=⟨nl B-2,by omega⟩;have u':nl B≤nl A:=hC Om;obtain⟨bt,β,r'⟩:=G2 LB (n:=m+1) (by rw[vB]; exact hm);have ζ:m+1<(aI B).length:=Om;have ω:bt<4294967296:=LB bt (a0D β);have w':B=val ((aI B).take (m+1))+4294967296 ^ (m+1)*bt:=by have U:=bW (aI B) ζ;rw[aXY Om,vB] at U;rw[aXT ζ] at β;rw[aZS.inj β] at U;exact U
 have μ:=eK (LB.take (m+1));rw[aYA,aZQ Om] at μ;have Θ:(aF (aI B))[m+1]?=some [.int .u32 ((bt:Nat):Int)]:=by rw[bK _ ζ];rw[aXT ζ] at β;rw[aZS.inj β]
 have i1:IntKind.i64.wrap ((((aI B).length:Nat):Int)-1)=((m+1:Nat):Int):=by rw[wrap_i64 Om Om]; omega
 have Γ:¬ (((aI B).length:Nat):Int)=1:=Om;simp only[go_sem,bF Γ,br];refine wp_loop (α:=Nat) (fun s=>Us (aI A) (aI B) s) (fun _=>.nil) (fun s=>s≤31∧bt*2 ^ s<4294967296) (fun s=>32-s) 0 ⟨by omega,by simpa using ω⟩ ?_ PH.nil_le ?_
 ·unfold Us;exact Lq
 rintro s ⟨hs,h'⟩;have a':=aEE hs h';simp only[go_sem,be,bs,Us,i1,Θ,a'];refine apU ?_ ?_
 ·intro c3;have Ω:=of_decide_eq_true c3;have s':s<31:=by
   rcases aXZ s 31 with h | h
   ·exact h
   ·exfalso;have U:2147483648≤2 ^ s:=a0Z (show 0<2 by decide) h;have h2:1*2 ^ s≤bt*2 ^ s:=aYL _ Om;omega
  have es:IntKind.u64.wrap ((s:Int)+1)=((s+1:Nat):Int):=by rw[wrap_u64 Om Om]; omega
  simp only[go_sem,bu,es];refine aM (s+1) ⟨by omega,by rw[aZB,← aYC]; omega⟩ Om ?_ PH.nil_le;exact Lq
 intro c3;have Ω:=of_decide_eq_false c3;have δ:s<32:=Om;have γ:0<2 ^ s:=a0A (by decide);have ι:2147483648*4294967296 ^ (m+1)≤B*2 ^ s:=by
  have U:2147483648*4294967296 ^ (m+1)≤(bt*2 ^ s)*4294967296 ^ (m+1):=aYL _ Om;have h2:(4294967296 ^ (m+1)*bt)*2 ^ s≤B*2 ^ s:=aYL _ Om;have h3:(4294967296 ^ (m+1)*bt)*2 ^ s=(bt*2 ^ s)*4294967296 ^ (m+1):=by rw[aYC,aYI]
  omega
 have ψ:B*2 ^ s<4294967296 ^ (m+2):=by
  have h0:(bt+1)*2 ^ s≤4294967296:=by
   have t':(4294967296:Nat)=2 ^ (32-s)*2 ^ s:=by rw[← Nat.pow_add,show 32-s+s=32 by omega]
   have:bt<2 ^ (32-s):=by
    rcases aXZ bt (2 ^ (32-s)) with h | h
    ·exact h
    ·have:=aYL (2 ^ s) h;omega
   have:=aYL (2 ^ s) (show bt+1≤2 ^ (32-s) from this);omega
  have U:B<(bt+1)*4294967296 ^ (m+1):=by rw[aYM,Nat.one_mul,aYI bt]; omega
  have h2:B*2 ^ s<(bt+1)*4294967296 ^ (m+1)*2 ^ s:=Nat.mul_lt_mul_of_pos_right U γ;have h3:(bt+1)*4294967296 ^ (m+1)*2 ^ s=(bt+1)*2 ^ s*4294967296 ^ (m+1):=Nat.mul_right_comm _ _ _;have h4:(bt+1)*2 ^ s*4294967296 ^ (m+1)≤4294967296*4294967296 ^ (m+1):=aYL _ h0;have h5:4294967296 ^ (m+2)=4294967296*4294967296 ^ (m+1):=by rw[aZB,aYI]
  omega
 have θ:A<4294967296 ^ nl A:=(gQ A _).1 (aXL _);simp only[go_sem];refine cJ .nil aqE PH.nil_le ?_;simp only[go_sem,QB];have ua:=Lb.up (aI A) s LA δ Om;have ub:=Lb.up (aI B) s LB δ Om;refine Mm (Mn (aI A) s) ua rfl (Ia _ _) ?_;rintro r H' ⟨o,rfl,rfl⟩ -;rw[PH.nK,lA,vA];refine⟨PH.nil_le,?_⟩;simp only[go_sem];refine Mm (Mn (aI B) s) ub rfl (Ia _ _) ?_;rintro r H' ⟨o2,rfl,rfl⟩ g';rw[PH.nK,lB,vB,hm];refine⟨PH.nil_le,?_⟩;have i':=g' o2 _ (by rw[aQ,if_pos rfl]) (by rfl);have Φ:¬ o2=o:=(gD.1 i').1;have p':¬ o=o2:=fun h=>Φ h.symm;have k1:((m+2:Nat):Int)≤((m+2+1:Nat):Int):=Om;have k2:IntKind.i64.wrap (((nl A+1:Nat):Int)-((m+2:Nat):Int))=((nl A+1-(m+2):Nat):Int):=by rw[wrap_i64 Om Om]; omega
 obtain⟨l,k'⟩:∃ l,nl A+1-(m+2)=l:=⟨_,rfl⟩;have l':nl A+1=l+(m+2):=Om;rw[k'] at k2;have k3:((l:Nat):Int)*((4:Nat):Int)≤140737488355328:=Om;have k4:((l:Nat):Int)≤9223372036854775807:=Om;have hz:aXK l [PV.int .u32 0]=aF (aXK l 0):=by simp[aF]
 have k5:m+2-0=m+2:=Om;simp only[go_sem,lB,hm,k1,k5,QC,QD,k2,k3,k4,hz];refine aT fun oq Δ=>?_;have q2:¬ oq=o2:=(gD.1 Δ).1;have q1:¬ oq=o:=(gD.1 (gD.1 Δ).2).1;have Ψ:¬ o2=oq:=fun h=>q2 h.symm;have q':¬ o=oq:=fun h=>q1 h.symm;have m':dL (m+2+1) (B*2 ^ s)=dL (m+2) (B*2 ^ s)++[B*2 ^ s/4294967296 ^ (m+2)%4294967296]:=sY _ _;have Lv:=lG (m+2) (B*2 ^ s);have lv:=kD (m+2) (B*2 ^ s);have vv:val (dL (m+2) (B*2 ^ s))=B*2 ^ s:=mP ψ;have Ξ:(aF (dL (m+2+1) (B*2 ^ s))).take (m+2)=aF (dL (m+2) (B*2 ^ s)):=by unfold aF;rw[← List.map_take,m',List.take_append_of_le_length Om,aXY Om]
 generalize B':dL (m+2) (B*2 ^ s)=v at *
 have C':(dL (m+2+1) (B*2 ^ s)).length=m+2+1:=kD _ _;have η:∀ i (h:i<v.length),(aF (dL (m+2+1) (B*2 ^ s)))[i]?=some [.int .u32 ((v[i]:Nat):Int)]:=by intro i h;have U:(aF v)[i]?=some [.int .u32 ((v[i]:Nat):Int)]:=bK v h;rw[← Ξ,List.getElem?_take_of_lt Om] at U;exact U
 have g1:=η (m+1) Om;have g0:=η m Om;have htop:2147483648≤v[m+1]:=by
  have U:=bW v (Om:m+1<v.length);rw[aXY Om,vv] at U;have h2:=eK (Lv.take (m+1));rw[aYA,aZQ Om] at h2;rcases aXZ v[m+1] 2147483648 with h | h
  ·exfalso;have h3:4294967296 ^ (m+1)*(v[m+1]+1)≤4294967296 ^ (m+1)*2147483648:=aZR _ h;rw[aXS,Nat.mul_one] at h3;rw[aYI 2147483648] at ι;omega
  ·exact h
 have A':=Lv _ (aXM (Om:m+1<v.length));have z':=Lv _ (aXM (Om:m<v.length));have w1:IntKind.u64.wrap ((v[m+1]:Nat):Int)=((v[m+1]:Nat):Int):=bA Om;have w0:IntKind.u64.wrap ((v[m]:Nat):Int)=((v[m]:Nat):Int):=bA Om;have j1:IntKind.i64.wrap (((m+2:Nat):Int)-1)=((m+1:Nat):Int):=by rw[wrap_i64 Om Om]; omega
 have j0:IntKind.i64.wrap (((m+2:Nat):Int)-2)=((m:Nat):Int):=by rw[wrap_i64 Om Om]; omega
 have d1:((m+1:Nat):Int)<((m+2:Nat):Int):=Om;have d0:((m:Nat):Int)<((m+2:Nat):Int):=Om;have jq:IntKind.i64.wrap ((l:Int)-1)=(l:Int)-1:=wrap_i64 Om Om;simp only[go_sem];refine cJ .nil eU PH.nil_le ?_;simp only[go_sem,QE,j1,j0,d1,d0,Ψ,g1,g0,w1,w0,QF,jq];have χ:A*2 ^ s<4294967296 ^ (nl A+1):=by
  have h0:2 ^ s≤4294967296:=by have:(2:Nat) ^ s≤2 ^ 32:=a0Z (by decide) Om;simpa using this
  have U:A*2 ^ s<4294967296 ^ nl A*2 ^ s:=Nat.mul_lt_mul_of_pos_right θ γ;have h2:4294967296 ^ nl A*2 ^ s≤4294967296 ^ nl A*4294967296:=aZR _ h0;rw[aZB]; omega
 have LU:=lG (nl A+1) (A*2 ^ s);have lU:=kD (nl A+1) (A*2 ^ s);have vU:val (dL (nl A+1) (A*2 ^ s))=A*2 ^ s:=mP χ;have hI:nA (A*2 ^ s) (val v) (m+2) (nl A+1) l l (dL (nl A+1) (A*2 ^ s)) (aXK l 0):=by
  refine⟨lU,List.length_replicate,LU,tC _,by rw[vU,qI]; omega,?_,fun i x _ hx=>I7 hx⟩
  ·rw[sH LU Om,vU,vv,a0H (a0A (by decide))];have U:A*2 ^ s<4294967296 ^ nl A*2 ^ s:=Nat.mul_lt_mul_of_pos_right θ γ;have hx:nl A=m+1+l:=Om;have h2:4294967296 ^ nl A=4294967296 ^ (m+1)*4294967296 ^ l:=by rw[hx,Nat.pow_add]
   have h3:2 ^ s≤2147483648:=by have:(2:Nat) ^ s≤2 ^ 31:=a0Z (by decide) hs;simpa using this
   have h4:4294967296 ^ nl A*2 ^ s≤(2147483648*4294967296 ^ (m+1))*4294967296 ^ l:=by rw[h2,aYI (4294967296 ^ (m+1)*4294967296 ^ l),← aYC];exact aYL _ (aYL _ h3)
   have h5:(2147483648*4294967296 ^ (m+1))*4294967296 ^ l≤B*2 ^ s*4294967296 ^ l:=aYL _ ι;omega
 have key:=Et (C:=C) Lb.D (A*2 ^ s) m (nl A+1) l o o2 oq s v (dL (m+2+1) (B*2 ^ s)) Φ q1 q2 Lv lv Ξ Om htop l' Om _ hI;simp only[go_sem] at key;refine key _ _ _ ?_ (by simp only[go_sem,p',q']) (by simp only[go_sem,Ψ]) Sq ?_
 ·unfold dI;exact Lq
 clear key;intro U' Q' F' J ε;have hu:val U'<val v:=by have:=J.r; rwa [aYO] at this
 have ξ:=J.v;rw[vv] at hu ξ;have f':0<B*2 ^ s:=Om;have d':val Q'=A/B:=by
  have:A*2 ^ s/(B*2 ^ s)=val Q':=by rw[← ξ,Nat.add_mul_div_right _ _ f',a0S hu,aYD]
  rw[← this,Nat.mul_div_mul_right _ _ γ]
 have e':val U'/2 ^ s=A%B:=by
  have:A*2 ^ s%(B*2 ^ s)=val U':=by rw[← ξ,Nat.add_mul_mod_self_right,aYR hu]
  rw[← this,Nat.mul_mod_mul_right,Nat.mul_div_cancel _ γ]
 have g8:=ε 8 _ (by unfold dI; simp only[go_sem]; rfl);have g9:=ε 9 _ (by unfold dI; simp only[go_sem]; rfl);have b':=ε 11 _ (by unfold dI; simp only[go_sem]; rfl);have c':=ε 12 _ (by unfold dI; simp only[go_sem]; rfl);have rest:=Eu (C:=C) o (nl A+1) oq l (m+2) s U' Q' δ q1 J.limU J.lu' Om Om;simp only[go_sem] at rest;simp only[go_sem];refine rest _ _ g8 g9 b' c' ?_;clear rest;intro or F2 H2 r1 r2 τ υ ν;rw[e'] at ν;have n':=τ 12 _ (by unfold rFr; simp only[go_sem]; rfl);have o':=τ 19 _ (by unfold rFr; simp only[go_sem]; rfl);have φ:A%B<4294967296 ^ (m+2):=by have U:A%B<B:=aYW _ κ;have h2:B<4294967296 ^ nl B:=(gQ B _).1 (aXL _);rw[hm] at h2; omega
 have LR:=lG (m+2) (A%B);have lR:=kD (m+2) (A%B);have vR:val (dL (m+2) (A%B))=A%B:=mP φ;have nQ:=eY J.limQ;have nR:=eY LR;have e1:=J.lq';generalize x':dL (m+2) (A%B)=R at *
 simp only[go_sem];refine cJ .nil aqE PH.nil_le ?_;simp only[go_sem,QN,n'];have ο:=Lb.lengthO Q' oq J.limQ Om;rw[e1] at ο;have ρ:=Lb.lengthO R or LR Om;rw[lR] at ρ;refine SH (o:=oq) (x:=.rows 1 (aF Q')) (v:=.int .i64 (nl (val Q'):Nat)) rfl υ ο (sm oq Q') (fun r H' hr=>⟨hr.2 Q' J.limQ (by rw[cD]),hr.1⟩) rfl PH.nil_le ?_;have c4:((nl (val Q'):Nat):Int)≤(l:Nat):=Om;simp only[go_sem,c4,o',Nat.sub_zero];refine SH (o:=or) (x:=.rows 1 (aF R)) (v:=.int .i64 (nl (val R):Nat)) rfl ν ρ (sm or R) (fun r H' hr=>⟨hr.2 R LR (by rw[cD]),hr.1⟩) rfl PH.nil_le ?_;have c5:((nl (val R):Nat):Int)≤((m+2:Nat):Int):=Om;simp only[go_sem,c5];refine aeI (o1:=oq) (o2:=or) (s1:=1) (s2:=1) (k1:=nl (val Q')) (k2:=nl (val R)) (rs1:=aF Q') (rs2:=aF R) (.inr rfl) (fun h=>r2 h.symm) rfl rfl υ ν (by rw[bR]; exact nQ) (by rw[bR]; exact nR) (qA _ _ _ _) rfl ⟨?_,rfl⟩;have t1:(aF Q').take (nl (val Q'))=aF (aI (A/B)):=by have:=gU J.limQ;rw[d'] at this ⊢;exact this
 have t2:(aF R).take (nl (val R))=aF (aI (A%B)):=by have:=gU LR;rw[vR] at this ⊢;exact this
 rw[t1,t2];exact .refl _
def aqZ (a b:Nat):PF:=((PF.nil.set 0 (aG (aI a))).set 1 (aG (aI b)))
theorem Qi {C:Ctx} (L:nO C) (i:∀ A B:Nat,B≠0→nl A≤900→nl B≤900→aH C 136 [aG (aI A),aG (aI B)] .nil (aL (nG A B))) (a b:List Nat) (U:Lim a) (hb:Lim b) (la:a.length≤35184372087808) (lb:b.length≤35184372087808) :
  LG.wp C (aW Ex.res (cG (if eN (val a) (val b) then .tup [aG [],.int .i64 2] else .tup [aG (aI (aXJ (val a) (val b))),.int .i64 0]))) (PF.args [aG a,aG b]) .nil:=by
 simp only[go_sem,LG,Qj,Qk,Ex];refine aC (L.large a U la) rfl ?_;by_cases l:nl (val a)>512
 ·simp only[go_sem,l,iw];rw[if_pos (by simp[eN,l])];exact jB rfl
 simp only[go_sem,l];refine aC (L.large b hb lb) rfl ?_;by_cases p:nl (val b)>512
 ·simp only[go_sem,p,iw];rw[if_pos (by simp[eN,p])];exact jB rfl
 rw[if_neg (by simp[eN,l,p])];simp only[go_sem,p,Ql];refine aC (L.trim a U la) rfl ?_;simp only[go_sem];refine aC (L.trim b hb lb) rfl ?_;simp only[go_sem];refine wp_loop (α:=Nat × Nat) (fun t=>aqZ t.1 t.2) (fun _=>.nil) (fun t=>aXJ t.1 t.2=aXJ (val a) (val b)∧nl t.1≤512∧nl t.2≤512) (fun t=>t.2) (val a,val b) ⟨rfl,by simp only; omega,by simp only; omega⟩ ?_ PH.nil_le ?_
 ·unfold aqZ;exact Lq
 rintro⟨x,y⟩ ⟨R,hx,hy⟩;simp only at R hx hy;simp only[go_sem,Qh,Qm,aqZ,bH];by_cases J:y=0
 ·subst J;have:¬ ((nl 0:Nat):Int)>0:=by rw[vO]; decide
  simp only[go_sem,this,Qp];refine bB (vs:=[aG (aI x),.int .i64 0]) (.inr rfl) .nil rfl PH.nil_le ⟨?_,rfl⟩;rw[← R,Nat.gcd_zero_right];exact .refl _
 ·have h0:nl y≠0:=fun h=>J (jU.1 h);have:((nl y:Nat):Int)>0:=Om;simp only[go_sem,this,Qn];refine aC (i x y J Om Om) rfl ?_;simp only[go_sem,nG,Qo];have hlt:x%y<y:=aYW _ (aZU J);refine aM (y,x%y) ⟨?_,hy,?_⟩ hlt ?_ PH.nil_le
  ·simp only;rw[← R,Nat.gcd_comm y,← Nat.gcd_rec y x,Nat.gcd_comm]
  ·have:=hC (Nat.le_of_lt hlt);simp only; omega
  ·exact Lq
def lJ (A B:Nat):PV:=if eN A B then .tup [aG [],aG [],.int .i64 2] else if B=0 then .tup [aG [],aG [],.int .i64 3] else .tup [aG (aI (A/B)),aG (aI (A%B)),.int .i64 0]
def Ut:Spec:=fun name vs=>match name,vs with
 | 138,[x]=>some ([],fun _=>aL (.int .i64 (nl (val (kC x)):Nat)))
 | 136,[x,y]=>some ([],fun _=>aL (nG (val (kC x)) (val (kC y))))
 | _,_=>none
theorem LD (xs:List Nat):Ut 138 [aG xs]=some ([],fun _=>aL (.int .i64 (nl (val xs):Nat))):=by
 show some _=_; rw[eP]
theorem Es (A B:Nat):Ut 136 [aG (aI A),aG (aI B)]=some ([],fun _=>aL (nG A B)):=by
 show some _=_; rw[eP,eP,aY,aY]
theorem qC {res:List dN} {F:PF} {H:PH} {e:Int} (h:dN.evs F H res=some [.aB,.aB,.int .i64 e]):aW res (cG (.tup [aG [],aG [],.int .i64 e])) .ret F H:=by
 refine bB (.inr rfl) .nil h PH.nil_le ⟨?_,rfl⟩;refine .tup rfl fun j p q i l=>?_
 match j with
 | 0=>simp at i l; subst i; subst l; exact .nil 1
 | 1=>simp at i l; subst i; subst l; exact .nil 1
 | 2=>simp at i l; subst i; subst l; exact .refl _
 | j+3=>simp at i
theorem Qa {C:Ctx} (L:nO C) (J:∀ A B:Nat,B≠0→nl A≤900→nl B≤900→aH C 136 [aG (aI A),aG (aI B)] .nil (aL (nG A B))) (a b:List Nat) (U:Lim a) (p:Lim b) (la:a.length≤35184372087808) (lb:b.length≤35184372087808) :
  LE.wp C (aW Er.res (cG (lJ (val a) (val b)))) (PF.args [aG a,aG b]) .nil:=by
 simp only[go_sem,LE,Qb,Qc,Er];refine aC (L.large a U la) rfl ?_;by_cases i:nl (val a)>512
 ·simp only[go_sem,i,iv];rw[show lJ (val a) (val b)=.tup [aG [],aG [],.int .i64 2] by simp[lJ,eN,i]];exact qC rfl
 simp only[go_sem,i];refine aC (L.large b p lb) rfl ?_;by_cases R:nl (val b)>512
 ·simp only[go_sem,R,iv];rw[show lJ (val a) (val b)=.tup [aG [],aG [],.int .i64 2] by simp[lJ,eN,R]];exact qC rfl
 simp only[go_sem,R,Qd];refine aC (L.length b p lb) rfl ?_;by_cases l:val b=0
 ·have:((nl (val b):Nat):Int)=0:=by rw[l,vO]; rfl
  simp only[go_sem,bM this,Qe];rw[show lJ (val a) (val b)=.tup [aG [],aG [],.int .i64 3] by simp[lJ,eN,i,l,vO]];exact qC rfl
 have h0:nl (val b)≠0:=fun h=>l (jU.1 h);rw[show lJ (val a) (val b)=.tup [aG (aI (val a/val b)),aG (aI (val a%val b)),.int .i64 0] by simp[lJ,eN,i,R,l]];simp only[go_sem,bF (show ((nl (val b):Nat):Int)≠0 by omega)];refine cJ .nil Ut PH.nil_le ?_;simp only[go_sem,Qf];have h1:=eY U;have h2:=eY p;have α:((nl (val a):Nat):Int)≤(a.length:Nat):=Om;have β:((nl (val b):Nat):Int)≤(b.length:Nat):=Om;refine cW (LD a) (L.length a U la) rfl PH.nil_le ?_;simp only[go_sem,α,or_true,aYO,gU U];refine cW (LD b) (L.length b p lb) rfl PH.nil_le ?_;simp only[go_sem,β,or_true,aYO,gU p];refine cW (Es (val a) (val b)) (J _ _ l Om Om) rfl PH.nil_le ?_;simp only[go_sem,nG,Qg];exact bB (.inr rfl) .nil rfl PH.nil_le ⟨.refl _,rfl⟩
def YF:Rg:=[iA 6 (.alloc [(.bool false),.aB,.aB]),iI 7 0]
def YG:Rg:=[iM 11 1,iM 12 2,iK2 13 131 11 12,iM 10 13,iE 14 10 0,iE 15 10 1,iM 8 14,iM 9 15]
def YH:Rg:=[iM 16 8,iK 17 128 16,iC 18 .gtr 17 1]
def YI:Rg:=[iM 20 1,iM 21 8,iK2 22 130 20 21,iM 19 22,iE 23 19 0,iE 24 19 1,iE 25 19 2,iM 1 23]
def YJ:Rg:=[iM 27 2,iM 28 8,iK2 29 130 27 28,iM 26 29,iE 30 26 0,iE 31 26 1,iE 32 26 2,iM 2 30]
def CX:Rg:=[iM 33 1,iK 34 128 33,iC 35 .gtr 34 4096,iM 36 35,gM 37 2 36 false,gK 38 128 37 36 false,gC 39 .gtr 38 4096 36 false,iQ 40 36 39]
def uD:Rg:=[iA 41 (.build [(.bool false),.aB,.aB] []),iS 3 6 41,iI 7 2]
def CY:Rg:=[iM 42 0,iM 43 42,gM 44 1 43 true,gK 45 128 44 43 true,gC 46 .gtr 45 0 43 true,iP 47 43 46,iM 48 1,iK 49 135 48,iM 50 2,iK 51 135 50,iA 52 (.build [(.bool false),.aB,.aB] [(0,1,(Tm 47)),(1,1,(Tm 49)),(2,1,(Tm 51))]),iS 3 6 52,iI 7 0]
def wE:aA:=(sq YF (.seq (sq YG (sq YH (.cond (Tm 18) (sq YI (.region YJ)) .skip))) (.seq (sq CX (.cond (Tm 40) (sq uD .ret) .skip)) (sq CY .ret))))
def Tw:List Nat:=[]
def oC:aS:=⟨3,53,wE,[.cell 6 (some 3),.tmp 7]⟩
def mq:Rg:=[iZ 4]
def mr:Rg:=[iM 8 0,iM 9 1,iK2 10 133 8 9,iM 7 10,iE 11 7 0,iE 12 7 1,iM 5 11,iM 6 12]
def mu:Rg:=[iM 13 5,iM 4 13]
def yU:aA:=(sq mq (sq mr (sq mu .ret)))
def abQ:List Nat:=[]
def JP:aS:=⟨2,14,yU,[.tmp 4]⟩
def zo:Rg:=[iA 1 (.box true (Tm 0)),iT 2 false]
def zp:Rg:=[iF 3 1 1,iL 4 3,iK 5 128 4,iC 6 .eql 5 0,iM 2 6]
def DC:aA:=(sq zo (sq zp .ret))
def aqV:List Nat:=[1]
def YR:aS:=⟨1,7,DC,[.tmp 2]⟩
def zh:Rg:=[iA 4 (.alloc [(.bool false),.aB,.aB]),iI 5 0]
def zi:Rg:=[iM 6 1,iC 7 .eql 6 0]
def zj:Rg:=[iA 8 (.build [(.bool false),.aB,.aB] []),iS 3 4 8,iI 5 3]
def zk:Rg:=[iM 9 0,iC 10 .lss 9 0,iM 11 1,iC 12 .lss 11 0,iA 13 (.eqb true (Tm 10) (Tm 12)),iM 14 0,iK 15 119 14,iM 16 1,iK 17 119 16,iA 18 (.call 120 [(Tm 13),(Tm 15),(Tm 17)]),iE 19 18 0,iE 20 18 1,iS 3 4 19,iM 5 20]
def CZ:aA:=(sq zh (.seq (sq zi (.cond (Tm 7) (sq zj .ret) .skip)) (sq zk .ret)))
def aqU:List Nat:=[]
def OJ:aS:=⟨2,21,CZ,[.cell 4 (some 3),.tmp 5]⟩
def Ms:Rg:=[iZ 2]
def Mt:Rg:=[iM 3 0,iC 4 .lss 3 0]
def Mu:Rg:=[iM 5 0,iA 6 (.conv .u64 (Tm 5)),iA 7 (.un .neg (Tm 6)),iK 8 132 7,iM 2 8]
def Mv:Rg:=[iM 9 0,iA 10 (.conv .u64 (Tm 9)),iK 11 132 10,iM 2 11]
def JF:aA:=(sq Ms (.seq (sq Mt (.cond (Tm 4) (sq Mu .ret) .skip)) (sq Mv .ret)))
def aAK:List Nat:=[]
def y7:aS:=⟨1,12,JF,[.tmp 2]⟩
def my:Rg:=[iA 1 (.box true (Tm 0)),iT 2 false]
def mz:Rg:=[iF 4 2 1,iL 5 4,iK 6 128 5,iM 3 6]
def xM:Rg:=[iM 7 3,iC 8 .gtr 7 0,iM 9 8,gM 10 3 9 true,gC 11 .leq 10 4096 9 true,iP 12 9 11,iM 13 12,gF 14 1 1 13 true,gL 15 14 13 true,gK 16 128 15 13 true,gC 17 .leq 16 4096 13 true,iP 18 13 17,iM 2 18]
def yV:aA:=(sq my (sq mz (sq xM .ret)))
def abR:List Nat:=[1]
def JQ:aS:=⟨1,19,yV,[.tmp 2]⟩
def YL:Rg:=[iA 1 (.box true (Tm 0)),iA 2 (.alloc [(.bool false),.aB,.aB]),iI 3 0]
def YM:Rg:=[iO 4 3 1,iK 5 118 4,iA 6 (.un .not (Tm 5))]
def YN:Rg:=[iA 7 (.build [(.bool false),.aB,.aB] []),iS 3 2 7,iI 3 1]
def YO:Rg:=[iF 8 0 1,iL 9 8,iF 10 1 1,iL 11 10,iF 12 2 1,iL 13 12,iA 14 (.call 120 [(Tm 9),(Tm 11),(Tm 13)]),iE 15 14 0,iE 16 14 1,iS 3 2 15,iM 3 16]
def wF:aA:=(sq YL (.seq (sq YM (.cond (Tm 6) (sq YN .ret) .skip)) (sq YO .ret)))
def Tz:List Nat:=[1]
def vE:aS:=⟨1,17,wF,[.cell 2 (some 3),.tmp 3]⟩
def M7:Rg:=[iA 2 (.box true (Tm 0)),iA 3 (.box true (Tm 1)),iI 4 0,iI 5 0]
def M8:Rg:=[iO 9 3 2,iK 10 118 9,iA 11 (.un .not (Tm 10)),iM 12 11,gO 13 3 3 12 false,gK 14 118 13 12 false,iG 15 (.un .not (Tm 14)) 12 false,iQ 16 12 15]
def ge:Rg:=[iI 4 0,iI 5 1]
def M9:Rd:=[(iF 17 1 2,false),(iL 18 17,false),(iF 19 2 3,false),(iL 20 19,false),(iK2 21 121 18 20,true),(iF 22 1 3,true),(iL 23 22,true),(iF 24 2 2,true),(iL 25 24,true),(iK2 26 121 23 25,true),(iK2 27 129 21 26,true),(iM 6 27,false)]
def Nb:Rd:=[(iF 28 0 2,false),(iL 29 28,false),(iM 30 29,false),(gO 31 3 2 30 true,false),(gK 32 122 31 30 true,true),(iG 33 (.un .not (Tm 32)) 30 true,true),(iP 34 30 33,true),(iF 35 0 3,true),(iL 36 35,true),(iM 37 36,false),(gO 38 3 3 37 true,false),(gK 39 122 38 37 true,true),(iG 40 (.un .not (Tm 39)) 37 true,false),(iP 41 37 40,false),(iM 7 34,false),(iM 8 41,false)]
def vD:Rg:=[iM 43 7,iM 44 43,gM 45 8 44 true,iP 46 44 45,iM 42 46]
def gf:Rg:=[iM 47 6,iA 48 (.un .neg (Tm 47)),iM 4 48,iI 5 0]
def AX:Rg:=[iM 50 7,iM 49 50]
def gh:Rg:=[iI 4 (-1),iI 5 0]
def OI:Rg:=[iM 52 8,iM 51 52]
def SK:Rg:=[iI 4 1,iI 5 0]
def SL:Rg:=[iM 53 6,iM 4 53,iI 5 0]
def JI:aA:=(sq M7 (.seq (sq M8 (.cond (Tm 16) (sq ge .ret) .skip)) (dq M9 (dq Nb (.seq (.block 0 (sq vD (.cond (Tm 42) (sq gf .ret) (sq AX (.cond (Tm 49) (sq gh .ret) (sq OI (.cond (Tm 51) (sq SK .ret) .skip))))))) (sq SL .ret))))))
def aAM:List Nat:=[2,3]
def za:aS:=⟨2,54,JI,[.tmp 4,.tmp 5]⟩
def Mx:Rg:=[iA 2 (.box true (Tm 0)),iA 3 (.box true (Tm 1)),iA 4 (.alloc [(.bool false),.aB,.aB]),iI 5 0]
def My:Rg:=[iO 15 3 2,iK 16 118 15,iA 17 (.un .not (Tm 16)),iM 18 17,gO 19 3 3 18 false,gK 20 118 19 18 false,iG 21 (.un .not (Tm 20)) 18 false,iQ 22 18 21]
def gd:Rg:=[iA 23 (.build [(.bool false),.aB,.aB] []),iS 3 4 23,iI 5 1]
def Mz:Rd:=[(iF 24 1 2,false),(iL 25 24,false),(iF 26 2 3,false),(iL 27 26,false),(iK2 28 121 25 27,true),(iF 29 1 3,true),(iL 30 29,true),(iF 31 2 2,true),(iL 32 31,true),(iK2 33 121 30 32,true),(iF 34 2 2,true),(iL 35 34,true),(iF 36 2 3,true),(iL 37 36,true),(iK2 38 121 35 37,true),(iM 6 28,false),(iM 7 33,false),(iM 8 38,false)]
def M0:Rg:=[iF 39 0 2,iL 40 39,iF 41 0 3,iL 42 41,iA 43 (.eqb false (Tm 40) (Tm 42))]
def M1:Rg:=[iM 45 6,iM 46 7,iK2 47 127 45 46,iM 44 47,iE 48 44 0,iE 49 44 1,iM 9 48,iM 10 49]
def M2:Rg:=[iF 50 0 2,iL 51 50,iM 52 9,iM 53 8,iA 54 (.call 120 [(Tm 51),(Tm 52),(Tm 53)]),iE 55 54 0,iE 56 54 1,iS 3 4 55,iM 5 56]
def M3:Rg:=[iM 57 6,iM 58 7,iK2 59 129 57 58,iC 60 .geq 59 0]
def M4:Rg:=[iM 62 6,iM 63 7,iK2 64 134 62 63,iM 61 64,iE 65 61 0,iE 66 61 1,iM 11 65,iM 12 66]
def M5:Rg:=[iF 67 0 2,iL 68 67,iM 69 11,iM 70 8,iA 71 (.call 120 [(Tm 68),(Tm 69),(Tm 70)]),iE 72 71 0,iE 73 71 1,iS 3 4 72,iM 5 73]
def y8:Rg:=[iM 75 7,iM 76 6,iK2 77 134 75 76,iM 74 77,iE 78 74 0,iE 79 74 1,iM 13 78,iM 14 79]
def y9:Rg:=[iF 80 0 3,iL 81 80,iM 82 13,iM 83 8,iA 84 (.call 120 [(Tm 81),(Tm 82),(Tm 83)]),iE 85 84 0,iE 86 84 1,iS 3 4 85,iM 5 86]
def JH:aA:=(sq Mx (.seq (sq My (.cond (Tm 22) (sq gd .ret) .skip)) (dq Mz (.seq (sq M0 (.cond (Tm 43) (sq M1 (sq M2 .ret)) .skip)) (.seq (sq M3 (.cond (Tm 60) (sq M4 (sq M5 .ret)) .skip)) (sq y8 (sq y9 .ret)))))))
def aAL:List Nat:=[2,3]
def JG:aS:=⟨2,87,JH,[.cell 4 (some 3),.tmp 5]⟩
def Nf:Rg:=[iA 2 (.alloc [(.bool false),.aB,.aB]),iI 3 0]
def Ng:Rg:=[iA 9 (.call 132 [(.const (.int .u64 1))]),iA 10 (.build [(.bool false),.aB,.aB] [(2,1,(Tm 9))]),iA 4 (.alloc [(.bool false),.aB,.aB]),iS 3 4 10]
def Nh:Rg:=[iM 11 0,iN 12 11,iI 13 0]
def Ni:Rg:=[iB 14 .lss 13 12]
def Nj:Rg:=[iX 15 3 11 13,iO 16 3 15,iA 6 (.alloc [(.bool false),.aB,.aB]),iS 3 6 16]
def Nk:Rg:=[iO 18 3 4,iO 19 3 6,iK2 20 113 18 19,iM 17 20,iE 21 17 0,iE 22 17 1,iA 7 (.alloc [(.bool false),.aB,.aB]),iS 3 7 21,iM 8 22]
def gj:Rg:=[iM 23 8,iC 24 .neq 23 0]
def Nl:Rg:=[iA 25 (.build [(.bool false),.aB,.aB] []),iM 26 8,iS 3 2 25,iM 3 26]
def Nm:Rg:=[iO 27 3 7,iS 3 4 27]
def Nn:Rg:=[iC 28 .add 13 1,iM 13 28]
def zm:aA:=(sq Ni (.seq (.cond (Tm 14) .skip (.exit 0)) (.seq (.block 1 (sq Nj (sq Nk (.seq (sq gj (.cond (Tm 24) (sq Nl .ret) .skip)) (.region Nm))))) (.region Nn))))
def SP:Rg:=[iO 29 3 4,iS 3 2 29,iI 3 0]
def JO:aA:=(sq Nf (sq Ng (.seq (sq Nh (.block 0 (.loop zm))) (sq SP .ret))))
def aAQ:List Nat:=[]
def SO:aS:=⟨1,30,JO,[.cell 2 (some 3),.tmp 3]⟩
theorem CoL.nil:CoL [] []:=.refl _
theorem CoL.cons {p q:PV} {ps R:List PV} (h:Co p q) (J:CoL ps R):CoL (p::ps) (q::R) :=
 ⟨by simp[J.len],fun j a b i l=>by
  cases j with
  | zero=>simp at i l; subst i; subst l; exact h
  | succ j=>exact J.at_ j a b (by simpa using i) (by simpa using l)⟩
theorem CoL.agg {ps i:List PV} (h:CoL ps i):Co (.agg ps) (.agg i):=.agg h.len h.at_
theorem CoL.tup {ps i:List PV} (h:CoL ps i):Co (.tup ps) (.tup i):=.tup h.len h.at_
structure oY (C:Ctx):Prop extends nO C where
 bits:∀ xs,Lim xs→xs.length≤35184372087808→aH C 128 [aG xs] .nil (aL (.int .i64 (cF (val xs):Nat)))
 add:∀ xs ys,Lim xs→Lim ys→xs.length≤35184372087808→ys.length≤35184372087808→aH C 127 [aG xs,aG ys] .nil (aL (opV (eN (val xs) (val ys)) (val xs+val ys)))
 sub:∀ xs ys,Lim xs→Lim ys→xs.length≤35184372087808→ys.length≤35184372087808→aH C 134 [aG xs,aG ys] .nil (aL (tT (val xs) (val ys)))
 mul:∀ xs ys,Lim xs→Lim ys→xs.length≤35184372087808→ys.length≤35184372087808→aH C 133 [aG xs,aG ys] .nil (aL (opV (eN (val xs) (val ys)) (val xs*val ys)))
 gcd:∀ xs ys,Lim xs→Lim ys→xs.length≤35184372087808→ys.length≤35184372087808→aH C 131 [aG xs,aG ys] .nil (aL (if eN (val xs) (val ys) then .tup [aG [],.int .i64 2] else .tup [aG (aI (aXJ (val xs) (val ys))),.int .i64 0]))
 div:∀ xs ys,Lim xs→Lim ys→xs.length≤35184372087808→ys.length≤35184372087808→aH C 130 [aG xs,aG ys] .nil (aL (lJ (val xs) (val ys)))
theorem jQ {a b:Nat} (i:nl a≤512) (l:nl b≤512):eN a b=false:=by
 simp[eN]; omega
theorem tG {a b m n:Nat} (i:nl a≤m) (l:nl b≤n):nl (a*b)≤m+n:=by
 rw[gQ] at i l ⊢;rw[Nat.pow_add];by_cases h:b=0
 ·subst h; exact Nat.mul_pos (a0A (by decide)) (a0A (by decide))
 ·calc a*b<4294967296 ^ m*b:=Nat.mul_lt_mul_of_pos_right i (aZU h)
   _≤4294967296 ^ m*4294967296 ^ n:=aZR _ (Nat.le_of_lt l)
theorem Gy {n:Nat} (h:nl n≤512):szV n=.tup [aG (aI n),.int .i64 0]:=by
 have:¬ nl n>512:=Om;simp[szV,szL,szE,this]
theorem mp {C:Ctx} (L:oY C) (a b:List Nat) (i:Lim a) (l:Lim b) (p:a.length≤35184372087808) (J:b.length≤35184372087808) (R:nl (val a)≤256) (U:nl (val b)≤256) :
  yU.wp C (aW JP.res (aL (aG (aI (val a*val b))))) (PF.args [aG a,aG b]) .nil:=by
 simp only[go_sem,yU,mq,mr,JP];refine aC (L.mul a b i l p J) rfl ?_;have:=tG R U;rw[jQ Om Om,opV,Gy Om];simp only[go_sem,mu];refine bV (.inr rfl) rfl ?_;rfl
abbrev fH (neg:Bool) (a b:List Nat):List PV:=[.bool neg,aG a,aG b]
theorem zn {C:Ctx} (L:oY C) (neg:Bool) (a b:List Nat) (i:Lim a) (l:a.length≤35184372087808) :
  DC.wp C (aW YR.res (aL (.bool (decide (val a=0))))) (PF.args [.agg (fH neg a b)]) .nil:=by
 simp only[go_sem,DC,zo,zp,YR];refine aC (L.bits a i l) rfl ?_;simp only[go_sem];refine bV (.inr rfl) rfl ?_;have:=@iY (val a);by_cases c:val a=0
 ·rw[bM Om,decide_eq_true c]; rfl
 ·rw[bF Om,decide_eq_false c]; rfl
def dJ (a b:Nat):Bool:=decide (0<cF b)&&decide (cF b≤4096)&&decide (cF a≤4096)
theorem mw {C:Ctx} (L:oY C) (neg:Bool) (a b:List Nat) (R:Lim a) (U:Lim b) (la:a.length≤35184372087808) (lb:b.length≤35184372087808) :
  yV.wp C (aW JQ.res (aL (.bool (dJ (val a) (val b))))) (PF.args [.agg (fH neg a b)]) .nil:=by
 simp only[go_sem,yV,my,mz,JQ];refine aC (L.bits b U lb) rfl ?_;by_cases p:0<cF (val b)
 ·have i:((cF (val b):Nat):Int)>0:=Om;by_cases J:cF (val b)≤4096
  ·have l:((cF (val b):Nat):Int)≤4096:=Om;simp only[go_sem,xM,i,l];refine aC (L.bits a R la) rfl ?_;simp only[go_sem];refine bV (.inr rfl) rfl ?_;show PV.bool (decide _)=_;rw[dJ,decide_eq_true p,decide_eq_true J,aYE,aYE];congr 1;rw[decide_eq_decide];omega
  ·have l:¬ ((cF (val b):Nat):Int)≤4096:=Om;simp only[go_sem,xM,i,l];refine bV (.inr rfl) rfl ?_;show PV.bool _=_;simp[dJ,p,J]
 ·have i:¬ ((cF (val b):Nat):Int)>0:=Om;simp only[go_sem,xM,i];refine bV (.inr rfl) rfl ?_;show PV.bool _=_;simp[dJ,p]
theorem Mr {C:Ctx} (L:oY C) (v:Int) (i:-9223372036854775808≤v) (l:v≤9223372036854775807) :
  JF.wp C (aW y7.res (aL (aG (aI v.natAbs)))) (PF.args [.int .i64 v]) .nil:=by
 simp only[go_sem,JF,Ms,Mt,y7];by_cases c:v<0
 ·have e:IntKind.u64.wrap (0-IntKind.u64.wrap v)=(v.natAbs:Int):=by rw[fE,fE]; omega
  simp only[go_sem,c,Mu,e];refine aC (L.make v.natAbs Om) rfl ?_;simp only[go_sem];refine bV (.inr rfl) rfl ?_;rfl
 ·have e:IntKind.u64.wrap v=(v.natAbs:Int):=by rw[fE]; omega
  simp only[go_sem,c,Mv,e];refine aC (L.make v.natAbs Om) rfl ?_;simp only[go_sem];refine bV (.inr rfl) rfl ?_;rfl
abbrev xL (e:Int):PV:=.tup [.agg (fH false [] []),.int .i64 e]
abbrev T0 (neg:Bool) (a b:Nat):PV:=.tup [.agg (fH neg (aI a) (aI b)),.int .i64 0]
def EE (neg:Bool) (a b:Nat):PV :=
 if cF (a/aXJ a b)>4096∨cF (b/aXJ a b)>4096 then xL 2 else T0 (neg&&decide (a/aXJ a b≠0)) (a/aXJ a b) (b/aXJ a b)
theorem mD {res:List dN} {F:PF} {H:PH} {e:Int} (h:dN.evs F H res=some [.agg [.bool false,.aB,.aB],.int .i64 e]):aW res (cG (xL e)) .ret F H :=
 bB (.inr rfl) .nil h PH.nil_le ⟨CoL.tup (.cons (CoL.agg (.cons (.refl _) (.cons (.nil 1) (.cons (.nil 1) .nil)))) (.cons (.refl _) .nil)),rfl⟩
theorem wu {n:Nat}:cF n>1↔n>1:=by
 have:=kP n 1;omega
theorem cd {a n:Nat} (g:Nat) (h:nl a≤n):nl (a/g)≤n:=aZD (hC (a0F _ _)) h
theorem JM {C:Ctx} (L:oY C) (neg:Bool) (a b:List Nat) (J:Lim a) (U:Lim b) (R:a.length≤35184372087808) (lb:b.length≤35184372087808) (o:Nat) (F:PF) (H:PH)
  (f0:F 0=some (.bool neg)) (f1:F 1=some (aG a)) (f2:F 2=some (aG b)) (f6:F 6=some (.ptr o 3 0 0)) (f7:F 7=some (.int .i64 0)) (i:H o=some (.rows 3 [[.bool false,.aB,.aB]])) :
  aA.wp C (.seq (.seq (.region CX) (.cond (.tmp 40) (.seq (.region uD) .ret) .skip)) (.seq (.region CY) .ret)) (aW oC.res (cG (if cF (val a)>4096∨cF (val b)>4096 then xL 2 else T0 (neg&&decide (val a≠0)) (val a) (val b)))) F H:=by
 have fin:∀ (r:List (List PV)) F H,F 6=some (.ptr o 3 0 0)→F 7=some (.int .i64 2)→H o=some (.rows 3 [[.bool false,.aB,.aB]])→aW oC.res (cG (xL 2)) .ret F H:=by intro r F H h6 h7 h;refine mD ?_;simp only[go_sem,oC,h6,h7,h]
 simp only[go_sem,CX,f1];refine aC (L.bits a J R) rfl ?_;by_cases c1:cF (val a)>4096
 ·have l:((cF (val a):Nat):Int)>4096:=Om;rw[if_pos (.inl c1)];simp only[go_sem,l,uD,f6,i];exact fin [] _ _ (by simp only[go_sem,f6]) rfl Sq
 ·have l:¬ ((cF (val a):Nat):Int)>4096:=Om;simp only[go_sem,l,f2];refine aC (L.bits b U lb) rfl ?_;by_cases c2:cF (val b)>4096
  ·have p:((cF (val b):Nat):Int)>4096:=Om;rw[if_pos (.inr c2)];simp only[go_sem,p,uD,f6,i];exact fin [] _ _ (by simp only[go_sem,f6]) rfl Sq
  ·have p:¬ ((cF (val b):Nat):Int)>4096:=Om;rw[if_neg Om];have last:∀ F:PF,F 1=some (aG a)→F 2=some (aG b)→F 6=some (.ptr o 3 0 0)→∀ (q:Bool),q=(neg&&decide (val a≠0))→F 47=some (.bool q) →
     True:=fun _ _ _ _ _ _ _=>trivial
   simp only[go_sem,p,CY,f0,f1,f2,f6,i];cases neg with
   | false =>simp only[go_sem,f0,f1,f2,f6,i];refine aC (L.trim a J R) rfl ?_;simp only[go_sem,f0,f1,f2,f6,i];refine aC (L.trim b U lb) rfl ?_;simp only[go_sem,f0,f1,f2,f6,i,aXV];refine bB (.inr rfl) .nil (vs:=[.agg (fH false (aI (val a)) (aI (val b))),.int .i64 0]) ?_ PH.nil_le ⟨.refl _,rfl⟩;simp only[go_sem,oC,f6,i]
   | true =>
    simp only[go_sem,f0,f1,f2,f6,i];refine aC (L.bits a J R) rfl ?_;have e:decide (((cF (val a):Nat):Int)>0)=decide (val a≠0):=by have:=@iY (val a);rw[decide_eq_decide]; omega
    simp only[go_sem,f0,f1,f2,f6,i,e];refine aC (L.trim a J R) rfl ?_;simp only[go_sem,f0,f1,f2,f6,i];refine aC (L.trim b U lb) rfl ?_;simp only[go_sem,f0,f1,f2,f6,i,aYE];refine bB (.inr rfl) .nil (vs:=[.agg (fH (decide (val a≠0)) (aI (val a)) (aI (val b))),.int .i64 0]) ?_ PH.nil_le ⟨.refl _,rfl⟩;simp only[go_sem,oC,f6,i]
theorem YE {C:Ctx} (L:oY C) (neg:Bool) (a b:List Nat) (U:Lim a) (hb:Lim b) (la:a.length≤35184372087808) (lb:b.length≤35184372087808) (na:nl (val a)≤512) (J:nl (val b)≤512) (h0:val b≠0) :
  wE.wp C (aW oC.res (cG (EE neg (val a) (val b)))) (PF.args [.bool neg,aG a,aG b]) .nil:=by
 simp only[go_sem,wE,YF,YG];refine aT fun o ho=>?_;simp only[go_sem];refine aC (L.gcd a b U hb la lb) rfl ?_;rw[jQ na J];simp only[go_sem,YH];have l:aXJ (val a) (val b)≠0:=by intro h; exact h0 (Nat.gcd_eq_zero_iff.1 h).2
 have p:nl (aXJ (val a) (val b))≤512:=aZD (hC (Nat.gcd_le_right _ (aZU h0))) J;have i:(aI (aXJ (val a) (val b))).length≤35184372087808:=by rw[bH]; omega
 refine aC (L.bits _ (bC _) i) rfl ?_;rw[aY];by_cases c:aXJ (val a) (val b)>1
 ·have R:((cF (aXJ (val a) (val b)):Nat):Int)>1:=by have:=wu.2 c; omega
  simp only[go_sem,R,YI];refine aC (L.div a _ U (bC _) la i) rfl ?_;rw[aY,lJ,jQ na p,if_neg (by decide),if_neg l];simp only[go_sem,YJ];refine aC (L.div b _ hb (bC _) lb i) rfl ?_;rw[aY,lJ,jQ J p,if_neg (by decide),if_neg l];simp only[go_sem];have:=JM L neg (aI (val a/aXJ (val a) (val b))) (aI (val b/aXJ (val a) (val b))) (bC _) (bC _) (by rw[bH]; have:=cd (aXJ (val a) (val b)) na; omega) (by rw[bH]; have:=cd (aXJ (val a) (val b)) J; omega) o;rw[aY,aY] at this;have:=fun F H=>this F H;simp only[aA.wp,go_sem] at this;exact this _ _ rfl rfl rfl rfl rfl Sq
 ·have R:¬ ((cF (aXJ (val a) (val b)):Nat):Int)>1:=by have:=(@wu (aXJ (val a) (val b))); omega
  have e1:aXJ (val a) (val b)=1:=Om;simp only[go_sem,R];rw[EE,e1,Nat.div_one,Nat.div_one];have:=JM L neg a b U hb la lb o;simp only[aA.wp,go_sem] at this;exact this _ _ rfl rfl rfl rfl rfl Sq
structure xA (C:Ctx):Prop extends oY C where
 times:∀ a b,Lim a→Lim b→a.length≤35184372087808→b.length≤35184372087808→nl (val a)≤256→nl (val b)≤256→aH C 121 [aG a,aG b] .nil (aL (aG (aI (val a*val b))))
 zero:∀ neg a b,Lim a→a.length≤35184372087808→aH C 122 [.agg (fH neg a b)] .nil (aL (.bool (decide (val a=0))))
 valid:∀ neg a b,Lim a→Lim b→a.length≤35184372087808→b.length≤35184372087808→aH C 118 [.agg (fH neg a b)] .nil (aL (.bool (dJ (val a) (val b))))
 abs:∀ v:Int,-9223372036854775808≤v→v≤9223372036854775807→aH C 119 [.int .i64 v] .nil (aL (aG (aI v.natAbs)))
 lowest:∀ neg a b,Lim a→Lim b→a.length≤35184372087808→b.length≤35184372087808→nl (val a)≤512→nl (val b)≤512→val b≠0→aH C 120 [.bool neg,aG a,aG b] .nil (aL (EE neg (val a) (val b)))
def ZK (n d:Int):PV:=if d=0 then xL 3 else EE (decide (n<0) != decide (d<0)) n.natAbs d.natAbs
theorem nI {n k:Nat} (h:n<4294967296 ^ k):nl n≤k:=(gQ _ _).2 h
theorem C5 (neg:Bool) (a b:Nat):∃ i x y e,EE neg a b=.tup [.agg (fH i x y),.int .i64 e]:=by
 unfold EE;split
 ·exact⟨_,_,_,_,rfl⟩
 ·exact⟨_,_,_,_,rfl⟩
theorem zg {C:Ctx} (L:xA C) (n d:Int) (l:-9223372036854775808≤n) (p:n≤9223372036854775807) (J:-9223372036854775808≤d) (R:d≤9223372036854775807) :
  CZ.wp C (aW OJ.res (cG (ZK n d))) (PF.args [.int .i64 n,.int .i64 d]) .nil:=by
 simp only[go_sem,CZ,zh,zi];refine aT fun o ho=>?_;unfold ZK;by_cases c:d=0
 ·subst c;simp only[go_sem,zj];refine mD ?_;simp only[go_sem,OJ]
 ·rw[if_neg c];simp only[go_sem,bF c,zk];refine aC (L.abs n l p) rfl ?_;simp only[go_sem];refine aC (L.abs d J R) rfl ?_;simp only[go_sem];have n1:nl n.natAbs≤2:=nI Om;have n2:nl d.natAbs≤2:=nI Om;have low:=L.lowest (decide (n<0) != decide (d<0)) (aI n.natAbs) (aI d.natAbs) (bC _) (bC _) (by rw[bH]; omega) (by rw[bH]; omega);rw[aY,aY] at low;have low:=low Om Om Om;refine aC low rfl ?_;obtain⟨i,x,y,e,U⟩:=C5 (decide (n<0) != decide (d<0)) n.natAbs d.natAbs;rw[U];simp only[go_sem];exact bB (.inr rfl) .nil (vs:=[.agg (fH i x y),.int .i64 e]) (by simp only[go_sem,OJ]) PH.nil_le ⟨.refl _,rfl⟩
theorem lE {a b:Nat}:dJ a b=true↔b≠0∧nl b≤128∧nl a≤128:=by
 have i:=pX b 128;have l:=pX a 128;have p:=@iY b;simp only[dJ,aYB,decide_eq_true_eq];omega
def PB (neg:Bool) (a b:Nat):PV:=if dJ a b then EE neg a b else xL 1
theorem YK {C:Ctx} (L:xA C) (neg:Bool) (a b:List Nat) (l:Lim a) (p:Lim b) (J:a.length≤35184372087808) (R:b.length≤35184372087808) :
  wF.wp C (aW vE.res (cG (PB neg (val a) (val b)))) (PF.args [.agg (fH neg a b)]) .nil:=by
 simp only[go_sem,wF,YL,YM];refine aT fun o ho=>?_;simp only[go_sem];refine aC (L.valid neg a b l p J R) rfl ?_;unfold PB;cases hv:dJ (val a) (val b) with
 | false =>simp only[go_sem,YN,aYJ];refine mD ?_;simp only[go_sem,vE]
 | true =>obtain⟨v1,v2,v3⟩:=lE.1 hv;simp only[go_sem,YO,aXW];refine aC (L.lowest neg a b l p J R Om Om v1) rfl ?_;obtain⟨i,x,y,e,U⟩:=C5 neg (val a) (val b);rw[U];simp only[go_sem];exact bB (.inr rfl) .nil (vs:=[.agg (fH i x y),.int .i64 e]) (by simp only[go_sem,vE]) PH.nil_le ⟨.refl _,rfl⟩
def tQ (i:Bool) (a1 b1:Nat) (l:Bool) (a2 b2:Nat):Int :=
 match i&&decide (a1≠0),l&&decide (a2≠0) with
 | true,true=>- dW (a1*b2) (a2*b1)
 | true,false=>-1
 | false,true=>1
 | false,false=>dW (a1*b2) (a2*b1)
def xK (i:Bool) (a1 b1:Nat) (l:Bool) (a2 b2:Nat):PV :=
 if dJ a1 b1&&dJ a2 b2 then .tup [.int .i64 (tQ i a1 b1 l a2 b2),.int .i64 0] else .tup [.int .i64 0,.int .i64 1]
def fr1:PV→List Nat
 | .agg [_,a,_]=>kC a
 | _=>[]
def frS:Spec:=fun name vs=>match name,vs with
 | 121,[x,y]=>some ([],fun _=>aL (aG (aI (val (kC x)*val (kC y)))))
 | 129,[x,y]=>some ([],fun _=>aL (.int .i64 (dW (val (kC x)) (val (kC y)))))
 | 122,[x]=>some ([],fun _=>aL (.bool (decide (val (fr1 x)=0))))
 | _,_=>none
theorem sZ (a b:List Nat):frS 121 [aG a,aG b]=some ([],fun _=>aL (aG (aI (val a*val b)))):=by
 show some _=_; rw[eP,eP]
theorem aAO (a b:List Nat):frS 129 [aG a,aG b]=some ([],fun _=>aL (.int .i64 (dW (val a) (val b)))):=by
 show some _=_; rw[eP,eP]
theorem SM (neg:Bool) (a b:List Nat):frS 122 [.agg (fH neg a b)]=some ([],fun _=>aL (.bool (decide (val a=0)))):=by
 show some _=_; rw[fr1,eP]
theorem apR (a b:Nat):IntKind.i64.wrap (0-dW a b)=- dW a b:=by
 unfold dW; split
 ·rfl
 ·split<;>rfl
theorem M6 {C:Ctx} (L:xA C) (U R:Bool) (a1 b1 a2 b2:List Nat) (p:Lim a1) (α:Lim b1) (i:Lim a2) (β:Lim b2)
  (J:a1.length≤35184372087808) (γ:b1.length≤35184372087808) (l:a2.length≤35184372087808) (δ:b2.length≤35184372087808) :
  JI.wp C (aW za.res (cG (xK U (val a1) (val b1) R (val a2) (val b2)))) (PF.args [.agg (fH U a1 b1),.agg (fH R a2 b2)]) .nil:=by
 simp only[go_sem,JI,M7,M8];refine aC (L.valid U a1 b1 p α J γ) rfl ?_;unfold xK;cases hv:dJ (val a1) (val b1) with
 | false =>simp only[go_sem,aYJ,ge,aXV];exact bB (.inr rfl) .nil (vs:=[.int .i64 0,.int .i64 1]) rfl PH.nil_le ⟨.refl _,rfl⟩
 | true =>
  obtain⟨v1,v2,v3⟩:=lE.1 hv;simp only[go_sem,aXW];refine aC (L.valid R a2 b2 i β l δ) rfl ?_;cases hw:dJ (val a2) (val b2) with
  | false =>simp only[go_sem,aYJ,ge,aYY];exact bB (.inr rfl) .nil (vs:=[.int .i64 0,.int .i64 1]) rfl PH.nil_le ⟨.refl _,rfl⟩
  | true =>
   obtain⟨w1,w2,w3⟩:=lE.1 hw;simp only[go_sem,aXW,a0B];refine cJ .nil frS PH.nil_le ?_;simp only[go_sem,M9];refine cW (sZ a1 b2) (L.times a1 b2 p β J δ Om Om) rfl PH.nil_le ?_;simp only[go_sem];refine cW (sZ a2 b1) (L.times a2 b1 i α l γ Om Om) rfl PH.nil_le ?_;simp only[go_sem];have m1:=tG v3 w2;have m2:=tG w3 v2;have hc:=L.cmp (aI (val a1*val b2)) (aI (val a2*val b1)) (bC _) (bC _) (by rw[bH]; omega) (by rw[bH]; omega);have hs:=aAO (aI (val a1*val b2)) (aI (val a2*val b1));rw[aY,aY] at hc hs;refine cW hs hc rfl PH.nil_le ?_;simp only[go_sem];refine cJ .nil frS PH.nil_le ?_;have z1:(!decide (val a1=0))=decide (val a1≠0):=by by_cases h:val a1=0<;>simp[h]
   have z2:(!decide (val a2=0))=decide (val a2≠0):=by by_cases h:val a2=0<;>simp[h]
   have fin:∀ (F:PF) (A B:Bool),F 6=some (.int .i64 (dW (val a1*val b2) (val a2*val b1)))→F 7=some (.bool A)→F 8=some (.bool B)→A=(U&&decide (val a1≠0))→B=(R&&decide (val a2≠0)) →
     aA.wp C (.seq (.block 0 (.seq (.region vD) (.cond (.tmp 42) (.seq (.region gf) .ret) (.seq (.region AX) (.cond (.tmp 49) (.seq (.region gh) .ret) (.seq (.region OI) (.cond (.tmp 51) (.seq (.region SK) .ret) .skip))))))) (.seq (.region SL) .ret)) (aW za.res (cG (.tup [.int .i64 (tQ U (val a1) (val b1) R (val a2) (val b2)),.int .i64 0]))) F .nil:=by
    intro F A B f6 f7 f8 hA hB;rw[tQ,← hA,← hB];cases A<;>cases B
    ·simp only[go_sem,vD,AX,OI,SL,f6,f7,f8];exact bB (.inr rfl) .nil rfl PH.nil_le ⟨.refl _,rfl⟩
    ·simp only[go_sem,vD,AX,OI,SK,f6,f7,f8];exact bB (.inr rfl) .nil rfl PH.nil_le ⟨.refl _,rfl⟩
    ·simp only[go_sem,vD,AX,gh,f6,f7,f8];exact bB (.inr rfl) .nil rfl PH.nil_le ⟨.refl _,rfl⟩
    ·simp only[go_sem,vD,gf,f6,f7,f8,apR];exact bB (.inr rfl) .nil rfl PH.nil_le ⟨.refl _,rfl⟩
   simp only[aA.wp,go_sem] at fin;simp only[go_sem,Nb];cases U with
   | false =>
    simp only[go_sem];cases R with
    | false =>simp only[go_sem];exact fin _ false false rfl rfl rfl rfl rfl
    | true =>simp only[go_sem];refine cW (SM true a2 b2) (L.zero true a2 b2 i l) rfl PH.nil_le ?_;simp only[go_sem,z2];exact fin _ false (decide (val a2≠0)) rfl rfl rfl rfl (by rw[aYE])
   | true =>
    simp only[go_sem];refine cW (SM true a1 b1) (L.zero true a1 b1 p J) rfl PH.nil_le ?_;simp only[go_sem,z1];cases R with
    | false =>simp only[go_sem];exact fin _ (decide (val a1≠0)) false rfl rfl rfl (by rw[aYE]) rfl
    | true =>simp only[go_sem];refine cW (SM true a2 b2) (L.zero true a2 b2 i l) rfl PH.nil_le ?_;simp only[go_sem,z2];exact fin _ (decide (val a1≠0)) (decide (val a2≠0)) rfl rfl rfl (by rw[aYE]) (by rw[aYE])
abbrev FV:=Bool × Nat × Nat
abbrev FR:=Except Int FV
def jS (neg:Bool) (a b:Nat):FR :=
 if cF (a/aXJ a b)>4096∨cF (b/aXJ a b)>4096 then .error 2 else .ok (neg&&decide (a/aXJ a b≠0),a/aXJ a b,b/aXJ a b)
def frV:FR→PV
 | .ok (n,a,b)=>T0 n a b
 | .error e=>xL e
theorem ic (neg:Bool) (a b:Nat):EE neg a b=frV (jS neg a b):=by
 unfold EE jS;split<;>rfl
def iW:FV→FV→FR
 | (i,a1,b1),(l,a2,b2)=>if dJ a1 b1&&dJ a2 b2 then
   (if i=l then jS i (a1*b2+a2*b1) (b1*b2) else if a2*b1≤a1*b2 then jS i (a1*b2-a2*b1) (b1*b2) else jS l (a2*b1-a1*b2) (b1*b2))
  else .error 1
theorem aJQ {a b m:Nat} (i:nl a≤m) (l:nl b≤m):nl (a+b)≤m+1:=by
 rw[gQ] at i l ⊢;rw[aZB]; omega
theorem Ml (a b:Nat):(dW a b≥0)↔b≤a:=by
 unfold dW;split
 ·constructor
  ·intro h; exact absurd h (by decide)
  ·intro h; omega
 ·split
  ·constructor
   ·intro h; omega
   ·intro h; decide
  ·constructor
   ·intro h; omega
   ·intro h; decide
theorem OK (r:FR):∃ i x y e,frV r=.tup [.agg (fH i x y),.int .i64 e]:=by
 rcases r with e | ⟨n,a,b⟩
 ·exact⟨_,_,_,_,rfl⟩
 ·exact⟨_,_,_,_,rfl⟩
theorem Mw {C:Ctx} (L:xA C) (l J:Bool) (a1 b1 a2 b2:List Nat) (ε:Lim a1) (α:Lim b1) (ζ:Lim a2) (β:Lim b2)
  (η:a1.length≤35184372087808) (γ:b1.length≤35184372087808) (θ:a2.length≤35184372087808) (δ:b2.length≤35184372087808) :
  JH.wp C (aW JG.res (cG (frV (iW (l,val a1,val b1) (J,val a2,val b2))))) (PF.args [.agg (fH l a1 b1),.agg (fH J a2 b2)]) .nil:=by
 simp only[go_sem,JH,Mx];refine aT fun o ho=>?_;simp only[go_sem,My];refine aC (L.valid l a1 b1 ε α η γ) rfl ?_;simp only[iW];cases hv:dJ (val a1) (val b1) with
 | false =>simp only[go_sem,aYJ,gd,aXV];refine mD ?_;simp only[go_sem,JG]
 | true =>
  obtain⟨v1,v2,v3⟩:=lE.1 hv;simp only[go_sem,aXW];refine aC (L.valid J a2 b2 ζ β θ δ) rfl ?_;cases hw:dJ (val a2) (val b2) with
  | false =>simp only[go_sem,aYJ,gd,aYY];refine mD ?_;simp only[go_sem,JG]
  | true =>
   obtain⟨w1,w2,w3⟩:=lE.1 hw;simp only[go_sem,aXW,a0B];refine cJ .nil frS PH.nil_le ?_;simp only[go_sem,Mz];refine cW (sZ a1 b2) (L.times a1 b2 ε β η δ Om Om) rfl PH.nil_le ?_;simp only[go_sem];refine cW (sZ a2 b1) (L.times a2 b1 ζ α θ γ Om Om) rfl PH.nil_le ?_;simp only[go_sem];refine cW (sZ b1 b2) (L.times b1 b2 α β γ δ Om Om) rfl PH.nil_le ?_;simp only[go_sem];have m1:=tG v3 w2;have m2:=tG w3 v2;have m3:=tG v2 w2;have d0:val b1*val b2≠0:=Nat.mul_ne_zero v1 w1;generalize hA:val a1*val b2=A at *
   generalize hB:val a2*val b1=B at *
   generalize hD:val b1*val b2=D at *
   have fin:∀ (F:PF) (H:PH) (r:FR),(∃ i x y e,frV r=.tup [.agg (fH i x y),.int .i64 e]∧F 4=some (.ptr o 3 0 0)∧F 5=some (.int .i64 e)∧H o=some (.rows 3 [fH i x y]))→aW JG.res (cG (frV r)) .ret F H:=by rintro F H r ⟨i,x,y,e,he,f4,f5,hH⟩;rw[he];exact bB (.inr rfl) .nil (vs:=[.agg (fH i x y),.int .i64 e]) (by simp only[go_sem,JG,f4,f5,hH]) PH.nil_le ⟨.refl _,rfl⟩
   have eb:(l==J)=decide (l=J):=by cases l<;>cases J<;>rfl
   have low:∀ neg x,nl x≤257→aH C 120 [.bool neg,aG (aI x),aG (aI D)] .nil (aL (frV (jS neg x D))):=by
    intro neg x hx;have h1:(aI x).length≤35184372087808:=by rw[bH]; omega
    have h2:(aI D).length≤35184372087808:=by rw[bH]; omega
    have:=L.lowest neg (aI x) (aI D) (bC _) (bC _) h1 h2;rw[aY,aY,ic] at this;exact this Om Om d0
   have lA:(aI A).length≤35184372087808:=by rw[bH]; omega
   have lB:(aI B).length≤35184372087808:=by rw[bH]; omega
   simp only[go_sem,M0];by_cases c:l=J
   ·rw[if_pos c];have c':(l==J)=true:=by rw[eb,decide_eq_true c]
    simp only[go_sem,c',M1];have R:=L.add (aI A) (aI B) (bC _) (bC _) lA lB;have ι:=aJQ m1 m2;rw[aY,aY,jQ Om Om,opV,Gy Om] at R;refine aC R rfl ?_;simp only[go_sem,M2];refine aC (low l _ Om) rfl ?_;obtain⟨i,x,y,e,p⟩:=OK (jS l (A+B) D);rw[p];simp only[go_sem];rw[← p];exact fin _ _ _ ⟨i,x,y,e,p,by simp only[go_sem],by simp only[go_sem],by simp only[go_sem]⟩
   ·rw[if_neg c];have c':(l==J)=false:=by rw[eb,decide_eq_false c]
    simp only[go_sem,c',M3];have hc:=L.cmp (aI A) (aI B) (bC _) (bC _) lA lB;rw[aY,aY] at hc;refine aC hc rfl ?_;have U:∀ X Y:Nat,nl X≤256→nl Y≤256→Y≤X→aH C 134 [aG (aI X),aG (aI Y)] .nil (aL (.tup [aG (aI (X-Y)),.int .i64 0])):=by intro X Y h1 h2 h;have:=L.sub (aI X) (aI Y) (bC _) (bC _) (by rw[bH]; omega) (by rw[bH]; omega);have h3:=hC (Om:X-Y≤X);rw[aY,aY,tT,jQ Om Om,if_neg (by decide),if_neg Om,Gy Om] at this;exact this
    by_cases g:B≤A
    ·have g':dW A B≥0:=(Ml A B).2 g;rw[if_pos g];simp only[go_sem,g',M4];refine aC (U A B Om Om g) rfl ?_;simp only[go_sem,M5];have h3:=hC (Om:A-B≤A);refine aC (low l (A-B) Om) rfl ?_;obtain⟨i,x,y,e,p⟩:=OK (jS l (A-B) D);rw[p];simp only[go_sem];rw[← p];exact fin _ _ _ ⟨i,x,y,e,p,by simp only[go_sem],by simp only[go_sem],by simp only[go_sem]⟩
    ·have g':¬ dW A B≥0:=fun h=>g ((Ml A B).1 h);rw[if_neg g];simp only[go_sem,g',y8];refine aC (U B A Om Om Om) rfl ?_;simp only[go_sem,y9];have h3:=hC (Om:B-A≤B);refine aC (low J (B-A) Om) rfl ?_;obtain⟨i,x,y,e,p⟩:=OK (jS J (B-A) D);rw[p];simp only[go_sem];rw[← p];exact fin _ _ _ ⟨i,x,y,e,p,by simp only[go_sem],by simp only[go_sem],by simp only[go_sem]⟩
structure RF where
 neg:Bool
 num:List Nat
 den:List Nat
abbrev RF.cells (x:RF):List PV:=fH x.neg x.num x.den
def RF.Ok (x:RF):Prop:=Lim x.num∧Lim x.den∧x.num.length≤35184372087808∧x.den.length≤35184372087808
def RF.v (x:RF):FV:=(x.neg,val x.num,val x.den)
abbrev frs (l:List RF):PV:=.sl 3 (l.map RF.cells)
def FV.rf:FV→RF
 | (n,a,b)=>⟨n,aI a,aI b⟩
def FV.Small:FV→Prop
 | (_,a,b)=>nl a≤900000∧nl b≤900000
theorem FV.aTT (x:FV):x.rf.v=x:=by
 obtain⟨n,a,b⟩:=x;show (n,val (aI a),val (aI b))=_;rw[aY,aY]
def oW (l:List FV):FR:=l.foldlM iW (false,0,1)
theorem rA {neg:Bool} {a b:Nat} {r:FV} (h:jS neg a b=.ok r):r.Small∧r.rf.Ok:=by
 unfold jS at h;split at h
 ·cases h
 ·rename_i p;have i:=(pX (a/aXJ a b) 128).1 Om;have l:=(pX (b/aXJ a b) 128).1 Om;injection h with h
  subst h;refine⟨⟨by omega,by omega⟩,bC _,bC _,?_,?_⟩
  ·show (aI _).length≤_;rw[bH]; omega
  ·show (aI _).length≤_;rw[bH]; omega
theorem L0 {x y r:FV} (h:iW x y=.ok r):r.rf.Ok:=by
 obtain⟨i,a1,b1⟩:=x;obtain⟨l,a2,b2⟩:=y;simp only[iW] at h;split at h
 ·split at h
  ·exact (rA h).2
  ·split at h
   ·exact (rA h).2
   ·exact (rA h).2
 ·cases h
theorem Jj {α β:Type} {f:β→α→Except Int β} (l:List α) (b:β) {k:Nat} (h:k<l.length):(l.take (k+1)).foldlM f b=((l.take k).foldlM f b).bind fun x=>f x l[k]:=by
 rw[aZT h,List.foldlM_append];cases (l.take k).foldlM f b with
 | error e=>rfl
 | ok x =>show ([l[k]]:List α).foldlM f x=f x l[k];rw[List.foldlM_cons];cases f x l[k]<;>rfl
theorem Tx {α β:Type} {f:β→α→Except Int β} (l:List α) (b:β) {k:Nat} {e:Int} (h:(l.take k).foldlM f b=.error e):l.foldlM f b=.error e:=by
 conv=>lhs; rw[← a0E k l,List.foldlM_append,h]
 rfl
def auQ (l:List RF) (o2 o4:Nat) (k:Nat):PF:=((((((PF.nil.set 2 (.ptr o2 3 0 0)).set 3 (.int .i64 0)).set 4 (.ptr o4 3 0 0)).set 11 (frs l)).set 12 (.int .i64 (l.length:Nat))).set 13 (.int .i64 k))
def VD (o2 o4:Nat) (c:List PV):PH:=(PH.nil.set o2 (.rows 3 [[.bool false,.aB,.aB]])).set o4 (.rows 3 [c])
theorem Nd {C:Ctx} (L:xA C) (μ:∀ x y:RF,x.Ok→y.Ok→aH C 113 [.agg x.cells,.agg y.cells] .nil (aL (frV (iW x.v y.v)))) (l:List RF) (hl:∀ x∈l,x.Ok) (ο:l.length≤9223372036854775807) :
  JO.wp C (aW SO.res (cG (frV (oW (l.map RF.v))))) (PF.args [frs l]) .nil:=by
 simp only[go_sem,JO,Nf];refine aT fun o2 ρ=>?_;simp only[go_sem,Ng];refine aC (L.make 1 (by decide)) rfl ?_;simp only[go_sem];refine aT fun o4 ν=>?_;have J:o4≠o2:=by rintro rfl; simp only[aQ,if_true] at ν; cases ν
 have i:o2≠o4:=Ne.symm J;simp only[go_sem,Nh];refine wp_loop (α:=Nat × FV × PV) (fun t=>auQ l o2 o4 t.1) (fun t=>VD o2 o4 [.bool t.2.1.1,t.2.2,aG (aI t.2.1.2.2)]) (fun t=>t.1≤l.length∧((l.map RF.v).take t.1).foldlM iW (false,0,1)=.ok t.2.1∧(t.2.2=.aB∧t.2.1.2.1=0∨t.2.2=aG (aI t.2.1.2.1))∧(FV.rf t.2.1).Ok) (fun t=>l.length-t.1)
  (0,(false,0,1),.aB) ⟨aXU _,rfl,.inl ⟨rfl,rfl⟩,⟨bC _,bC _,?_,?_⟩⟩ ?_ ?_ ?_
 ·show (aI 0).length≤_;rw[fJ]; simp
 ·show (aI 1).length≤_;rw[mL (by decide) (by decide)]; simp
 ·unfold auQ
  (repeat' (first|exact PF.nil_le|refine PF.aJ ?_ ?_))<;>first|(simp only[go_sem,aXI]<;>rfl)|rfl
 ·unfold VD;exact PH.aJ (PH.aJ PH.nil_le (by simp only[go_sem,i,J])) (by simp only[go_sem,i,J])
 rintro⟨k,⟨an,aa,ab⟩,cy⟩ ⟨hk,hf,κ,η⟩;simp only at hk hf κ η ⊢;have θ:CoL [.bool an,cy,aG (aI ab)] (FV.rf (an,aa,ab)).cells:=by
  refine .cons (.refl _) (.cons ?_ (.cons (.refl _) .nil));rcases κ with ⟨rfl,rfl⟩ | rfl
  ·show Co .aB (aG (aI 0));rw[fJ]; exact .nil 1
  ·exact .refl _
 simp only[go_sem,zm,Ni,auQ];by_cases hlt:k<l.length
 ·have β:(k:Int)<(l.length:Nat):=Om;have hr:(l.map RF.cells)[k]?=some (l[k]).cells:=by simp[hlt]
  simp only[go_sem,β,Nj,hr];refine aT fun o6 ε=>?_;have γ:o4≠o6:=by rintro rfl; simp only[VD,aQ,if_true] at ε; cases ε
  have U:o2≠o6:=by rintro rfl; simp only[VD,aQ,if_true,if_neg i] at ε; cases ε
  simp only[go_sem,Nk,VD,γ,U,J,i];refine aC ((μ (FV.rf (an,aa,ab)) l[k] η (hl _ (aXM hlt))).args (.cons (CoL.agg θ) (.cons (.refl _) .nil))) rfl ?_;rw[FV.aTT];have p:=Jj (f:=iW) (l.map RF.v) (false,0,1) (k:=k) (by simpa using hlt);rw[hf] at p;simp only[Except.bind,aZH] at p;cases he:iW (an,aa,ab) (l[k]).v with
  | error e =>
   simp only[go_sem,frV];refine aT fun o7 R=>?_;have ξ:e≠0:=by
    revert he;obtain⟨n2,a2,b2⟩:=(l[k]).v;simp only[iW,jS]
    repeat' split
    all_goals (intro h; first | (injection h with h; subst h; decide) | cases h)
   have δ:o2≠o7:=by rintro rfl; simp only[aQ,U,i,if_true,if_false] at R; cases R
   simp only[go_sem,gj,eT ξ,Nl,δ,U,i];rw[he] at p;rw[oW,Tx _ _ p];refine mD ?_;simp only[go_sem,SO]
  | ok r =>
   obtain⟨rn,ra,rb⟩:=r;simp only[go_sem,frV];refine aT fun o7 R=>?_;have ζ:o4≠o7:=by rintro rfl; simp only[aQ,γ,if_true,if_false] at R; cases R
   have δ:o2≠o7:=by rintro rfl; simp only[aQ,U,i,if_true,if_false] at R; cases R
   simp only[go_sem,gj,Nm,ζ,δ,γ,U,J,i,Ne.symm ζ,Nn,wZz k];rw[he] at p;refine aM (k+1,(rn,ra,rb),aG (aI ra)) ⟨hlt,p,.inr rfl,L0 he⟩ (by simp only; omega) ?_ ?_
   ·exact Lq
   ·refine PH.aJ (PH.aJ PH.nil_le ?_) ?_
    ·simp only[go_sem,i,J,ζ,δ,γ,U]
    ·simp only[go_sem,i,J,ζ,δ,γ,U]
 ·have β:¬ (k:Int)<(l.length:Nat):=Om;have:k=l.length:=Om;subst this;rw[aXY (by simp)] at hf;rw[oW,hf];have ι:cG (frV (.ok (an,aa,ab))) (dB [.agg [.bool an,cy,aG (aI ab)],.int .i64 0]) .nil:=⟨CoL.tup (.cons (CoL.agg θ) (.cons (.refl _) .nil)),rfl⟩;rcases κ with ⟨rfl,rfl⟩ | rfl
  ·simp only[go_sem,β,SP,VD,J,i];refine bB (.inr rfl) .nil ?_ PH.nil_le ι;simp only[go_sem,SO,J,i]
  ·simp only[go_sem,β,SP,VD,J,i];refine bB (.inr rfl) .nil ?_ PH.nil_le ι;simp only[go_sem,SO,J,i]
def oH:Rg:=[iT 2 false]
def oI:Rg:=[iM 3 0,iA 4 (.bin .geq (Tm 3) (.const (.int .u8 97))),iM 5 4,gM 6 0 5 true,iG 7 (.bin .leq (Tm 6) (.const (.int .u8 122))) 5 true,iP 8 5 7,iM 9 8,gM 10 0 9 false,iG 11 (.bin .geq (Tm 10) (.const (.int .u8 65))) 9 false,gM 12 11 9 false,gM 13 0 12 true,iG 14 (.bin .leq (Tm 13) (.const (.int .u8 90))) 12 true,iG 15 (.pick (Tm 12) (Tm 14) (.const (.bool false))) 9 false,iQ 16 9 15,iM 2 16]
def kG:aA:=(sq oH (sq oI .ret))
def Uh:List Nat:=[]
def vL:aS:=⟨1,17,kG,[.tmp 2]⟩
def xS:Rg:=[iT 2 false]
def xT:Rg:=[iM 3 0,iA 4 (.bin .geq (Tm 3) (.const (.int .u8 48))),iM 5 4,gM 6 0 5 true,iG 7 (.bin .leq (Tm 6) (.const (.int .u8 57))) 5 true,iP 8 5 7,iM 2 8]
def pE:aA:=(sq xS (sq xT .ret))
def acD:List Nat:=[]
def BC:aS:=⟨1,9,pE,[.tmp 2]⟩
def og:Rg:=[iT 2 false]
def oi:Rg:=[iM 3 0,iK 4 126 3,iM 5 4,gM 6 0 5 false,gK 7 124 6 5 false,iQ 8 5 7,iM 9 8,gM 10 0 9 false,iG 11 (.bin .eql (Tm 10) (.const (.int .u8 45))) 9 false,iQ 12 9 11,iM 13 12,gM 14 0 13 false,iG 15 (.bin .eql (Tm 14) (.const (.int .u8 46))) 13 false,iQ 16 13 15,iM 2 16]
def yZ:aA:=(sq og (sq oi .ret))
def acH:List Nat:=[]
def BD:aS:=⟨1,17,yZ,[.tmp 2]⟩
def DZ:Rg:=[iT 2 false]
def EA:Rg:=[iM 4 0,iA 5 (.bin .eql (Tm 4) (.const (.str []))),iM 6 5,gM 7 0 6 false,iG 8 (.aWY (Tm 7)) 6 false,gC 9 .gtr 8 16 6 false,iQ 10 6 9,iM 11 10,gM 12 0 11 false,iG 13 (.aWZ (Tm 12) (Ci 0)) 11 false,gK 14 126 13 11 false,iG 15 (.un .not (Tm 14)) 11 false,iQ 16 11 15]
def EB:Rg:=[iT 2 false]
def Cw:Rg:=[iI 3 0]
def Cx:Rg:=[iM 17 3,iM 18 0,iA 19 (.aWY (Tm 18)),iB 20 .lss 17 19]
def Cy:Rg:=[iM 23 0,iM 24 3,iA 25 (.aWZ (Tm 23) (Tm 24)),iK 26 125 25,iA 27 (.un .not (Tm 26))]
def Cz:Rg:=[iT 2 false]
def C0:Rg:=[iM 21 3,iC 22 .add 21 1,iM 3 22]
def Cu:aA:=(.seq (sq Cx (.cond (Tm 20) .skip (.exit 0))) (.seq (.block 1 (sq Cy (.cond (Tm 27) (sq Cz .ret) .skip))) (.region C0)))
def C1:Rg:=[iT 2 true]
def qY:aA:=(sq DZ (.seq (sq EA (.cond (Tm 16) (sq EB .ret) .skip)) (.seq (sq Cw (.block 0 (.loop Cu))) (sq C1 .ret))))
def arO:List Nat:=[]
def OS:aS:=⟨1,28,qY,[.tmp 2]⟩
def YW:Rg:=[iT 6 false]
def YX:Rg:=[iM 7 0,iM 8 1,iB 9 .geq 7 8,iM 10 9,gM 11 0 10 true,gM 12 2 10 true,gB 13 .leq 11 12 10 true,iP 14 10 13,iM 6 14]
def wG:aA:=(sq YW (sq YX .ret))
def aIU:List Nat:=[]
def gin:aS:=⟨3,15,wG,[.tmp 6]⟩
def m6:Rg:=[iA 1 (.box true (Tm 0)),iT 2 false]
def m7:Rg:=[iF 3 1 1,iL 4 3,iK 5 128 4,iC 6 .gtr 5 0,iM 2 6]
def yW:aA:=(sq m6 (sq m7 .ret))
def abS:List Nat:=[1]
def JR:aS:=⟨1,7,yW,[.tmp 2]⟩
def N5:Rg:=[iA 1 (.box true (Tm 0)),iT 2 false]
def N6:Rg:=[iO 6 3 1,iK 7 116 6,iM 5 7,iE 8 5 0,iE 9 5 1,iA 3 (.alloc [(.bool false),.aB,.aB]),iS 3 3 8,iM 4 9]
def OM:Rg:=[iM 10 4,iC 11 .eql 10 0,iM 12 11,gF 13 0 3 12 true,gL 14 13 12 true,iG 15 (.un .not (Tm 14)) 12 true,iP 16 12 15,iM 17 16,gF 18 1 3 17 true,gL 19 18 17 true,gK 20 128 19 17 true,gC 21 .leq 20 32 17 true,iP 22 17 21,iM 23 22,gF 24 2 3 23 true,gL 25 24 23 true,gK 26 128 25 23 true,gC 27 .leq 26 32 23 true,iP 28 23 27,iM 2 28]
def JW:aA:=(sq N5 (sq N6 (sq OM .ret)))
def aAT:List Nat:=[1]
def A8:aS:=⟨1,29,JW,[.tmp 2]⟩
def Oc:Rg:=[iA 1 (.box true (Tm 0)),iT 2 false]
def Od:Rg:=[iA 8 (.call 115 [(Ci 1),(Ci 1)]),iM 7 8,iE 9 7 0,iE 10 7 1,iA 3 (.alloc [(.bool false),.aB,.aB]),iS 3 3 9,iM 4 10]
def Oe:Rg:=[iO 12 3 1,iO 13 3 3,iK2 14 114 12 13,iM 11 14,iE 15 11 0,iE 16 11 1,iM 5 15,iM 6 16]
def gn:Rg:=[iM 17 6,iC 18 .eql 17 0,iM 19 18,gM 20 5 19 true,gC 21 .leq 20 0 19 true,iP 22 19 21,iM 2 22]
def JY:aA:=(sq Oc (sq Od (sq Oe (sq gn .ret))))
def aAV:List Nat:=[1]
def gone:aS:=⟨1,23,JY,[.tmp 2]⟩
def Ad:Rg:=[iT 4 false]
def Ae:Rg:=[iM 7 0,iN 8 7,iI 9 0]
def Af:Rg:=[iB 10 .lss 9 8]
def Ag:Rg:=[iX 11 3 7 9,iO 12 3 11,iA 6 (.alloc [(.bool false),.aB,.aB]),iS 3 6 12]
def Ah:Rg:=[iM 13 1,iO 14 3 6,iA 15 (.aXA (Tm 13) [(Tm 14)]),iA 16 (.un .not (Tm 15))]
def Ai:Rg:=[iT 4 false]
def Aj:Rg:=[iC 17 .add 9 1,iM 9 17]
def Ab:aA:=(sq Af (.seq (.cond (Tm 10) .skip (.exit 0)) (.seq (.block 1 (sq Ag (sq Ah (.cond (Tm 16) (sq Ai .ret) .skip)))) (.region Aj))))
def Ak:Rg:=[iT 4 true]
def DE:aA:=(sq Ad (.seq (sq Ae (.block 0 (.loop Ab))) (sq Ak .ret)))
def aqX:List Nat:=[]
def YT:aS:=⟨2,18,DE,[.tmp 4]⟩
def An:Rg:=[iT 4 false]
def Ao:Rg:=[iM 7 0,iN 8 7,iI 9 0]
def Ap:Rg:=[iB 10 .lss 9 8]
def Aq:Rg:=[iX 11 1 7 9,iL 12 11,iM 6 12]
def Ar:Rg:=[iM 13 1,iM 14 6,iA 15 (.aXA (Tm 13) [(Tm 14)]),iA 16 (.un .not (Tm 15))]
def As:Rg:=[iT 4 false]
def At:Rg:=[iC 17 .add 9 1,iM 9 17]
def Al:aA:=(sq Ap (.seq (.cond (Tm 10) .skip (.exit 0)) (.seq (.block 1 (sq Aq (sq Ar (.cond (Tm 16) (sq As .ret) .skip)))) (.region At))))
def Au:Rg:=[iT 4 true]
def DF:aA:=(sq An (.seq (sq Ao (.block 0 (.loop Al))) (sq Au .ret)))
def aqY:List Nat:=[]
def YU:aS:=⟨2,18,DF,[.tmp 4]⟩
def zt:Rg:=[iT 4 false]
def zu:Rg:=[iM 7 0,iN 8 7,iI 9 0]
def zw:Rg:=[iB 10 .lss 9 8]
def zx:Rg:=[iX 11 1 7 9,iL 12 11,iM 6 12]
def zy:Rg:=[iM 13 1,iM 14 6,iA 15 (.aXA (Tm 13) [(Tm 14)]),iA 16 (.un .not (Tm 15))]
def zz:Rg:=[iT 4 false]
def z8:Rg:=[iC 17 .add 9 1,iM 9 17]
def zq:aA:=(sq zw (.seq (.cond (Tm 10) .skip (.exit 0)) (.seq (.block 1 (sq zx (sq zy (.cond (Tm 16) (sq zz .ret) .skip)))) (.region z8))))
def Aa:Rg:=[iT 4 true]
def DD:aA:=(sq zt (.seq (sq zu (.block 0 (.loop zq))) (sq Aa .ret)))
def aqW:List Nat:=[]
def YS:aS:=⟨2,18,DD,[.tmp 4]⟩
def m9:Rg:=[iT 2 false]
def nc:Rg:=[iM 3 0,iM 2 3]
def yX:aA:=(sq m9 (sq nc .ret))
def abT:List Nat:=[]
def JS:aS:=⟨1,4,yX,[.tmp 2]⟩
def Az:Rg:=[iA 1 (.box true (Tm 0)),iT 2 false]
def A0:Rg:=[iF 8 3 1,iL 9 8,iN 10 9,iA 11 (.aWH 1 1 [(.bool false)] (Tm 10) (Tm 10)),iM 3 11]
def A1:Rg:=[iI 4 0]
def A2:Rg:=[iM 12 4,iM 13 3,iN 14 13,iB 15 .leq 12 14]
def A3:Rg:=[iM 18 3,iN 19 18,iI 20 0]
def SQ:Rg:=[iB 21 .lss 20 19]
def A4:Rg:=[iM 22 20,iM 5 22]
def SR:Rg:=[iM 23 3,iM 24 5,iM 25 3,iM 26 5,iX 27 1 25 26,iL 28 27,iM 29 28,gF 30 3 1 29 false,gL 31 30 29 false,gM 32 5 29 false,iG 33 (.aWP 3 (Tm 31) (Tm 32)) 29 false,gO 34 3 33 29 false,gK 35 97 34 29 false,iQ 36 29 35,iX 37 1 23 24,iS 1 37 36]
def SS:Rg:=[iF 38 2 1,iL 39 38,iM 40 5,iX 41 1 39 40,iL 42 41,iN 43 42,iI 44 0]
def A5:Rg:=[iB 45 .lss 44 43]
def nj:Rg:=[iM 46 44,iX 47 3 42 44,iO 48 3 47,iA 7 (.alloc [(.bool false),.aB,.aB]),iM 6 46,iS 3 7 48]
def JT:Rg:=[iM 49 3,iM 50 5,iM 51 3,iM 52 5,iX 53 1 51 52,iL 54 53,iM 55 54,gO 56 3 7 55 false,gK 57 97 56 55 false,gM 58 57 55 false,gM 59 3 58 true,gM 60 6 58 true,iG 61 (.aWP 1 (Tm 59) (Tm 60)) 58 true,gL 62 61 58 true,iG 63 (.pick (Tm 58) (Tm 62) (.const (.bool false))) 55 false,iQ 64 55 63,iX 65 1 49 50,iS 1 65 64]
def xQ:Rg:=[iC 66 .add 44 1,iM 44 66]
def xO:aA:=(sq A5 (.seq (.cond (Tm 45) .skip (.exit 4)) (.seq (.block 5 (sq nj (.region JT))) (.region xQ))))
def JU:Rg:=[iC 67 .add 20 1,iM 20 67]
def xP:aA:=(sq SQ (.seq (.cond (Tm 21) .skip (.exit 2)) (.seq (.block 3 (sq A4 (sq SR (sq SS (.block 4 (.loop xO)))))) (.region JU))))
def nn:Rg:=[iM 16 4,iC 17 .add 16 1,iM 4 17]
def ni:aA:=(.seq (sq A2 (.cond (Tm 15) .skip (.exit 0))) (.seq (.block 1 (sq A3 (.block 2 (.loop xP)))) (.region nn)))
def np:Rg:=[iM 68 3,iA 69 (.call 98 [(Tm 68),(.const (.fn 103 []))]),iM 2 69]
def DG:aA:=(sq Az (sq A0 (.seq (sq A1 (.block 0 (.loop ni))) (sq np .ret))))
def arA:List Nat:=[1]
def YV:aS:=⟨1,70,DG,[.tmp 2]⟩
def Nw:Rg:=[iA 1 (.box true (Tm 0)),iT 2 false]
def Nx:Rg:=[iF 12 1 1,iL 13 12,iN 14 13,iM 3 14]
def Ny:Rg:=[iM 15 3,iA 16 (.call 104 [(Tm 15),(Ci 1),(Ci 4)]),iA 17 (.un .not (Tm 16)),iM 18 17,gF 19 3 1 18 false,gL 20 19 18 false,gN 21 20 18 false,gM 22 3 18 false,gB 23 .neq 21 22 18 false,iQ 24 18 23,iM 25 24,gF 26 2 1 25 false,gL 27 26 25 false,gN 28 27 25 false,gM 29 3 25 false,gB 30 .neq 28 29 25 false,iQ 31 25 30,iM 32 31,gF 33 1 1 32 false,gL 34 33 32 false,iG 35 (.call 99 [(Tm 34),(.const (.fn 105 []))]) 32 false,iG 36 (.un .not (Tm 35)) 32 false,iQ 37 32 36,iM 38 37,gF 39 3 1 38 false,gL 40 39 38 false,iG 41 (.call 99 [(Tm 40),(.const (.fn 105 []))]) 38 false,iG 42 (.un .not (Tm 41)) 38 false,iQ 43 38 42]
def vH:Rg:=[iT 2 false]
def Nz:Rg:=[iF 44 2 1,iL 45 44,iN 46 45,iI 47 0]
def N0:Rg:=[iB 48 .lss 47 46]
def N1:Rg:=[iM 49 47,iX 50 1 45 47,iL 51 50,iM 4 49,iM 5 51]
def N2:Rg:=[iM 52 5,iN 53 52,iM 54 3,iB 55 .neq 53 54,iM 56 55,gM 57 5 56 false,iG 58 (.call 99 [(Tm 57),(.const (.fn 105 []))]) 56 false,iG 59 (.un .not (Tm 58)) 56 false,iQ 60 56 59,iM 61 60,gM 62 5 61 false,gM 63 4 61 false,iG 64 (.aWP 3 (Tm 62) (Tm 63)) 61 false,gO 65 3 64 61 false,gK 66 97 65 61 false,iQ 67 61 66]
def OL:Rg:=[iT 2 false]
def N3:Rg:=[iC 68 .add 47 1,iM 47 68]
def A7:aA:=(sq N0 (.seq (.cond (Tm 48) .skip (.exit 0)) (.seq (.block 1 (sq N1 (sq N2 (.cond (Tm 67) (sq OL .ret) .skip)))) (.region N3))))
def ST:Rg:=[iF 70 1 1,iL 71 70,iK 72 117 71,iM 69 72,iE 73 69 0,iE 74 69 1,iA 6 (.alloc [(.bool false),.aB,.aB]),iS 3 6 73,iM 7 74]
def DH:Rg:=[iA 76 (.call 115 [(Ci 1),(Ci 1)]),iM 75 76,iE 77 75 0,iE 78 75 1,iA 8 (.alloc [(.bool false),.aB,.aB]),iS 3 8 77,iM 9 78]
def DI:Rg:=[iO 80 3 6,iO 81 3 8,iK2 82 114 80 81,iM 79 82,iE 83 79 0,iE 84 79 1,iM 10 83,iM 11 84]
def rV:Rg:=[iM 85 7,iC 86 .eql 85 0,iM 87 86,gM 88 10 87 true,gC 89 .eql 88 0 87 true,iP 90 87 89,iM 91 90,gO 92 4 1 91 true,gK 93 102 92 91 true,iP 94 91 93,iM 2 94]
def JV:aA:=(sq Nw (sq Nx (.seq (sq Ny (.cond (Tm 43) (sq vH .ret) .skip)) (.seq (sq Nz (.block 0 (.loop A7))) (sq ST (sq DH (sq DI (sq rV .ret))))))))
def aAS:List Nat:=[1]
def A6:aS:=⟨1,95,JV,[.tmp 2]⟩
def Br:Rg:=[iT 2 false]
def Bs:Rg:=[iA 6 (.aXE (false,[.str])),iM 3 6]
def Bt:Rg:=[iM 7 0,iN 8 7,iI 9 0]
def Bu:Rg:=[iB 10 .lss 9 8]
def Bv:Rg:=[iX 11 1 7 9,iL 12 11,iM 5 12]
def Bw:Rg:=[iM 13 5,iK 14 123 13,iA 15 (.un .not (Tm 14)),iM 16 15,gM 17 3 16 false,gM 18 5 16 false,iG 19 (.lookup (false,[.str]) (.bool false) (Tm 17) (Tm 18) false) 16 false,iQ 20 16 19]
def SX:Rg:=[iT 2 false]
def Bx:Rg:=[iM 21 3,iM 22 5,⟨none,.aWQ (false,[.str]) (Tm 21) (Tm 22) (.const (.bool true)),none⟩]
def By:Rg:=[iC 23 .add 9 1,iM 9 23]
def Bp:aA:=(sq Bu (.seq (.cond (Tm 10) .skip (.exit 0)) (.seq (.block 1 (sq Bv (.seq (sq Bw (.cond (Tm 20) (sq SX .ret) .skip)) (.region Bx)))) (.region By))))
def nv:Rg:=[iT 2 true]
def DN:aA:=(sq Br (sq Bs (.seq (sq Bt (.block 0 (.loop Bp))) (sq nv .ret))))
def arE:List Nat:=[]
def ZA:aS:=⟨1,24,DN,[.tmp 2]⟩
def gl:Rg:=[iA 1 (.box true (Tm 0)),iT 2 false]
def gm:Rg:=[iF 6 3 1,iL 7 6,iN 8 7,iC 9 .eql 8 0]
def Np:Rg:=[iT 2 false]
def Nq:Rg:=[iF 10 3 1,iL 11 10,iA 12 (.aWP 7 (Tm 11) (Ci 0)),iO 13 7 12,iA 3 (.alloc [(.str []),(.int .i64 0),(.int .i64 0),(.int .i64 0),(.bool false),.aB,.aB]),iS 7 3 13]
def vG:Rg:=[iF 14 0 3,iL 15 14,iA 16 (.bin .neq (Tm 15) (.const (.str []))),iM 17 16,gF 18 1 3 17 false,gL 19 18 17 false,gC 20 .neq 19 0 17 false,iQ 21 17 20,iM 22 21,gF 23 2 3 22 false,gL 24 23 22 false,gC 25 .neq 24 (-1) 22 false,iQ 26 22 25,iM 27 26,gF 28 3 3 27 false,gL 29 28 27 false,gC 30 .neq 29 0 27 false,iQ 31 27 30,iM 32 31,gF 33 4 3 32 false,gO 34 3 33 32 false,gK 35 105 34 32 false,iG 36 (.un .not (Tm 35)) 32 false,iQ 37 32 36,iM 38 37,gF 39 4 3 38 false,gO 40 3 39 38 false,gK 41 97 40 38 false,iQ 42 38 41]
def rU:Rg:=[iT 2 false]
def Nr:Rg:=[iF 43 3 1,iL 44 43,iA 45 (.slice 7 (Tm 44) (some (Ci 1)) none none),iN 46 45,iI 47 0]
def Ns:Rg:=[iB 48 .lss 47 46]
def Nt:Rg:=[iM 49 47,iX 50 7 45 47,iO 51 7 50,iA 5 (.alloc [(.str []),(.int .i64 0),(.int .i64 0),(.int .i64 0),(.bool false),.aB,.aB]),iM 4 49,iS 7 5 51]
def Nu:Rd:=[(iF 52 2 5,false),(iL 53 52,false),(iM 54 4,false),(iA 55 (.call 104 [(Tm 53),(Ci 0),(Tm 54)]),true),(iA 56 (.un .not (Tm 55)),false),(iM 57 56,false),(gF 58 3 1 57 false,false),(gL 59 58 57 false,false),(gF 60 2 5 57 false,false),(gL 61 60 57 false,false),(iG 62 (.aWP 7 (Tm 59) (Tm 61)) 57 false,false),(gF 63 1 62 57 false,false),(gL 64 63 57 false,false),(gF 65 1 5 57 false,false),(gL 66 65 57 false,false),(gC 67 .sub 66 1 57 false,false),(gB 68 .neq 64 67 57 false,false),(iQ 69 57 68,false),(iM 70 69,false),(gF 71 1 5 70 false,false),(gL 72 71 70 false,false),(iG 73 (.call 104 [(Tm 72),(Ci 1),(Ci 4)]) 70 false,true),(iG 74 (.un .not (Tm 73)) 70 false,false),(iQ 75 70 74,false),(iM 76 75,false),(gF 77 3 5 76 false,false),(gL 78 77 76 false,false),(iG 79 (.call 104 [(Tm 78),(Ci 1),(Ci 64)]) 76 false,true),(iG 80 (.un .not (Tm 79)) 76 false,false),(iQ 81 76 80,false),(iM 82 81,false),(gF 83 4 5 82 false,false),(gO 84 3 83 82 false,false),(gK 85 105 84 82 false,true),(iG 86 (.un .not (Tm 85)) 82 false,false),(iQ 87 82 86,false)]
def rT:Rg:=[iT 2 false]
def Aw:Rg:=[iC 88 .add 47 1,iM 47 88]
def Av:aA:=(sq Ns (.seq (.cond (Tm 48) .skip (.exit 0)) (.seq (.block 1 (sq Nt (dq Nu (.cond (Tm 87) (sq rT .ret) .skip)))) (.region Aw))))
def Ax:Rg:=[iT 2 true]
def xN:aA:=(sq gl (.seq (sq gm (.cond (Tm 9) (sq Np .ret) .skip)) (sq Nq (.seq (sq vG (.cond (Tm 42) (sq rU .ret) .skip)) (.seq (sq Nr (.block 0 (.loop Av))) (sq Ax .ret))))))
def aAR:List Nat:=[1]
def gk:aS:=⟨1,89,xN,[.tmp 2]⟩
def Bb:Rg:=[iT 2 false]
def Bc:Rg:=[iM 3 0,iA 4 (.call 104 [(Tm 3),(Ci 0),(Ci 8)]),iM 2 4]
def DJ:aA:=(sq Bb (sq Bc .ret))
def arB:List Nat:=[]
def YY:aS:=⟨1,5,DJ,[.tmp 2]⟩
def N8:Rg:=[iA 7 (.box true (Tm 3)),iT 8 false]
def N9:Rg:=[iM 9 0,iA 10 (.call 104 [(Tm 9),(Ci 1),(Ci 6)]),iA 11 (.un .not (Tm 10)),iM 12 11,gM 13 1 12 false,iG 14 (.call 104 [(Tm 13),(Ci 0),(Ci 4)]) 12 false,iG 15 (.un .not (Tm 14)) 12 false,iQ 16 12 15,iM 17 16,gM 18 0 17 false,gM 19 1 17 false,gB 20 .add 18 19 17 false,gC 21 .gtr 20 8 17 false,iQ 22 17 21,iM 23 22,gM 24 2 23 false,gM 25 0 23 false,gM 26 0 23 false,gM 27 1 23 false,gB 28 .add 26 27 23 false,iG 29 (.call 104 [(Tm 24),(Tm 25),(Tm 28)]) 23 false,iG 30 (.un .not (Tm 29)) 23 false,iQ 31 23 30,iM 32 31,iG 33 (.idxA 5 1 (Tm 7) (Ci 0)) 32 false,gL 34 33 32 false,gC 35 .neq 34 0 32 false,iQ 36 32 35]
def vI:Rg:=[iT 8 false]
def Oa:Rg:=[iA 37 (.sliceA 5 1 (Tm 7) none none none),iA 38 (.call 100 [(Tm 37),(.const (.fn 107 []))]),iM 8 38]
def JX:aA:=(sq N8 (.seq (sq N9 (.cond (Tm 36) (sq vI .ret) .skip)) (sq Oa .ret)))
def aAU:List Nat:=[7]
def A9:aS:=⟨4,39,JX,[.tmp 8]⟩
def nt:Rg:=[iA 1 (.box true (Tm 0)),iT 2 false]
def nu:Rg:=[iO 3 3 1,iK 4 105 3,iM 5 4,gO 6 3 1 5 true,gK 7 97 6 5 true,iP 8 5 7,iM 2 8]
def yY:aA:=(sq nt (sq nu .ret))
def abW:List Nat:=[1]
def KB:aS:=⟨1,9,yY,[.tmp 2]⟩
def Bi:Rg:=[iA 6 (.box true (Tm 2)),iA 7 (.box true (Tm 3)),iT 8 false]
def Bj:Rg:=[iM 9 1,iN 10 9,iM 11 0,iA 12 (.aWT true (Tm 11) (Ci 1)),iB 13 .eql 10 12,iM 14 13,gM 15 1 14 true,iG 16 (.call 99 [(Tm 15),(.const (.fn 109 []))]) 14 true,iP 17 14 16,iM 18 17,gO 19 3 6 18 true,gK 20 105 19 18 true,iP 21 18 20,iM 22 21,gO 23 3 6 22 true,gK 24 101 23 22 true,iP 25 22 24,iM 26 25,gO 27 3 7 26 true,gK 28 105 27 26 true,iP 29 26 28,iM 8 29]
def DK:aA:=(sq Bi (sq Bj .ret))
def arC:List Nat:=[6,7]
def YZ:aS:=⟨4,30,DK,[.tmp 8]⟩
def Og:Rg:=[iA 2 (.box true (Tm 0)),iT 4 false]
def Oh:Rg:=[iF 8 1 2,iL 9 8,iF 10 2 2,iL 11 10,iF 12 3 2,iL 13 12,iF 14 4 2,iO 15 5 14,iA 16 (.call 106 [(Tm 9),(Tm 11),(Tm 13),(Tm 15)]),iA 17 (.un .not (Tm 16)),iM 18 17,gF 19 9 2 18 false,gL 20 19 18 false,gN 21 20 18 false,gC 22 .eql 21 0 18 false,iQ 23 18 22,iM 24 23,gF 25 2 2 24 false,gL 26 25 24 false,gF 27 10 2 24 false,gL 28 27 24 false,gF 29 11 2 24 false,gO 30 3 29 24 false,gF 31 14 2 24 false,gO 32 3 31 24 false,iG 33 (.call 108 [(Tm 26),(Tm 28),(Tm 30),(Tm 32)]) 24 false,iG 34 (.un .not (Tm 33)) 24 false,iQ 35 24 34]
def ON:Rg:=[iT 4 false]
def Oi:Rg:=[iM 36 1,iA 37 (.aWH 1 1 [(.bool false)] (Tm 36) (Tm 36)),iM 5 37]
def Oj:Rg:=[iF 38 9 2,iL 39 38,iN 40 39,iI 41 0]
def Ol:Rg:=[iB 42 .lss 41 40]
def On:Rg:=[iX 43 1 39 41,iL 44 43,iM 7 44]
def Oo:Rg:=[iM 45 7,iM 46 1,iC 47 .sub 46 1,iA 48 (.call 104 [(Tm 45),(Ci 0),(Tm 47)]),iA 49 (.un .not (Tm 48)),iM 50 49,gM 51 5 50 false,gM 52 7 50 false,iG 53 (.aWP 1 (Tm 51) (Tm 52)) 50 false,gL 54 53 50 false,iQ 55 50 54]
def gr:Rg:=[iT 4 false]
def Oq:Rg:=[iM 56 5,iM 57 7,iX 58 1 56 57,⟨none,.store 1 (Tm 58) (.const (.bool true)),none⟩]
def Bf:Rg:=[iC 59 .add 41 1,iM 41 59]
def Be:aA:=(sq Ol (.seq (.cond (Tm 42) .skip (.exit 0)) (.seq (.block 1 (sq On (.seq (sq Oo (.cond (Tm 55) (sq gr .ret) .skip)) (.region Oq)))) (.region Bf))))
def Bg:Rg:=[iT 4 true]
def JZ:aA:=(sq Og (.seq (sq Oh (.cond (Tm 35) (sq ON .ret) .skip)) (sq Oi (.seq (sq Oj (.block 0 (.loop Be))) (sq Bg .ret)))))
def aAW:List Nat:=[2]
def Bd:aS:=⟨2,60,JZ,[.tmp 4]⟩
def Ot:Rg:=[iA 1 (.box true (Tm 0)),iI 2 0]
def Ou:Rg:=[iF 21 0 1,iL 22 21,iA 23 (.call 104 [(Tm 22),(Ci 1),(Ci 4)]),iA 24 (.un .not (Tm 23)),iM 25 24,gF 26 1 1 25 false,gL 27 26 25 false,gN 28 27 25 false,gC 29 .gtr 28 4 25 false,iQ 30 25 29,iM 31 30,gF 32 2 1 31 false,gL 33 32 31 false,gN 34 33 31 false,gC 35 .gtr 34 4 31 false,iQ 36 31 35,iM 37 36,gF 38 3 1 37 false,gL 39 38 37 false,gN 40 39 37 false,gC 41 .gtr 40 40 37 false,iQ 42 37 41,iM 43 42,gF 44 4 1 43 false,gL 45 44 43 false,gN 46 45 43 false,gC 47 .gtr 46 24 43 false,iQ 48 43 47,iM 49 48,gF 50 5 1 49 false,gL 51 50 49 false,gN 52 51 49 false,gC 53 .gtr 52 4 49 false,iQ 54 49 53,iM 55 54,gF 56 6 1 55 false,gL 57 56 55 false,gN 58 57 55 false,gC 59 .gtr 58 12 55 false,iQ 60 55 59,iM 61 60,gO 62 7 1 61 false,gK 63 111 62 61 false,iG 64 (.un .not (Tm 63)) 61 false,iQ 65 61 64]
def oG:Rg:=[iI 2 1]
def Ov:Rg:=[iZ 3,iZ 4,iZ 5,iZ 6,iZ 7]
def Ow:Rg:=[iT 8 true]
def gt:Rg:=[iF 66 1 1,iL 67 66,iN 68 67,iI 69 0]
def Ox:Rg:=[iB 70 .lss 69 68]
def Oy:Rg:=[iX 71 4 67 69,iO 72 4 71,iA 10 (.alloc [(.str []),.aB,.aB,.aB]),iS 4 10 72]
def Oz:Rg:=[iM 73 3,iF 74 0 10,iL 75 74,iA 76 (.aWF true 1 1 [(.str [])] [(0,(Tm 75))]),iA 77 (.append 1 16 (Tm 73) (Tm 76)),iM 3 77]
def gv:Rg:=[iM 78 8,iM 79 78,gO 80 4 10 79 true,gK 81 95 80 79 true,iP 82 79 81,iM 8 82]
def SY:Rg:=[iC 83 .add 69 1,iM 69 83]
def DO:aA:=(sq Ox (.seq (.cond (Tm 70) .skip (.exit 0)) (.seq (.block 1 (sq Oy (sq Oz (.region gv)))) (.region SY))))
def SZ:Rg:=[iF 84 2 1,iL 85 84,iN 86 85,iI 87 0]
def B0:Rg:=[iB 88 .lss 87 86]
def B5:Rg:=[iX 89 4 85 87,iO 90 4 89,iA 12 (.alloc [(.str []),(.int .i64 0),(.int .i64 0),(.int .i64 0)]),iS 4 12 90]
def B6:Rg:=[iM 91 4,iF 92 0 12,iL 93 92,iA 94 (.aWF true 1 1 [(.str [])] [(0,(Tm 93))]),iA 95 (.append 1 16 (Tm 91) (Tm 94)),iM 4 95]
def TA:Rg:=[iM 96 8,iM 97 96,gF 98 1 12 97 true,gL 99 98 97 true,iG 100 (.call 104 [(Tm 99),(Ci 1),(Ci 16)]) 97 true,iP 101 97 100,iM 102 101,gF 103 2 12 102 true,gL 104 103 102 true,iG 105 (.call 104 [(Tm 104),(Ci 1),(Ci 64)]) 102 true,iP 106 102 105,iM 107 106,gF 108 3 12 107 true,gL 109 108 107 true,gF 110 1 1 107 true,gL 111 110 107 true,gN 112 111 107 true,gC 113 .sub 112 1 107 true,iG 114 (.call 104 [(Tm 109),(Ci 0),(Tm 113)]) 107 true,iP 115 107 114,iM 8 115]
def wJ:Rg:=[iC 116 .add 87 1,iM 87 116]
def DP:aA:=(sq B0 (.seq (.cond (Tm 88) .skip (.exit 2)) (.seq (.block 3 (sq B5 (sq B6 (.region TA)))) (.region wJ))))
def TB:Rg:=[iF 117 3 1,iL 118 117,iA 119 (.slice 7 (Tm 118) (some (Ci 1)) none none),iN 120 119,iI 121 0]
def B7:Rg:=[iB 122 .lss 121 120]
def B8:Rg:=[iX 123 7 119 121,iO 124 7 123,iA 14 (.alloc [(.str []),(.int .i64 0),(.int .i64 0),(.int .i64 0),(.bool false),.aB,.aB]),iS 7 14 124]
def B9:Rg:=[iM 125 5,iF 126 0 14,iL 127 126,iA 128 (.aWF true 1 1 [(.str [])] [(0,(Tm 127))]),iA 129 (.append 1 16 (Tm 125) (Tm 128)),iM 5 129]
def Ca:Rg:=[iC 130 .add 121 1,iM 121 130]
def DQ:aA:=(sq B7 (.seq (.cond (Tm 122) .skip (.exit 4)) (.seq (.block 5 (sq B8 (.region B9))) (.region Ca))))
def TC:Rg:=[iF 131 4 1,iL 132 131,iN 133 132,iI 134 0]
def Cb:Rg:=[iB 135 .lss 134 133]
def Cc:Rg:=[iX 136 3 132 134,iO 137 3 136,iA 16 (.alloc [(.str []),(.int .i64 0),(.int .i64 0)]),iS 3 16 137]
def Cd:Rg:=[iM 138 5,iF 139 0 16,iL 140 139,iA 141 (.aWF true 1 1 [(.str [])] [(0,(Tm 140))]),iA 142 (.append 1 16 (Tm 138) (Tm 141)),iM 5 142]
def TD:Rg:=[iM 143 8,iM 144 143,gF 145 1 16 144 true,gL 146 145 144 true,gF 147 2 1 144 true,gL 148 147 144 true,gN 149 148 144 true,gC 150 .sub 149 1 144 true,iG 151 (.call 104 [(Tm 146),(Ci 0),(Tm 150)]) 144 true,iP 152 144 151,iM 153 152,gF 154 2 16 153 true,gL 155 154 153 true,gF 156 3 1 153 true,gL 157 156 153 true,gN 158 157 153 true,gC 159 .sub 158 1 153 true,iG 160 (.call 104 [(Tm 155),(Ci 0),(Tm 159)]) 153 true,iP 161 153 160,iM 162 161,gF 163 3 1 162 true,gL 164 163 162 true,gF 165 2 16 162 true,gL 166 165 162 true,iG 167 (.aWP 7 (Tm 164) (Tm 166)) 162 true,gF 168 1 167 162 true,gL 169 168 162 true,gC 170 .eql 169 4 162 true,iP 171 162 170,iM 8 171]
def rW:Rg:=[iC 172 .add 134 1,iM 134 172]
def DR:aA:=(sq Cb (.seq (.cond (Tm 135) .skip (.exit 6)) (.seq (.block 7 (sq Cc (sq Cd (.region TD)))) (.region rW))))
def TE:Rg:=[iF 173 5 1,iL 174 173,iN 175 174,iI 176 0]
def Ce:Rg:=[iB 177 .lss 176 175]
def Cf:Rg:=[iX 178 17 174 176,iO 179 17 178,iA 18 (.alloc [(.str []),(.int .i64 0),(.int .i64 0),(.int .i64 0),(.int .i64 0),(.int .i64 0),(.int .i64 0),(.int .i64 0),(.int .i64 0),.aB,.aB,(.bool false),.aB,.aB,(.bool false),.aB,.aB]),iS 17 18 179]
def Cg:Rg:=[iM 180 6,iF 181 0 18,iL 182 181,iA 183 (.aWF true 1 1 [(.str [])] [(0,(Tm 182))]),iA 184 (.append 1 16 (Tm 180) (Tm 183)),iM 6 184]
def TF:Rg:=[iM 185 8,iM 186 185,gO 187 17 18 186 true,gF 188 2 1 186 true,gL 189 188 186 true,gN 190 189 186 true,gK2 191 112 187 190 186 true,iP 192 186 191,iM 8 192]
def TG:Rg:=[iC 193 .add 176 1,iM 176 193]
def DS:aA:=(sq Ce (.seq (.cond (Tm 177) .skip (.exit 8)) (.seq (.block 9 (sq Cf (sq Cg (.region TF)))) (.region TG))))
def TH:Rg:=[iF 194 6 1,iL 195 194,iN 196 195,iI 197 0]
def Ch:Rg:=[iB 198 .lss 197 196]
def Cj:Rg:=[iX 199 2 195 197,iO 200 2 199,iA 20 (.alloc [(.str []),(.int .i64 0)]),iS 2 20 200]
def Ck:Rg:=[iM 201 7,iF 202 0 20,iL 203 202,iA 204 (.aWF true 1 1 [(.str [])] [(0,(Tm 203))]),iA 205 (.append 1 16 (Tm 201) (Tm 204)),iM 7 205]
def TI:Rg:=[iM 206 8,iM 207 206,gF 208 1 20 207 true,gL 209 208 207 true,gF 210 5 1 207 true,gL 211 210 207 true,gN 212 211 207 true,gC 213 .sub 212 1 207 true,iG 214 (.call 104 [(Tm 209),(Ci 0),(Tm 213)]) 207 true,iP 215 207 214,iM 8 215]
def TJ:Rg:=[iC 216 .add 197 1,iM 197 216]
def DT:aA:=(sq Ch (.seq (.cond (Tm 198) .skip (.exit 10)) (.seq (.block 11 (sq Cj (sq Ck (.region TI)))) (.region TJ))))
def wK:Rg:=[iM 217 8,iA 218 (.un .not (Tm 217)),iM 219 218,gM 220 3 219 false,gK 221 110 220 219 false,iG 222 (.un .not (Tm 221)) 219 false,iQ 223 219 222,iM 224 223,gM 225 4 224 false,gK 226 110 225 224 false,iG 227 (.un .not (Tm 226)) 224 false,iQ 228 224 227,iM 229 228,gM 230 5 229 false,gK 231 110 230 229 false,iG 232 (.un .not (Tm 231)) 229 false,iQ 233 229 232,iM 234 233,gM 235 6 234 false,gK 236 110 235 234 false,iG 237 (.un .not (Tm 236)) 234 false,iQ 238 234 237,iM 239 238,gM 240 7 239 false,gK 241 110 240 239 false,iG 242 (.un .not (Tm 241)) 239 false,iQ 243 239 242]
def mE:Rg:=[iI 2 1]
def DU:Rg:=[iI 2 0]
def KC:aA:=(sq Ot (.seq (sq Ou (.cond (Tm 65) (sq oG .ret) .skip)) (sq Ov (sq Ow (.seq (sq gt (.block 0 (.loop DO))) (.seq (sq SZ (.block 2 (.loop DP))) (.seq (sq TB (.block 4 (.loop DQ))) (.seq (sq TC (.block 6 (.loop DR))) (.seq (sq TE (.block 8 (.loop DS))) (.seq (sq TH (.block 10 (.loop DT))) (.seq (sq wK (.cond (Tm 243) (sq mE .ret) .skip)) (sq DU .ret))))))))))))
def aAY:List Nat:=[1,76,94,128,141,183,204]
def Bz:aS:=⟨1,244,KC,[.tmp 2]⟩
@[go_sem] theorem aMW (a b:List UInt8):IB .eql a b=some (.bool (a==b)):=(rfl)
@[go_sem] theorem aMX (a b:List UInt8):IB .neq a b=some (.bool !(a==b)):=(rfl)
@[go_sem] theorem S6 (a b:List UInt8):IB .add a b=if ((a.length+b.length:Nat):Int)>9223372036854775807 then none else some (.str (a++b)):=(rfl)
@[go_sem] theorem aHW:(([]:List UInt8)==[])=true:=(rfl)
@[go_sem] theorem azT (c:UInt8) (t:List UInt8):((c::t)==[])=false:=(rfl)
theorem nS {a b:List UInt8} (h:a=b):(a==b)=true:=by simp[h]
theorem WC {a b:List UInt8} (h:a≠b):(a==b)=false:=by simp[h]
section
variable {C:Ctx} {F:PF} {H:PH}
theorem pG {name o s:Nat} {rs:List (List PV)} {vs:List PV} {v:PV} {args:List aO} {d:Option Nat} {K:PF→PH→Prop} (h:aH C name vs .nil (aL v)) (p:H o=some (.rows s rs))
  (l:aO.evs (F.frz o s rs) args=some vs) (i:K ((F.frz o s rs).put d v) (H.frz o s rs)):gY C name args [] d K F H:=by
 refine .inr ⟨_,_,.step o p (.refl _ _),vs,.nil,aL v,?_,PH.nil_le,h,?_⟩
 ·rw[l]; simp
 ·rintro r H' ⟨rfl,rfl⟩ -;rw[PH.wQ];exact i
theorem gT.trans {i l p:PF} {J H2 R:PH} (h:gT i J l H2) (k:gT l H2 p R):gT i J p R:=by
 induction h with
 | refl=>exact k
 | step o U h ih=>exact .step o U (ih k)
theorem oQ {c:aA} {K:bT} {s:Nat} {v:PV} {rows:List (List PV)} (ho:bO H s v rows)
  (h:∀ v1,Seen s v1 rows→∀ l p,(∀ t,F t=some v→l t=some v1)→(∀ i u,F i=some u→Pure u→l i=some u)→aA.wp C (.loop c) K l p):aA.wp C (.loop c) K F H:=by
 obtain⟨v1,hs,hf⟩:=ho.frz;obtain⟨l,p,hz,h1,h2⟩:=hf F;obtain⟨α,U,Hs,Pr,m,a0,R,H2,J,rest⟩:=h v1 hs l p h1 h2;exact⟨α,U,Hs,Pr,m,a0,R,H2,hz.trans J,rest⟩
theorem aH.Wf {name s:Nat} {v:PV} {rows:List (List PV)} {l:PH} {R:PV→PH→Prop} (h:aH C name [.sl s rows] l R) (U:Seen s v rows):aH C name [v] l R:=by
 rcases U with ⟨rfl,rfl⟩ | rfl
 ·refine h.args ⟨rfl,fun j p q i J=>?_⟩;cases j with
  | zero=>simp at i J; subst i; subst J; exact .nil s
  | succ j=>simp at i
 ·exact h
theorem bO.fresh {s:Nat} {v:PV} {rows:List (List PV)} {o:Nat} (h:bO H s v rows) (J:H o=none) (x:bX):bO (H.set o x) s v rows∧∀ l,v≠.osl o s 0 l:=by
 refine⟨h.ext fun q y p=>?_,fun l e=>?_⟩
 ·have:q≠o:=by rintro rfl; rw[J] at p; cases p
  simp only[aQ,if_neg this,p]
 ·rcases h with ⟨_,i⟩ | ⟨q,rs,h1,i,_⟩
  ·rw[i] at e; cases e
  ·rw[h1] at e;injection e with R
   subst R;rw[J] at i; cases i
theorem lO {s b:Nat} {v:PV} {rows:List (List PV)} {r:List PV} {o:Nat} {x:bX} {K:PV→PH→Prop} (h:bO H s v rows) (R:H o=none) (hr:roomFor rows.length 1 b)
  (J:∀ v' H',bO H' s v' (rows++[r])→H' o=some x→K v' H'):mF (H.set o x) s b v (.sl s [r]) K:=by
 obtain⟨i,l⟩:=h.fresh R x;refine fX (src:=[r]) i (by simp[dS]) hr fun v' H' p U=>J v' H' p (U o x (by simp only[aQ,if_true]) l)
theorem vF {o s k:Nat} {rs:List (List PV)} (i:k≤rs.length):PV.frz o s rs (.osl o s 0 k)=.sl s (rs.take k):=by
 have:0+k≤rs.length:=Om;simp only[PV.frz,PV.qV,PV.cN,if_true,true_and,if_pos this,aYO]
end
def fV (n:Nat):Bool:=decide (97≤n)&&decide (n≤122)||decide (65≤n)&&decide (n≤90)
def pB (n:Nat):Bool:=decide (48≤n)&&decide (n≤57)
def gE (n:Nat):Bool:=fV n||pB n||decide (n=45)||decide (n=46)
theorem ZI {C:Ctx} (n:Nat):kG.wp C (aW vL.res (aL (.bool (fV n)))) (PF.args [.int .u8 n]) .nil:=by
 have fin:∀ (F:PF) (b:Bool),F 2=some (.bool b)→b=fV n→aW vL.res (aL (.bool (fV n))) .ret F .nil:=by intro F b h e;subst e;refine bV (.inr rfl) (vs:=[.bool (fV n)]) (by simp only[go_sem,vL,h]) rfl
 unfold fV at *
 by_cases a:97≤n
 ·have i:(n:Int)≥97:=Om;by_cases b:n≤122
  ·have p:(n:Int)≤122:=Om;simp only[go_sem,kG,oH,oI,i,p];exact fin _ _ rfl (by simp[a,b])
  ·have p:¬ (n:Int)≤122:=Om;by_cases c:65≤n
   ·have l:(n:Int)≥65:=Om;have d:¬ (n:Int)≤90:=Om;simp only[go_sem,kG,oH,oI,i,p,l,d];exact fin _ _ rfl (by simp[a,b,c]; omega)
   ·omega
 ·have i:¬ (n:Int)≥97:=Om;by_cases c:65≤n
  ·have l:(n:Int)≥65:=Om;by_cases d:n≤90
   ·have J:(n:Int)≤90:=Om;simp only[go_sem,kG,oH,oI,i,l,J];exact fin _ _ rfl (by simp[a,c,d])
   ·have J:¬ (n:Int)≤90:=Om;simp only[go_sem,kG,oH,oI,i,l,J];exact fin _ _ rfl (by simp[a,c,d])
  ·have l:¬ (n:Int)≥65:=Om;simp only[go_sem,kG,oH,oI,i,l];exact fin _ _ rfl (by simp[a,c])
theorem n9 {C:Ctx} (n:Nat):pE.wp C (aW BC.res (aL (.bool (pB n)))) (PF.args [.int .u8 n]) .nil:=by
 have fin:∀ (F:PF) (b:Bool),F 2=some (.bool b)→b=pB n→aW BC.res (aL (.bool (pB n))) .ret F .nil:=by intro F b h e;subst e;refine bV (.inr rfl) (vs:=[.bool (pB n)]) (by simp only[go_sem,BC,h]) rfl
 unfold pB at *
 by_cases a:48≤n
 ·have i:(n:Int)≥48:=Om;by_cases b:n≤57
  ·have l:(n:Int)≤57:=Om;simp only[go_sem,pE,xS,xT,i,l];exact fin _ _ rfl (by simp[a,b])
  ·have l:¬ (n:Int)≤57:=Om;simp only[go_sem,pE,xS,xT,i,l];exact fin _ _ rfl (by simp[a,b])
 ·have i:¬ (n:Int)≥48:=Om;simp only[go_sem,pE,xS,xT,i];exact fin _ _ rfl (by simp[a])
theorem oe {C:Ctx} (p:∀ n:Nat,aH C 126 [.int .u8 n] .nil (aL (.bool (fV n)))) (J:∀ n:Nat,aH C 124 [.int .u8 n] .nil (aL (.bool (pB n)))) (n:Nat) :
  yZ.wp C (aW BD.res (aL (.bool (gE n)))) (PF.args [.int .u8 n]) .nil:=by
 have fin:∀ (F:PF) (b:Bool),F 2=some (.bool b)→b=gE n→aW BD.res (aL (.bool (gE n))) .ret F .nil:=by intro F b h e;subst e;refine bV (.inr rfl) (vs:=[.bool (gE n)]) (by simp only[go_sem,BD,h]) rfl
 simp only[go_sem,yZ,og,oi];refine aC (p n) rfl ?_;cases l:fV n with
 | true =>simp only[go_sem];exact fin _ _ rfl (by simp[gE,l])
 | false =>
  simp only[go_sem];refine aC (J n) rfl ?_;cases i:pB n with
  | true =>simp only[go_sem];exact fin _ _ rfl (by simp[gE,i])
  | false =>
   by_cases c:n=45
   ·simp only[go_sem,bM (Om:(n:Int)=45)];exact fin _ _ rfl (by simp[gE,c])
   ·by_cases d:n=46
    ·simp only[go_sem,bF (Om:(n:Int)≠45),bM (Om:(n:Int)=46)];exact fin _ _ rfl (by simp[gE,d])
    ·simp only[go_sem,bF (Om:(n:Int)≠45),bF (Om:(n:Int)≠46)];exact fin _ _ rfl (by simp[gE,c,d,l,i])
def isName (s:List UInt8):Bool:=match s with
 | []=>false
 | c::_=>decide (s.length≤16)&&fV c.toNat&&s.all fun c=>gE c.toNat
theorem BS {α:Type} {p:α→Bool} {l:List α} {k:Nat} (i:k<l.length) (h:(l.take k).all p=true) (J:p l[k]=true):(l.take (k+1)).all p=true:=by
 rw[aZT i,List.all_append,h]; simp[J]
theorem BT {α:Type} {p:α→Bool} {l:List α} {k:Nat} (i:k<l.length) (J:p l[k]=false):l.all p=false:=by
 rw[List.all_eq_false];exact⟨l[k],aXM i,by simp[J]⟩
def Ct (s:List UInt8) (k:Nat):PF:=((PF.nil.set 0 (.str s)).set 3 (.int .i64 k))
theorem Cv {C:Ctx} (h1:∀ n:Nat,aH C 126 [.int .u8 n] .nil (aL (.bool (fV n)))) (h2:∀ n:Nat,aH C 125 [.int .u8 n] .nil (aL (.bool (gE n)))) (s:List UInt8) :
  qY.wp C (aW OS.res (aL (.bool (isName s)))) (PF.args [.str s]) .nil:=by
 have fin:∀ (F:PF) (b:Bool),F 2=some (.bool b)→b=isName s→aW OS.res (aL (.bool (isName s))) .ret F .nil:=by intro F b h e;subst e;refine bV (.inr rfl) (vs:=[.bool (isName s)]) (by simp only[go_sem,OS,h]) rfl
 cases s with
 | nil =>simp only[go_sem,qY,DZ,EA,EB];exact fin _ _ rfl rfl
 | cons c t =>
  have hz:(c::t)[0]?=some c:=rfl;have J:(c::t==[])=false:=rfl;have p:isName (c::t)=(decide ((c::t).length≤16)&&fV c.toNat&&(c::t).all fun c=>gE c.toNat):=rfl;generalize c::t=s at *
  by_cases hl:s.length≤16
  ·have l:¬ (s.length:Int)>16:=Om;rw[decide_eq_true hl,aYE] at p;simp only[go_sem,qY,DZ,EA,J,l,hz,aYX];refine aC (h1 c.toNat) rfl ?_;cases U:fV c.toNat with
   | false =>simp only[go_sem,aYJ,EB];exact fin _ _ rfl (by rw[p,U]; rfl)
   | true =>
    rw[U,aYE] at p;simp only[go_sem,aXW,Cw];refine wp_loop (α:=Nat) (fun k=>Ct s k) (fun _=>.nil) (fun k=>k≤s.length∧(s.take k).all (fun c=>gE c.toNat)=true) (fun k=>s.length-k) 0 ⟨aXU _,rfl⟩ ?_ PH.nil_le ?_
    ·unfold Ct;exact Lq
    rintro k ⟨hk,R⟩;simp only[go_sem,Cu,Cx,Ct];by_cases hlt:k<s.length
    ·have i:(k:Int)<(s.length:Nat):=Om;have hg:s[k]?=some s[k]:=aXT hlt;simp only[go_sem,i,Cy,hg,aYX];refine aC (h2 (s[k]).toNat) rfl ?_;cases hi:gE (s[k]).toNat with
     | false =>simp only[go_sem,aYJ,Cz];refine fin _ false rfl ?_;rw[p,BT hlt hi]
     | true =>simp only[go_sem,aXW,C0,wZz k];refine aM (k+1) ⟨hlt,aYF.1 (BS hlt R hi)⟩ Om ?_ PH.nil_le;exact Lq
    ·have i:¬ (k:Int)<(s.length:Nat):=Om;simp only[go_sem,i,C1];have:k=s.length:=Om;subst this;rw[aXY (aXL _)] at R;exact fin _ true rfl (by rw[p,R])
  ·have l:(s.length:Int)>16:=Om;simp only[go_sem,qY,DZ,EA,EB,J,l];exact fin _ _ rfl (by rw[p,decide_eq_false hl]; rfl)
end Go.PM
