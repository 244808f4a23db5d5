/-
  Texts of ours, joined. No condition.
-/
import Derived.Test.YtnagfjehjbbckaaGreatDoorPr1
import Derived.ProofKit
import Derived.OpenShut
set_option linter.unusedSimpArgs false
set_option linter.unusedVariables false
open Nat renaming reduceEqDiff → γ, reduceAdd → δ, reduceSub → ε, reduceMul → ζ, reduceLT → η, reduceLeDiff → θ, reduceBEq → τ
open Int renaming reduceLT → ι, reduceLE → κ, reduceEq → μ, reduceToNat → ν, reduceAdd → ξ, reduceNeg → ο, reduceBEq → ρ, reduceBNe → σ
open List renaming reduceReplicate → υ
open List renaming length_map → aYN, range → aYO, getElem_mem → aYQ, replicate → aYR, length_append → aYU, mem_cons → aYY, getElem?_eq_getElem → aZA, length_singleton → aZB, all_eq_true → aZC, length_take → aZH, take_of_length_le → aZJ, take_length → aZK, getElem?_map → aZN, mem_map → aZQ, mem_range → aZR, getElem?_eq_some_iff → aZU, take_succ_eq_append_getElem → aZW, append_assoc → a0A, drop_zero → a0B, getElem_of_mem → a0C, map_cons → a0D, length_cons → a0F, mem_append → a0G, getElem?_eq_none → a0H, getElem_map → a0K, append_nil → a0M, drop_eq_getElem_cons → a0O, mem_singleton → a0Q, length_drop → a0R, getElem?_append_left → a0V, length_set → a0W, map_nil → a0X, mem_of_getElem? → a1C, length_nil → a1H, getElem?_append_right → a1I, set_append_right → a1M, take_append_drop → a1N, all_append → a1X, ext_getElem → a1Y, set_cons_zero → a2B, nil_append → a2G, drop_of_length_le → a2L, mem_of_mem_take → a2M, getElem_append_right → a2P
open Nat renaming gcd → aYP, zero_le → aYS, le_refl → aYV, mul_add → aZE, lt_or_ge → aZL, zero_add → aZM, mul_assoc → aZP, le_trans → aZS, mul_comm → aZT, add_mul → aZX, mul_le_mul_right → aZY, mod_eq_of_lt → a0E, mod_lt → a0I, pow_succ → a0L, add_zero → a0S, eq_zero_or_pos → a1B, add_assoc → a1D, min_eq_left → a1E, mul_le_mul_left → a1F, pos_of_ne_zero → a1G, pow_pos → a1K, div_le_self → a1O, pow_le_pow_right → a1P, sub_self → a1Q, div_lt_iff_lt_mul → a1T, mul_le_mul → a1U, succ_mul → a1V, div_add_mod → a2H, div_eq_of_lt → a2I
open Bool renaming not_true → aYT, false_and → aYW, true_and → aYZ, and_eq_true → aZD, not_false → aZF, and_false → aZV, and_true → a0T, and_self → a0Z
open Option renaming map_eq_some_iff → aYX, map_some → aZZ, some → a0Y, getD_some → a1L, bind_some → a2C, bind_eq_some_iff → a2J
open Int renaming toNat_natCast → a0J, tdiv → a1A
open Array renaming length_toList → a1W
namespace Go.PM
open Go
attribute [go_sem] List.getElem?_cons_succ List.getElem?_cons_zero and_self and_true true_and or_true true_or or_false false_or aYT aZF aZZ a2C if_true if_false a0F a1H List.drop_succ_cons a0B List.take_succ_cons List.take_zero a0D a0X a0Y.injEq PV.bool.injEq PV.int.injEq aP PV.bin
@[go_sem] theorem aQL (k:IntKind) (a b:Int):lK .add k a b=some (.int k (k.wrap (a+b))):=(rfl)
@[go_sem] theorem aQV (k:IntKind) (a b:Int):lK .sub k a b=some (.int k (k.wrap (a-b))):=(rfl)
@[go_sem] theorem aQR (k:IntKind) (a b:Int):lK .mul k a b=some (.int k (k.wrap (a*b))):=(rfl)
@[go_sem] theorem aQT (k:IntKind) (a b:Int):lK .quo k a b=if b=0 then none else some (.int k (k.wrap (a.tdiv b))):=(rfl)
@[go_sem] theorem aQU (k:IntKind) (a b:Int):lK .rem k a b=if b=0 then none else some (.int k (a.tmod b)):=(rfl)
@[go_sem] theorem aQM (k:IntKind) (a b:Int):lK .eql k a b=some (.bool (a==b)):=(rfl)
@[go_sem] theorem aQS (k:IntKind) (a b:Int):lK .neq k a b=some (.bool (a != b)):=(rfl)
@[go_sem] theorem aQQ (k:IntKind) (a b:Int):lK .lss k a b=some (.bool (decide (a<b))):=(rfl)
@[go_sem] theorem aQP (k:IntKind) (a b:Int):lK .leq k a b=some (.bool (decide (a≤b))):=(rfl)
@[go_sem] theorem aQO (k:IntKind) (a b:Int):lK .gtr k a b=some (.bool (decide (a>b))):=(rfl)
@[go_sem] theorem aQN (k:IntKind) (a b:Int):lK .geq k a b=some (.bool (decide (a≥b))):=(rfl)
section
variable {C:Ctx} {K:bT} {F:PF} {H:PH}
@[go_sem] theorem aVF:aC.wp C .skip K F H=K .normal F H:=(rfl)
@[go_sem] theorem aSI (ops:List aU):aC.wp C (.region ops) K F H=wpOps C ops (K .normal) F H:=(rfl)
@[go_sem] theorem y9 (a b:aC):aC.wp C (.seq a b) K F H=a.wp C (gS C (b.wp C) K) F H:=(rfl)
@[go_sem] theorem aTU (id:Nat) (c:aC):aC.wp C (.block id c) K F H=c.wp C (fF id K) F H:=(rfl)
@[go_sem] theorem aVE (id:Nat):aC.wp C (.exit id) K F H=K (.exit id) F H:=(rfl)
@[go_sem] theorem aVQ:aC.wp C .ret K F H=K .ret F H:=(rfl)
def VY (C:Ctx) (v:Option PV) (a b:aC) (K:bT) (F:PF) (H:PH):Prop :=
 match v with
 | some (.bool t)=>if t then a.wp C K F H else b.wp C K F H
 | _=>False
@[go_sem] theorem aGA (c:aQ) (a b:aC):aC.wp C (.cond c a b) K F H=VY C (c.ev F) a b K F H:=(rfl)
@[go_sem] theorem aRA (a b:aC):VY C (some (.bool true)) a b K F H=a.wp C K F H:=(rfl)
@[go_sem] theorem aPN (a b:aC):VY C (some (.bool false)) a b K F H=b.wp C K F H:=(rfl)
theorem azD {t:Bool} {a b:aC} (c:t=true→a.wp C K F H) (d:t=false→b.wp C K F H):VY C (some (.bool t)) a b K F H:=by
 cases t
 ·exact d rfl
 ·exact c rfl
@[go_sem] theorem aPV (w:bT→PF→PH→Prop):gS C w K .normal F H=w K F H:=(rfl)
@[go_sem] theorem aOY (w:bT→PF→PH→Prop):gS C w K .normal=w K:=(rfl)
@[go_sem] theorem aTH (w:bT→PF→PH→Prop) (id:Nat):gS C w K (.exit id)=K (.exit id):=(rfl)
@[go_sem] theorem aUV (w:bT→PF→PH→Prop):gS C w K .ret=K .ret:=(rfl)
@[go_sem] theorem aNE (id:Nat):fF id K .normal=K .normal:=(rfl)
@[go_sem] theorem aQY (id:Nat):fF id K .ret=K .ret:=(rfl)
@[go_sem] theorem DF (id c:Nat):fF id K (.exit c) F H=if c=id then K .normal F H else K (.exit c) F H:=(rfl)
@[go_sem] theorem aSG (K:PF→PH→Prop):wpOps C [] K F H=K F H:=(rfl)
@[go_sem] theorem aSH (d:Option Nat) (op:POp) (rest:List aU) (K:PF→PH→Prop):wpOps C (⟨d,op,none⟩::rest) K F H=wpOp C op d (wpOps C rest K) F H:=(rfl)
def wK (C:Ctx) (v:Option PV) (c:Bool) (op:POp) (d:Option Nat) (rest:List aU) (K:PF→PH→Prop) (F:PF) (H:PH):Prop :=
 match v with
 | some (.bool b)=>if b=c then wpOp C op d (wpOps C rest K) F H else wpOps C rest K (F.put d (.tup [])) H
 | some (.tup [])=>wpOps C rest K (F.put d (.tup [])) H
 | _=>False
@[go_sem] theorem Yy (d:Option Nat) (op:POp) (t:Nat) (c:Bool) (rest:List aU) (K:PF→PH→Prop) :
  wpOps C (⟨d,op,some (t,c)⟩::rest) K F H=wK C (F t) c op d rest K F H:=(rfl)
@[go_sem] theorem aTD (op:POp) (d:Option Nat) (rest:List aU) (K:PF→PH→Prop):wK C (some (.bool true)) true op d rest K F H=wpOp C op d (wpOps C rest K) F H:=(rfl)
@[go_sem] theorem aTA (op:POp) (d:Option Nat) (rest:List aU) (K:PF→PH→Prop):wK C (some (.bool false)) false op d rest K F H=wpOp C op d (wpOps C rest K) F H:=(rfl)
@[go_sem] theorem aTC (op:POp) (d:Option Nat) (rest:List aU) (K:PF→PH→Prop):wK C (some (.bool true)) false op d rest K F H=wpOps C rest K (F.put d (.tup [])) H:=(rfl)
@[go_sem] theorem aTB (op:POp) (d:Option Nat) (rest:List aU) (K:PF→PH→Prop):wK C (some (.bool false)) true op d rest K F H=wpOps C rest K (F.put d (.tup [])) H:=(rfl)
@[go_sem] theorem aPS (c:Bool) (op:POp) (d:Option Nat) (rest:List aU) (K:PF→PH→Prop):wK C (some (.tup [])) c op d rest K F H=wpOps C rest K (F.put d (.tup [])) H:=(rfl)
@[go_sem] theorem aUT (d:Nat) (v:PV):F.put (some d) v=F.set d v:=(rfl)
@[go_sem] theorem aUS (v:PV):F.put none v=F:=(rfl)
@[go_sem] theorem kM (i j:Nat) (v:PV):(F.set i v) j=if j=i then some v else F j:=(rfl)
@[go_sem] theorem args_at (vs:List PV) (i:Nat):PF.args vs i=vs[i]?:=(rfl)
@[go_sem] theorem aVV (i:Nat):PF.nil i=none:=(rfl)
@[go_sem] theorem GK (t:Nat):(aQ.tmp t).ev F=F t:=(rfl)
@[go_sem] theorem aUJ (v:PV):(aQ.const v).ev F=some v:=(rfl)
@[go_sem] theorem aT (i j:Nat) (x:cF):(H.set i x) j=if j=i then some x else H j:=(rfl)
@[go_sem] theorem WG (i:Nat):PH.nil i=none:=(rfl)
@[go_sem] theorem GL:aQ.evs F []=some []:=(rfl)
@[go_sem] theorem rT (x:aQ) (xs:List aQ):aQ.evs F (x::xs)=(match x.ev F,aQ.evs F xs with | some v,some vs=>some (v::vs) | _,_=>none):=(rfl)
theorem jD {i j:Nat} {x:cF}:(H.set i x) j=none↔j≠i∧H j=none:=by
 rw[aT];split<;>simp_all
@[go_sem] theorem aPW (v:PV) (d:Option Nat) (K:PF→PH→Prop):bZ (some v) d K F H=K (F.put d v) H:=by
 simp[bZ]
theorem aN {c:Nat→PV} {x:cF} {d:Option Nat} {K:PF→PH→Prop} (h:∀ o,H o=none→K (F.put d (c o)) (H.set o x)):nF (some (c,x)) d K F H:=⟨c,x,rfl,h⟩
@[go_sem] theorem aVO (x:aQ) (d:Option Nat) (K:PF→PH→Prop):wpOp C (.mv x) d K F H=bZ (aP (.mv x) F H) d K F H:=(rfl)
@[go_sem] theorem aTT (x:aQ) (d:Option Nat) (K:PF→PH→Prop):wpOp C (.same x) d K F H=bZ (aP (.same x) F H) d K F H:=(rfl)
@[go_sem] theorem aTS (c a b:aQ) (d:Option Nat) (K:PF→PH→Prop):wpOp C (.pick c a b) d K F H=bZ (aP (.pick c a b) F H) d K F H:=(rfl)
@[go_sem] theorem aUZ (o:BinOp) (x y:aQ) (d:Option Nat) (K:PF→PH→Prop):wpOp C (.bin o x y) d K F H=bZ (aP (.bin o x y) F H) d K F H:=(rfl)
@[go_sem] theorem aVB (n:Bool) (x y:aQ) (d:Option Nat) (K:PF→PH→Prop):wpOp C (.eqb n x y) d K F H=bZ (aP (.eqb n x y) F H) d K F H:=(rfl)
@[go_sem] theorem aVC (n:Bool) (c:List Sc) (x y:aQ) (d:Option Nat) (K:PF→PH→Prop):wpOp C (.eqs n c x y) d K F H=bZ (aP (.eqs n c x y) F H) d K F H:=(rfl)
@[go_sem] theorem aVP (o:UnOp) (x:aQ) (d:Option Nat) (K:PF→PH→Prop):wpOp C (.un o x) d K F H=bZ (aP (.un o x) F H) d K F H:=(rfl)
@[go_sem] theorem aTL (k:IntKind) (x:aQ) (d:Option Nat) (K:PF→PH→Prop):wpOp C (.conv k x) d K F H=bZ (aP (.conv k x) F H) d K F H:=(rfl)
@[go_sem] theorem aRZ (z:List PV) (ps:List (Nat × Nat × aQ)) (d:Option Nat) (K:PF→PH→Prop):wpOp C (.build z ps) d K F H=bZ (aP (.build z ps) F H) d K F H:=(rfl)
@[go_sem] theorem aTQ (n:Option Nat) (p:aQ) (d:Option Nat) (K:PF→PH→Prop):wpOp C (.load n p) d K F H=bZ (aP (.load n p) F H) d K F H:=(rfl)
@[go_sem] theorem aQH (x:aQ) (d:Option Nat) (K:PF→PH→Prop):wpOp C (.aXP x) d K F H=bZ (aP (.aXP x) F H) d K F H:=(rfl)
@[go_sem] theorem aQA (c:Nat) (x:aQ) (d:Option Nat) (K:PF→PH→Prop):wpOp C (.aYF c x) d K F H=bZ (aP (.aYF c x) F H) d K F H:=(rfl)
@[go_sem] theorem aSB (c:Nat) (n:Option Nat) (x:aQ) (d:Option Nat) (K:PF→PH→Prop):wpOp C (.field c n x) d K F H=bZ (aP (.field c n x) F H) d K F H:=(rfl)
@[go_sem] theorem aTN (s:Nat) (x i:aQ) (d:Option Nat) (K:PF→PH→Prop):wpOp C (.aXT s x i) d K F H=bZ (aP (.aXT s x i) F H) d K F H:=(rfl)
@[go_sem] theorem aTM (n s:Nat) (x i:aQ) (d:Option Nat) (K:PF→PH→Prop):wpOp C (.idxA n s x i) d K F H=bZ (aP (.idxA n s x i) F H) d K F H:=(rfl)
@[go_sem] theorem aTO (n s:Nat) (g:Bool) (x i:aQ) (d:Option Nat) (K:PF→PH→Prop):wpOp C (.idxV n s g x i) d K F H=bZ (aP (.idxV n s g x i) F H) d K F H:=(rfl)
@[go_sem] theorem aQB (x i:aQ) (d:Option Nat) (K:PF→PH→Prop):wpOp C (.aYD x i) d K F H=bZ (aP (.aYD x i) F H) d K F H:=(rfl)
@[go_sem] theorem aSE (s:Nat) (x:aQ) (lo hi mx:Option aQ) (d:Option Nat) (K:PF→PH→Prop):wpOp C (.slice s x lo hi mx) d K F H=bZ (aP (.slice s x lo hi mx) F H) d K F H:=(rfl)
@[go_sem] theorem aQI (n s:Nat) (x:aQ) (lo hi mx:Option aQ) (d:Option Nat) (K:PF→PH→Prop):wpOp C (.sliceA n s x lo hi mx) d K F H=bZ (aP (.sliceA n s x lo hi mx) F H) d K F H:=(rfl)
@[go_sem] theorem aNH (x:aQ) (lo hi:Option aQ) (d:Option Nat) (K:PF→PH→Prop):wpOp C (.aXZ x lo hi) d K F H=bZ (aP (.aXZ x lo hi) F H) d K F H:=(rfl)
@[go_sem] theorem aTE:PV.tF .aB=some (.int .i64 0):=(rfl)
@[go_sem] theorem aVN (s:Nat) (rows:List (List PV)):PV.tF (.sl s rows)=some (.int .i64 rows.length):=(rfl)
@[go_sem] theorem aUQ (o s c n:Nat):PV.tF (.osl o s c n)=some (.int .i64 n):=(rfl)
@[go_sem] theorem aVD (x:aQ) (d:Option Nat) (K:PF→PH→Prop):wpOp C (.len x) d K F H=bZ (aP (.len x) F H) d K F H:=(rfl)
@[go_sem] theorem aQD (x:aQ) (d:Option Nat) (K:PF→PH→Prop):wpOp C (.aYC x) d K F H=bZ (aP (.aYC x) F H) d K F H:=(rfl)
@[go_sem] theorem aTP (x:aQ) (d:Option Nat) (K:PF→PH→Prop):wpOp C (.lenM x) d K F H=bZ (aP (.lenM x) F H) d K F H:=(rfl)
@[go_sem] theorem aSC (n:Bool) (x:aQ) (d:Option Nat) (K:PF→PH→Prop):wpOp C (.isNil n x) d K F H=bZ (aP (.isNil n x) F H) d K F H:=(rfl)
@[go_sem] theorem aPU:PV.rD .aB=some true:=(rfl)
@[go_sem] theorem aRP (o s c len:Nat):PV.rD (.osl o s c len)=some false:=(rfl)
@[go_sem] theorem aPT (s:Nat) (r:List PV) (rs:List (List PV)):PV.rD (.sl s (r::rs))=some false:=(rfl)
@[go_sem] theorem aPZ (x:aQ) (d:Option Nat) (K:PF→PH→Prop):wpOp C (.aYM x) d K F H=bZ (aP (.aYM x) F H) d K F H:=(rfl)
@[go_sem] theorem aPI (x:aQ) (i:Nat) (d:Option Nat) (K:PF→PH→Prop):wpOp C (.extract x i) d K F H=bZ (aP (.extract x i) F H) d K F H:=(rfl)
@[go_sem] theorem aQG (m:Bool) (x y:aQ) (d:Option Nat) (K:PF→PH→Prop):wpOp C (.aXX m x y) d K F H=bZ (aP (.aXX m x y) F H) d K F H:=(rfl)
@[go_sem] theorem aTR (n:Nat) (cs:List aQ) (d:Option Nat) (K:PF→PH→Prop):wpOp C (.mkfn n cs) d K F H=bZ (aP (.mkfn n cs) F H) d K F H:=(rfl)
@[go_sem] theorem aQE (sh:MSh) (z:PV) (x k:aQ) (ok:Bool) (d:Option Nat) (K:PF→PH→Prop):wpOp C (.lookup sh z x k ok) d K F H=bZ (aP (.lookup sh z x k ok) F H) d K F H:=(rfl)
@[go_sem] theorem aMP (x:aQ) (d:Option Nat) (K:PF→PH→Prop):wpOp C (.aXQ x) d K F H=bZ (aP (.aXQ x) F H) d K F H:=(rfl)
@[go_sem] theorem aTJ (x:aQ) (d:Option Nat) (K:PF→PH→Prop):wpOp C (.box true x) d K F H=bZ (aP (.box true x) F H) d K F H:=(rfl)
@[go_sem] theorem aPH (s l:Nat) (z:List PV) (ps:List (Nat × aQ)) (d:Option Nat) (K:PF→PH→Prop):wpOp C (.aXI true s l z ps) d K F H=bZ (aP (.aXI true s l z ps) F H) d K F H:=(rfl)
@[go_sem] theorem aRY (cs:List PV) (d:Option Nat) (K:PF→PH→Prop):wpOp C (.alloc cs) d K F H=nF (dD (.alloc cs) F) d K F H:=(rfl)
@[go_sem] theorem aPJ (s b:Nat) (z:List PV) (l c:aQ) (d:Option Nat) (K:PF→PH→Prop):wpOp C (.aXK s b z l c) d K F H=nF (dD (.aXK s b z l c) F) d K F H:=(rfl)
@[go_sem] theorem aSD (sh:MSh) (d:Option Nat) (K:PF→PH→Prop):wpOp C (.aYI sh) d K F H=nF (dD (.aYI sh) F) d K F H:=(rfl)
@[go_sem] theorem aVA (x:aQ) (d:Option Nat) (K:PF→PH→Prop):wpOp C (.box false x) d K F H=nF (dD (.box false x) F) d K F H:=(rfl)
@[go_sem] theorem aPY (s l:Nat) (z:List PV) (ps:List (Nat × aQ)) (d:Option Nat) (K:PF→PH→Prop):wpOp C (.aXI false s l z ps) d K F H=nF (dD (.aXI false s l z ps) F) d K F H:=(rfl)
@[go_sem] theorem aSF (n:Nat) (p x:aQ) (d:Option Nat) (K:PF→PH→Prop):wpOp C (.store n p x) d K F H=cD (.store n p x) F H (fun r H'=>K (F.put d r) H'):=(rfl)
@[go_sem] theorem aPX (s b:Nat) (x y:aQ) (d:Option Nat) (K:PF→PH→Prop):wpOp C (.append s b x y) d K F H=cD (.append s b x y) F H (fun r H'=>K (F.put d r) H'):=(rfl)
@[go_sem] theorem aQF (sh:MSh) (x k v:aQ) (d:Option Nat) (K:PF→PH→Prop):wpOp C (.aXU sh x k v) d K F H=cD (.aXU sh x k v) F H (fun r H'=>K (F.put d r) H'):=(rfl)
@[go_sem] theorem aQC (sh:MSh) (x k v:aQ) (d:Option Nat) (K:PF→PH→Prop):wpOp C (.insert sh x k v) d K F H=cD (.insert sh x k v) F H (fun r H'=>K (F.put d r) H'):=(rfl)
@[go_sem] theorem aTK (n:Nat) (c:List aQ) (d:Option Nat) (K:PF→PH→Prop):wpOp C (.call n c) d K F H=iV C n c [] d K F H:=(rfl)
@[go_sem] theorem aSA (x:aQ) (c:List aQ) (d:Option Nat) (K:PF→PH→Prop):wpOp C (.aYE x c) d K F H=vL C (x.ev F) c d K F H:=(rfl)
@[go_sem] theorem aRX (n:Nat) (cs:List PV) (c:List aQ) (d:Option Nat) (K:PF→PH→Prop):vL C (some (.fn n cs)) c d K F H=iV C n c cs d K F H:=(rfl)
theorem PF.nil_le:PF.nil.le F:=fun _ _ h=>(by cases h)
abbrev c_:=@PF.nil_le
theorem PF.aK {i:Nat} {v:PV} {G:PF} (d:F.le G) (l:G i=some v):(F.set i v).le G:=by
 intro j u c;rw[kM] at c;split at c
 ·rename_i e; subst e; cases c; exact l
 ·exact d _ _ c
abbrev d_:=@PF.aK
theorem PF.le_refl:F.le F:=fun _ _ h=>h
theorem PH.nil_le:PH.nil.le H:=fun _ _ h=>(by cases h)
abbrev a_:=@PH.nil_le
theorem PH.aK {i:Nat} {x:cF} {G:PH} (d:H.le G) (l:G i=some x):(H.set i x).le G:=by
 intro j u c;rw[aT] at c;split at c
 ·rename_i e; subst e; cases c; exact l
 ·exact d _ _ c
theorem PH.le_refl:H.le H:=fun _ _ h=>h
abbrev b_:=@PH.le_refl
theorem wp_loop {c:aC} {α:Type} (d:α→PF) (Hs:α→PH) (e:α→Prop) (m:α→Nat) (i:α) (l:e i) (p:(d i).le F) (u:(Hs i).le H)
  (w:∀ a,e a→c.wp C (fR d Hs e m (m a) K) (d a) (Hs a)):aC.wp C (.loop c) K F H :=
 ⟨α,d,Hs,e,m,i,F,H,.refl F H,l,p,u,w⟩
theorem aD {α:Type} {c:α→PF} {Hs:α→PH} {d:α→Prop} {m:α→Nat} {n:Nat} (a:α) (e:d a) (p:m a<n) (i:(c a).le F) (l:(Hs a).le H):fR c Hs d m n K .normal F H :=
 ⟨a,F,H,.refl F H,e,p,i,l⟩
@[go_sem] theorem aRR {α:Type} {c:α→PF} {Hs:α→PH} {d:α→Prop} {m:α→Nat} {n:Nat} (id:Nat):fR c Hs d m n K (.exit id)=K (.exit id):=(rfl)
@[go_sem] theorem aTF {α:Type} {c:α→PF} {Hs:α→PH} {d:α→Prop} {m:α→Nat} {n:Nat}:fR c Hs d m n K .ret=K .ret:=(rfl)
def aF (v:PV) (r:PV) (H:PH):Prop:=r=v∧H=PH.nil
theorem PH.uW:H.over .nil .nil=H:=PH.ext fun o=>rfl
theorem Yx {name:Nat} {vs cs:List PV} {v:PV} {args:List aQ} {d:Option Nat} {K:PF→PH→Prop} (h:aH C name (vs++cs) .nil (aF v)) (c:aQ.evs F args=some vs)
  (e:K (F.put d v) H):iV C name args cs d K F H:=by
 refine .inl ⟨vs++cs,.nil,_,by rw[c]; rfl,a_,h,?_⟩;rintro r H' ⟨rfl,rfl⟩ _;rw[PH.uW];exact e
theorem aA {name:Nat} {vs:List PV} {v:PV} {args:List aQ} {d:Option Nat} {K:PF→PH→Prop} (h:aH C name vs .nil (aF v)) (c:aQ.evs F args=some vs)
  (e:K (F.put d v) H):iV C name args [] d K F H:=Yx (cs:=[]) (by rw[a0M]; exact h) c e
theorem aO {res:List dS} {vs:List PV} {v:PV} {e:kW} (l:e=.normal∨e=.ret) (h:dS.evs F H res=some vs) (p:bL vs=v):aR res (aF v) e F H:=by
 have c:∃ vs,dS.evs F H res=some vs∧∃ d i H2,jJ (PF.nil.set 0 (bL vs)) H d i∧H2.le i∧∃ u,d 0=some u∧aF v u H2 :=
  ⟨vs,h,_,H,.nil,.refl _ _,a_,v,by rw[kM,if_pos rfl,p],rfl,rfl⟩
 rcases l with rfl | rfl<;>exact c
@[go_sem] theorem oX:dS.evs F H []=some []:=(rfl)
@[go_sem] theorem kS (x:dS) (xs:List dS):dS.evs F H (x::xs)=(match x.ev F H,dS.evs F H xs with | some v,some vs=>some (v::vs) | _,_=>none):=(rfl)
@[go_sem] theorem nP (t:Nat):dS.ev F H (.tmp t)=F t:=(rfl)
@[go_sem] theorem aUU (t:Nat):dS.ev F H (.cell t none)=(match F t with | some p=>(match loadCells H p 1 with | some [v]=>some v | _=>none) | none=>none):=(rfl)
@[go_sem] theorem aTG (t k:Nat):dS.ev F H (.cell t (some k))=(match F t with | some p=>(loadCells H p k).map .agg | none=>none):=(rfl)
end
section
variable {C:Ctx} {K:bT} {F:PF} {H Hs:PH} {S:Spec}
theorem bO {ops:List (aU × Bool)} (Hs:PH) (S:Spec) (c:Hs.le H) (h:wpD C Hs S ops (K .normal) F H):aC.wp C (.draw ops) K F H:=⟨Hs,S,c,h⟩
def dT:Spec:=fun _ _=>none
def dOp (C:Ctx) (Hs:PH) (S:Spec) (st:Bool) (op:POp) (d:Option Nat) (K:PF→PH→Prop) (F:PF) (H:PH):Prop:=(op.kind F).run C Hs S st (fun v H'=>K (F.put d v) H') H
@[go_sem] theorem aUX (K:PF→PH→Prop):wpD C Hs S [] K F H=K F H:=(rfl)
@[go_sem] theorem aUY (d:Option Nat) (op:POp) (st:Bool) (rest:List (aU × Bool)) (K:PF→PH→Prop):wpD C Hs S ((⟨d,op,none⟩,st)::rest) K F H=dOp C Hs S st op d (wpD C Hs S rest K) F H:=(rfl)
def AN (C:Ctx) (Hs:PH) (S:Spec) (v:Option PV) (c st:Bool) (op:POp) (d:Option Nat) (rest:List (aU × Bool)) (K:PF→PH→Prop) (F:PF) (H:PH):Prop :=
 match v with
 | some (.bool b)=>if b=c then dOp C Hs S st op d (wpD C Hs S rest K) F H else wpD C Hs S rest K (F.put d (.tup [])) H
 | some (.tup [])=>wpD C Hs S rest K (F.put d (.tup [])) H
 | _=>False
@[go_sem] theorem aTI (d:Option Nat) (op:POp) (t:Nat) (c st:Bool) (rest:List (aU × Bool)) (K:PF→PH→Prop) :
  wpD C Hs S ((⟨d,op,some (t,c)⟩,st)::rest) K F H=AN C Hs S (F t) c st op d rest K F H:=by
 have i:wpD C Hs S ((⟨d,op,some (t,c)⟩,st)::rest) K F H=((⟨d,op,some (t,c)⟩:aU).kind F).run C Hs S st (fun v H'=>wpD C Hs S rest K (F.put d v) H') H:=(rfl);rw[i];unfold aU.kind AN;simp only;cases F t with
 | none=>rfl
 | some v =>
  cases v
  case bool b =>
   simp only;by_cases e:b=c
   ·rw[if_pos e,if_pos e]; rfl
   ·rw[if_neg e,if_neg e]; simp[Kind.run]
  case tup vs=>cases vs<;>simp[Kind.run]
  all_goals rfl
@[go_sem] theorem aSZ (op:POp) (st:Bool) (d:Option Nat) (rest:List (aU × Bool)) (K:PF→PH→Prop):AN C Hs S (some (.bool true)) true st op d rest K F H=dOp C Hs S st op d (wpD C Hs S rest K) F H:=(rfl)
@[go_sem] theorem aSW (op:POp) (st:Bool) (d:Option Nat) (rest:List (aU × Bool)) (K:PF→PH→Prop):AN C Hs S (some (.bool false)) false st op d rest K F H=dOp C Hs S st op d (wpD C Hs S rest K) F H:=(rfl)
@[go_sem] theorem aSY (op:POp) (st:Bool) (d:Option Nat) (rest:List (aU × Bool)) (K:PF→PH→Prop):AN C Hs S (some (.bool true)) false st op d rest K F H=wpD C Hs S rest K (F.put d (.tup [])) H:=(rfl)
@[go_sem] theorem aSX (op:POp) (st:Bool) (d:Option Nat) (rest:List (aU × Bool)) (K:PF→PH→Prop):AN C Hs S (some (.bool false)) true st op d rest K F H=wpD C Hs S rest K (F.put d (.tup [])) H:=(rfl)
@[go_sem] theorem aPR (c:Bool) (op:POp) (st:Bool) (d:Option Nat) (rest:List (aU × Bool)) (K:PF→PH→Prop):AN C Hs S (some (.tup [])) c st op d rest K F H=wpD C Hs S rest K (F.put d (.tup [])) H:=(rfl)
@[go_sem] theorem aVR (x:aQ) (st:Bool) (d:Option Nat) (K:PF→PH→Prop):dOp C Hs S st (.mv x) d K F H=bZ (aP (.mv x) F (if st then Hs else H)) d K F H:=(rfl)
@[go_sem] theorem aUI (x:aQ) (st:Bool) (d:Option Nat) (K:PF→PH→Prop):dOp C Hs S st (.same x) d K F H=bZ (aP (.same x) F (if st then Hs else H)) d K F H:=(rfl)
@[go_sem] theorem aUH (c a b:aQ) (st:Bool) (d:Option Nat) (K:PF→PH→Prop):dOp C Hs S st (.pick c a b) d K F H=bZ (aP (.pick c a b) F (if st then Hs else H)) d K F H:=(rfl)
@[go_sem] theorem aVG (o:BinOp) (x y:aQ) (st:Bool) (d:Option Nat) (K:PF→PH→Prop):dOp C Hs S st (.bin o x y) d K F H=bZ (aP (.bin o x y) F (if st then Hs else H)) d K F H:=(rfl)
@[go_sem] theorem aVI (n:Bool) (x y:aQ) (st:Bool) (d:Option Nat) (K:PF→PH→Prop):dOp C Hs S st (.eqb n x y) d K F H=bZ (aP (.eqb n x y) F (if st then Hs else H)) d K F H:=(rfl)
@[go_sem] theorem aVJ (n:Bool) (c:List Sc) (x y:aQ) (st:Bool) (d:Option Nat) (K:PF→PH→Prop):dOp C Hs S st (.eqs n c x y) d K F H=bZ (aP (.eqs n c x y) F (if st then Hs else H)) d K F H:=(rfl)
@[go_sem] theorem aVS (o:UnOp) (x:aQ) (st:Bool) (d:Option Nat) (K:PF→PH→Prop):dOp C Hs S st (.un o x) d K F H=bZ (aP (.un o x) F (if st then Hs else H)) d K F H:=(rfl)
@[go_sem] theorem aUA (k:IntKind) (x:aQ) (st:Bool) (d:Option Nat) (K:PF→PH→Prop):dOp C Hs S st (.conv k x) d K F H=bZ (aP (.conv k x) F (if st then Hs else H)) d K F H:=(rfl)
@[go_sem] theorem aSN (z:List PV) (ps:List (Nat × Nat × aQ)) (st:Bool) (d:Option Nat) (K:PF→PH→Prop):dOp C Hs S st (.build z ps) d K F H=bZ (aP (.build z ps) F (if st then Hs else H)) d K F H:=(rfl)
@[go_sem] theorem aUF (n:Option Nat) (p:aQ) (st:Bool) (d:Option Nat) (K:PF→PH→Prop):dOp C Hs S st (.load n p) d K F H=bZ (aP (.load n p) F (if st then Hs else H)) d K F H:=(rfl)
@[go_sem] theorem aRK (x:aQ) (st:Bool) (d:Option Nat) (K:PF→PH→Prop):dOp C Hs S st (.aXP x) d K F H=bZ (aP (.aXP x) F (if st then Hs else H)) d K F H:=(rfl)
@[go_sem] theorem aRE (c:Nat) (x:aQ) (st:Bool) (d:Option Nat) (K:PF→PH→Prop):dOp C Hs S st (.aYF c x) d K F H=bZ (aP (.aYF c x) F (if st then Hs else H)) d K F H:=(rfl)
@[go_sem] theorem aSO (c:Nat) (n:Option Nat) (x:aQ) (st:Bool) (d:Option Nat) (K:PF→PH→Prop):dOp C Hs S st (.field c n x) d K F H=bZ (aP (.field c n x) F (if st then Hs else H)) d K F H:=(rfl)
@[go_sem] theorem aUC (s:Nat) (x i:aQ) (st:Bool) (d:Option Nat) (K:PF→PH→Prop):dOp C Hs S st (.aXT s x i) d K F H=bZ (aP (.aXT s x i) F (if st then Hs else H)) d K F H:=(rfl)
@[go_sem] theorem aUB (n s:Nat) (x i:aQ) (st:Bool) (d:Option Nat) (K:PF→PH→Prop):dOp C Hs S st (.idxA n s x i) d K F H=bZ (aP (.idxA n s x i) F (if st then Hs else H)) d K F H:=(rfl)
@[go_sem] theorem aUD (n s:Nat) (g:Bool) (x i:aQ) (st:Bool) (d:Option Nat) (K:PF→PH→Prop):dOp C Hs S st (.idxV n s g x i) d K F H=bZ (aP (.idxV n s g x i) F (if st then Hs else H)) d K F H:=(rfl)
@[go_sem] theorem aRF (x i:aQ) (st:Bool) (d:Option Nat) (K:PF→PH→Prop):dOp C Hs S st (.aYD x i) d K F H=bZ (aP (.aYD x i) F (if st then Hs else H)) d K F H:=(rfl)
@[go_sem] theorem aSR (s:Nat) (x:aQ) (lo hi mx:Option aQ) (st:Bool) (d:Option Nat) (K:PF→PH→Prop):dOp C Hs S st (.slice s x lo hi mx) d K F H=bZ (aP (.slice s x lo hi mx) F (if st then Hs else H)) d K F H:=(rfl)
@[go_sem] theorem aNU (x:aQ) (lo hi:Option aQ) (st:Bool) (d:Option Nat) (K:PF→PH→Prop):dOp C Hs S st (.aXZ x lo hi) d K F H=bZ (aP (.aXZ x lo hi) F (if st then Hs else H)) d K F H:=(rfl)
@[go_sem] theorem aVK (x:aQ) (st:Bool) (d:Option Nat) (K:PF→PH→Prop):dOp C Hs S st (.len x) d K F H=bZ (aP (.len x) F (if st then Hs else H)) d K F H:=(rfl)
@[go_sem] theorem aRG (x:aQ) (st:Bool) (d:Option Nat) (K:PF→PH→Prop):dOp C Hs S st (.aYC x) d K F H=bZ (aP (.aYC x) F (if st then Hs else H)) d K F H:=(rfl)
@[go_sem] theorem aUE (x:aQ) (st:Bool) (d:Option Nat) (K:PF→PH→Prop):dOp C Hs S st (.lenM x) d K F H=bZ (aP (.lenM x) F (if st then Hs else H)) d K F H:=(rfl)
@[go_sem] theorem aSP (n:Bool) (x:aQ) (st:Bool) (d:Option Nat) (K:PF→PH→Prop):dOp C Hs S st (.isNil n x) d K F H=bZ (aP (.isNil n x) F (if st then Hs else H)) d K F H:=(rfl)
@[go_sem] theorem aRD (x:aQ) (st:Bool) (d:Option Nat) (K:PF→PH→Prop):dOp C Hs S st (.aYM x) d K F H=bZ (aP (.aYM x) F (if st then Hs else H)) d K F H:=(rfl)
@[go_sem] theorem aPP (x:aQ) (i:Nat) (st:Bool) (d:Option Nat) (K:PF→PH→Prop):dOp C Hs S st (.extract x i) d K F H=bZ (aP (.extract x i) F (if st then Hs else H)) d K F H:=(rfl)
@[go_sem] theorem aRJ (m:Bool) (x y:aQ) (st:Bool) (d:Option Nat) (K:PF→PH→Prop):dOp C Hs S st (.aXX m x y) d K F H=bZ (aP (.aXX m x y) F (if st then Hs else H)) d K F H:=(rfl)
@[go_sem] theorem aUG (n:Nat) (cs:List aQ) (st:Bool) (d:Option Nat) (K:PF→PH→Prop):dOp C Hs S st (.mkfn n cs) d K F H=bZ (aP (.mkfn n cs) F (if st then Hs else H)) d K F H:=(rfl)
@[go_sem] theorem aRH (sh:MSh) (z:PV) (x k:aQ) (ok:Bool) (st:Bool) (d:Option Nat) (K:PF→PH→Prop):dOp C Hs S st (.lookup sh z x k ok) d K F H=bZ (aP (.lookup sh z x k ok) F (if st then Hs else H)) d K F H:=(rfl)
@[go_sem] theorem aNG (x:aQ) (st:Bool) (d:Option Nat) (K:PF→PH→Prop):dOp C Hs S st (.aXQ x) d K F H=bZ (aP (.aXQ x) F (if st then Hs else H)) d K F H:=(rfl)
@[go_sem] theorem aTZ (x:aQ) (st:Bool) (d:Option Nat) (K:PF→PH→Prop):dOp C Hs S st (.box true x) d K F H=bZ (aP (.box true x) F (if st then Hs else H)) d K F H:=(rfl)
@[go_sem] theorem aPO (s l:Nat) (z:List PV) (ps:List (Nat × aQ)) (st:Bool) (d:Option Nat) (K:PF→PH→Prop):dOp C Hs S st (.aXI true s l z ps) d K F H=bZ (aP (.aXI true s l z ps) F (if st then Hs else H)) d K F H:=(rfl)
@[go_sem] theorem aSM (cs:List PV) (st:Bool) (d:Option Nat) (K:PF→PH→Prop):dOp C Hs S st (.alloc cs) d K F H=nF (dD (.alloc cs) F) d K F H:=(rfl)
@[go_sem] theorem aPQ (s b:Nat) (z:List PV) (l c:aQ) (st:Bool) (d:Option Nat) (K:PF→PH→Prop):dOp C Hs S st (.aXK s b z l c) d K F H=nF (dD (.aXK s b z l c) F) d K F H:=(rfl)
@[go_sem] theorem aSQ (sh:MSh) (st:Bool) (d:Option Nat) (K:PF→PH→Prop):dOp C Hs S st (.aYI sh) d K F H=nF (dD (.aYI sh) F) d K F H:=(rfl)
@[go_sem] theorem aVH (x:aQ) (st:Bool) (d:Option Nat) (K:PF→PH→Prop):dOp C Hs S st (.box false x) d K F H=nF (dD (.box false x) F) d K F H:=(rfl)
@[go_sem] theorem aRC (s l:Nat) (z:List PV) (ps:List (Nat × aQ)) (st:Bool) (d:Option Nat) (K:PF→PH→Prop):dOp C Hs S st (.aXI false s l z ps) d K F H=nF (dD (.aXI false s l z ps) F) d K F H:=(rfl)
@[go_sem] theorem aSS (n:Nat) (p x:aQ) (st:Bool) (d:Option Nat) (K:PF→PH→Prop):dOp C Hs S st (.store n p x) d K F H=cD (.store n p x) F H (fun r H'=>Hs.le H'∧K (F.put d r) H'):=(rfl)
@[go_sem] theorem aRB (s b:Nat) (x y:aQ) (st:Bool) (d:Option Nat) (K:PF→PH→Prop):dOp C Hs S st (.append s b x y) d K F H=cD (.append s b x y) F H (fun r H'=>Hs.le H'∧K (F.put d r) H'):=(rfl)
@[go_sem] theorem aRI (sh:MSh) (x k v:aQ) (st:Bool) (d:Option Nat) (K:PF→PH→Prop):dOp C Hs S st (.aXU sh x k v) d K F H=cD (.aXU sh x k v) F H (fun r H'=>Hs.le H'∧K (F.put d r) H'):=(rfl)
theorem LZ:H.only []=PH.nil:=PH.ext fun o=>by simp[PH.only,PH.nil]
theorem bP {name:Nat} {vs:List PV} {v:PV} {args:List aQ} {st:Bool} {d:Option Nat} {K:PF→PH→Prop} (e:S name vs=some ([],fun _=>aF v)) (h:aH C name vs .nil (aF v)) (i:aQ.evs F args=some vs)
  (c:Hs.le H) (l:K (F.put d v) H):dOp C Hs S st (.call name args) d K F H:=by
 refine⟨vs,[],fun _=>aF v,i,e,fun o p=>by simp at p,by rw[LZ]; exact h,fun G=>⟨v,.nil,⟨rfl,rfl⟩,fun o x u=>by simp[PH.nil] at u⟩,?_⟩;rintro r H' ⟨rfl,rfl⟩ -;rw[LZ,PH.uW];exact⟨c,l⟩
end
theorem wrap_i64 {n:Int} (c:-9223372036854775808≤n) (d:n≤9223372036854775807):IntKind.i64.wrap n=n:=by
 have e:IntKind.i64.wrap n=if decide (n%18446744073709551616≥9223372036854775808)=true then n%18446744073709551616-18446744073709551616 else n%18446744073709551616:=by simp[IntKind.wrap,IntKind.bits,IntKind.signed]
 rw[e];split
 ·rename_i h; simp only[decide_eq_true_eq] at h; omega
 ·rename_i h; simp only[decide_eq_true_eq] at h; omega
theorem gi {k:Nat} (h:k≤9223372036854775807):IntKind.i64.wrap (k:Int)=k:=wrap_i64 Om Om
theorem dC {k:Nat} (h:k<9223372036854775807):IntKind.i64.wrap ((k:Int)+1)=((k+1:Nat):Int):=by
 rw[wrap_i64 Om Om]; omega
theorem wZz (k:Nat) (h:k<9223372036854775807:=by omega):IntKind.i64.wrap ((k:Int)+1)=((k+1:Nat):Int):=dC h
theorem wrap_u64 {n:Int} (c:0≤n) (d:n<18446744073709551616):IntKind.u64.wrap n=n:=by
 have e:IntKind.u64.wrap n=n%18446744073709551616:=by simp[IntKind.wrap,IntKind.bits,IntKind.signed]
 rw[e]; omega
abbrev ints (xs:List Int):PV:=.sl 1 (xs.map fun n=>[.int .i64 n])
open Go Go.RowKit
inductive CT where
 | int (k:IntKind)
 | bool
 | str
 | sl (es:List CT)
 deriving Inhabited
def rB (P:Program) (rec:TypeId→Option (List CT)):Nat→List Field→Option (List CT)
 | _,[]=>some []
 | k,f::c=>match rec f.type with
  | some cts=>if f.offset=k∧P.cellsOf f.type=cts.length then (rB P rec (k+cts.length) c).map (cts++·) else none
  | none=>none
def hM (P:Program):Nat→TypeId→Option (List CT)
 | 0,_=>none
 | n+1,t=>match P.underlying t with
  | some .bool=>some [.bool]
  | some (.int k)=>some [.int k]
  | some .string=>some [.str]
  | some (.slice e)=>match hM P n e with
   | some cts=>if P.cellsOf e=cts.length∧0<cts.length then some [.sl cts] else none
   | none=>none
  | some (.struct c)=>match rB P (hM P n) 0 c.toList with
   | some cts=>if P.cellsOf t=cts.length then some cts else none
   | none=>none
  | some (.array k e)=>match hM P n e with
   | some cts=>if P.cellsOf e=cts.length∧P.cellsOf t=k*cts.length then some (aYR k cts).flatten else none
   | none=>none
  | _=>none
inductive PV.Ty:CT→PV→Prop
 | int {k:IntKind} {n:Int} (h:(Lit.int k n).wf=true):PV.Ty (.int k) (.int k n)
 | bool (b:Bool):PV.Ty .bool (.bool b)
 | str {s:List UInt8} (h:s.length≤maxLen):PV.Ty .str (.str s)
 | sl {es:List CT} {rows:List (List PV)} (hr:∀ r∈rows,r.length=es.length) (hl:rows.length≤maxLen) (h:∀ (i j:Nat) pv ct,at2 rows i j=some pv→es[j]?=some ct→PV.Ty ct pv):PV.Ty (.sl es) (.sl es.length rows)
def Env.of (W:World) (num:Nat→FuncId):Env:=⟨fun b=>match W.heap[b]? with | some (.cells cs _ _)=>some cs | _=>none,fun _=>none,num⟩
theorem bQ.start (W:World) (num:Nat→FuncId):bQ (Env.of W num) PH.nil W:=by
 refine⟨fun b cs d=>⟨fun x e=>(by cases e),?_⟩,fun o x e=>(by cases e),fun o n h=>(by cases h)⟩;simp only[Env.of] at d;split at d
 ·rename_i c ty fr h;cases d;exact⟨ty,fr,h⟩
 ·cases d
structure Reads (E:Env) (cts:List CT) (pvs:List PV) (cs:List Value):Prop where
 lp:pvs.length=cts.length
 lc:cs.length=cts.length
 rep:∀ (j:Nat) pv c,pvs[j]?=some pv→cs[j]?=some c→bA E pv c∧c.oneCell'=true
 ty:∀ (j:Nat) pv ct,pvs[j]?=some pv→cts[j]?=some ct→PV.Ty ct pv
theorem Reads.one {E:Env} {ct:CT} {pv:PV} {c:Value} (h:bA E pv c) (d:c.oneCell'=true) (e:PV.Ty ct pv):Reads E [ct] [pv] [c]:=by
 refine⟨rfl,rfl,fun j p u a b=>?_,fun j p u a b=>?_⟩
 ·cases j with
  | zero=>simp at a b; subst a; subst b; exact⟨h,d⟩
  | succ j=>simp at a
 ·cases j with
  | zero=>simp at a b; subst a; subst b; exact e
  | succ j=>simp at a
theorem Reads.append {E:Env} {c e:List CT} {d w:List PV} {i l:List Value} (h:Reads E c d i) (k:Reads E e w l):Reads E (c++e) (d++w) (i++l):=by
 refine⟨by simp[h.lp,k.lp],by simp[h.lc,k.lc],fun j p u a b=>?_,fun j p u a b=>?_⟩
 ·rcases aZL j d.length with hj | hj
  ·rw[a0V hj] at a;rw[a0V (by rw[h.lc,← h.lp]; exact hj)] at b;exact h.rep j p u a b
  ·rw[a1I hj] at a;rw[a1I (by rw[h.lc,← h.lp]; exact hj)] at b;rw[show j-i.length=j-d.length by rw[h.lc,h.lp]] at b;exact k.rep _ p u a b
 ·rcases aZL j d.length with hj | hj
  ·rw[a0V hj] at a;rw[a0V (by rw[← h.lp]; exact hj)] at b;exact h.ty j p u a b
  ·rw[a1I hj] at a;rw[a1I (by rw[← h.lp]; exact hj)] at b;rw[show j-c.length=j-d.length by rw[h.lp]] at b;exact k.ty _ p u a b
theorem i5 {W:World} {num:Nat→FuncId} {a:Addr} {v:Value} (h:W.cell? a=some v):a.spot=none∧(Env.of W num).cell a.block a.off=some v:=by
 unfold World.cell? at h;split at h
 ·rename_i c ty fr d;split at h
  ·cases h
  ·rename_i e;refine⟨by simpa using e,?_⟩;simp only[Env.cell,Env.of,d];exact h
 ·cases h
inductive PV.Len (N:Nat):PV→Prop
 | flat {pv:PV} (h1:∀ n rows,pv≠.sl n rows) (h2:∀ vs,pv≠.agg vs):PV.Len N pv
 | sl {n:Nat} {rows:List (List PV)} (h:rows.length≤N) (hr:∀ r∈rows,∀ v∈r,PV.Len N v):PV.Len N (.sl n rows)
 | agg {vs:List PV} (h:∀ v∈vs,PV.Len N v):PV.Len N (.agg vs)
theorem PV.Len.int {N:Nat} (k:IntKind) (n:Int):PV.Len N (.int k n):=.flat (fun _ _ h=>by cases h) fun _ h=>by cases h
theorem PV.Len.bool {N:Nat} (b:Bool):PV.Len N (.bool b):=.flat (fun _ _ h=>by cases h) fun _ h=>by cases h
theorem PV.Len.str {N:Nat} (s:List UInt8):PV.Len N (.str s):=.flat (fun _ _ h=>by cases h) fun _ h=>by cases h
theorem PV.Len.rows {N n:Nat} {rows:List (List PV)} (h:PV.Len N (.sl n rows)):rows.length≤N∧∀ r∈rows,∀ v∈r,PV.Len N v:=by
 cases h with
 | flat c _=>exact absurd rfl (c n rows)
 | sl c d=>exact⟨c,d⟩
theorem PV.Len.parts {N:Nat} {vs:List PV} (h:PV.Len N (.agg vs)):∀ v∈vs,PV.Len N v:=by
 cases h with
 | flat _ c=>exact absurd rfl (c vs)
 | agg h=>exact h
structure wV {H:Type} (P:Program) (N:Nat) (S:TypeId→DataW H→Prop):Prop where
 sl:∀ t e elems spare,P.underlying t=some (.slice e)→S t (.slice elems spare)→elems.length≤N∧∀ d∈elems,S e d
 st:∀ t fs parts,P.underlying t=some (.struct fs)→S t (.agg parts)→∀ (i:Nat) g d,fs[i]?=some g→parts[i]?=some d→S g.type d
 ar:∀ t n e parts,P.underlying t=some (.array n e)→S t (.agg parts)→∀ d∈parts,S e d
theorem VU {H:Type} {P:Program} {A:(TypeId→DataW H→Prop)→Prop} {pv:PV} (h:∀ {N},PV.Len N pv):∀ N S,wV P N S→A S→∀ v∈[pv],PV.Len N v:=fun N S _ _ v c=>by
 obtain rfl:=a0Q.1 c;exact h
theorem kx {P:Program} {E:Env} {rec:TypeId→Option (List CT)} {H:Type} {f:TypeId→List Value→Option (DataW H × List MemPlace)}
  (F:∀ t cs x cts,f t cs=some x→rec t=some cts→∃ d,Reads E cts d cs∧∀ N S,wV P N S→S t x.1→∀ v∈d,PV.Len N v) (cs:List Value) :
  ∀ (i:List Field) (k:Nat) (cts:List CT),(∀ g∈i,∃ x,f g.type ((cs.drop g.offset).take (P.cellsOf g.type))=some x)→rB P rec k i=some cts →
   ∃ d,Reads E cts d ((cs.drop k).take cts.length)∧∀ N S,wV P N S→(∀ g∈i,∀ x,f g.type ((cs.drop g.offset).take (P.cellsOf g.type))=some x→S g.type x.1)→∀ v∈d,PV.Len N v
 | [],k,cts,_,h=>by simp[rB] at h; subst h;exact⟨[],⟨rfl,by simp,fun j p c a=>by simp at a,fun j p c a=>by simp at a⟩,fun _ _ _ _ v hv=>by cases hv⟩
 | g::i,k,cts,A,h=>by
  simp only[rB] at h;split at h
  ·rename_i J M;split at h
   ·rename_i y;simp only[aYX] at h;obtain⟨K,O,rfl⟩:=h;obtain⟨x,B⟩:=A g (by simp);obtain⟨U,r1,Q⟩:=F _ _ _ _ B M;rw[y.1,y.2] at r1;obtain⟨V,r2,R⟩:=kx F cs i (k+J.length) K (fun l e=>A l (by simp[e])) O;refine⟨U++V,?_,fun N S u w v hv=>?_⟩
    ·have:=r1.append r2;rw[aYU,List.take_add,List.drop_drop];exact this
    ·rcases a0G.1 hv with hv | hv
     ·exact Q N S u (w g (by simp) x B) v hv
     ·exact R N S u (fun l e=>w l (by simp[e])) v hv
   ·cases h
  ·cases h
theorem Be {E:Env} {cts:List CT} {R:List PV→Prop} (e:R []) (l:∀ a b,R a→R b→R (a++b)) (cs:List Value) :
  ∀ n:Nat,(∀ i,i<n→∃ d,Reads E cts d ((cs.drop (i*cts.length)).take cts.length)∧R d)→∃ d,Reads E (aYR n cts).flatten d (cs.take (n*cts.length))∧R d
 | 0,_=>⟨[],⟨rfl,by simp,fun j p c a=>by simp at a,fun j p c a=>by simp at a⟩,e⟩
 | n+1,h=>by obtain⟨u,r1,x⟩:=Be e l cs n fun i hi=>h i Om;obtain⟨w,r2,y⟩:=h n Om;refine⟨u++w,?_,l _ _ x y⟩;rw[List.replicate_succ',List.flatten_append,List.flatten_singleton,a1V,List.take_add];exact r1.append r2
theorem Uu {H:Type} {enc:TypeId × Value→H} {P:Program} {W:World} {base:Nat} {sp:Nat→Bool} {α:Bool} (num:Nat→FuncId) :
  ∀ (fuel m:Nat) (t:TypeId) (cs:List Value) (x:DataW H × List MemPlace) (cts:List CT),DataW.trod enc P W base sp α fuel t cs=some x→hM P m t=some cts→∃ c,Reads (Env.of W num) cts c cs∧∀ N S,wV P N S→S t x.1→∀ v∈c,PV.Len N v:=by
 intro fuel
 induction fuel with
 | zero=>intro m t cs x cts h; simp[DataW.trod] at h
 | succ fuel ih =>
  intro m t cs x cts h p;cases m with
  | zero=>simp[hM] at p
  | succ m =>
   simp only[hM] at p;split at p
   ·rename_i M;cases p;obtain⟨b,rfl,-⟩:=DataW.trod_bool M h;exact⟨[.bool b],.one (.bool b) rfl (.bool b),VU (.bool b)⟩
   ·rename_i k M;cases p;obtain⟨n,rfl,-,hw⟩:=DataW.trod_int M h;exact⟨[.int k n],.one (.int k n) rfl (.int hw),VU (.int k n)⟩
   ·rename_i M;cases p;obtain⟨s,rfl,-,hs⟩:=DataW.trod_string M h;exact⟨[.str s.data.toList],.one (.str s) rfl (.str (by rw[a1W]; exact hs)),VU (.str _)⟩
   ·rename_i e M;split at p
    ·rename_i l he;split at p
     ·rename_i u;cases p;rcases DataW.trod_slice M h with ⟨rfl,-⟩ | ⟨a,len,cap,elems,rest,n,hn,rfl,V,-,β,hcap,hel,helem,-⟩
      ·refine⟨[.sl l.length []],.one ?_ rfl (.sl (by simp) (by simp) (by simp[at2])),VU (.sl (aYS _) (fun r Q=>by cases Q))⟩;exact .sl (fun _ _=>.bool false) (by simp) (by decide) (by simp) (by simp) (fun _ _=>rfl) (by simp[at2])
      ·cases hn;have each:∀ i,i<len→∃ c X,(Reads (Env.of W num) l c X∧∀ N S,wV P N S→(∀ d∈elems.map (·.1),S e d)→∀ v∈c,PV.Len N v)∧W.cells? base (a.add (i*l.length)) l.length=some X:=by intro i hi;have Z:=helem i hi;rw[aZA Om,a2J] at Z;obtain⟨X,h2,h3⟩:=Z;obtain⟨c,r,rl⟩:=ih m e X _ l h3 he;rw[u.1] at h2;exact⟨c,X,⟨r,fun N S F J=>rl N S F (J _ (aZQ.2 ⟨_,aYQ _,rfl⟩))⟩,h2⟩
       have γ:∀ i,∃ c,∃ X,i<len→(Reads (Env.of W num) l c X∧∀ N S,wV P N S→(∀ d∈elems.map (·.1),S e d)→∀ v∈c,PV.Len N v)∧W.cells? base (a.add (i*l.length)) l.length=some X:=by
        intro i;by_cases hi:i<len
        ·obtain⟨c,X,Z⟩:=each i hi;exact⟨c,X,fun _=>Z⟩
        ·exact⟨[],[],fun h=>(hi h).elim⟩
       obtain⟨pf,ν⟩:=Classical.axiomOfChoice γ;obtain⟨uf,K⟩:=Classical.axiomOfChoice ν;have δ:∀ i j pv,at2 ((aYO len).map pf) i j=some pv→i<len∧(pf i)[j]?=some pv:=by
        intro i j pv A;unfold at2 at A;rw[aZN,a2J] at A;obtain⟨r,Q,A⟩:=A;rw[aYX] at Q;obtain⟨i',O,rfl⟩:=Q;have hi:i<len:=by simpa using (aZU.1 O).1
        have:i'=i:=by simp[hi] at O; exact O.symm
        subst this;exact⟨hi,A⟩
       have hu2:∀ i j pv,at2 ((aYO len).map pf) i j=some pv→∃ v,(uf i)[j]?=some v∧j<l.length∧bA (Env.of W num) pv v∧v.oneCell'=true:=by
        intro i j pv A;obtain⟨hi,U⟩:=δ i j pv A;obtain⟨⟨r,-⟩,-⟩:=K i hi;have hj:j<l.length:=by rw[← r.lp]; exact (aZU.1 U).1
        have B:(uf i)[j]?=some ((uf i)[j]'(by rw[r.lc]; exact hj)):=aZA _;exact⟨_,B,hj,(r.rep j pv _ U B).1,(r.rep j pv _ U B).2⟩
       have Y:((aYO len).map pf).length=len:=by simp
       refine⟨[.sl l.length ((aYO len).map pf)],.one ?_ rfl (.sl (fun r Q=>?_) (by rw[Y]; omega) fun i j pv ct A ι=>?_),fun N S F J v B=>?_⟩
       ·have ζ:=bA.sl (E:=Env.of W num) (size:=l.length) (rows:=(aYO len).map pf) (a:=some a) (cap:=cap)
         (fun i j=>match at2 ((aYO len).map pf) i j with | some _=>((uf i)[j]?).getD (.bool false) | none=>.bool false) (by rw[Y]; exact β) hcap
         (fun r Q=>by simp only[aZQ,aZR] at Q;obtain⟨i,hi,rfl⟩:=Q;exact (K i hi).1.1.lp)
         (fun μ=>by
          have κ:0<len:=by
           rcases a1B len with h | h
           ·subst h; exact (μ rfl).elim
           ·exact h
          have ε:a.spot=none:=by obtain⟨⟨r,-⟩,p⟩:=K 0 κ;have h3:=(World.cells?_some p).2.2 0 u.2;rw[Nat.zero_mul,Addr.add_zero',Addr.add_zero',aZA (by rw[r.lc]; exact u.2)] at h3;exact (i5 (num:=num) h3).1
          refine⟨a,rfl,ε,fun i j pv A=>?_⟩;obtain⟨hi,-⟩:=δ i j pv A;obtain⟨v,B,hj,-⟩:=hu2 i j pv A;have h3:=(World.cells?_some (K i hi).2).2.2 j hj;rw[oG ε,add_plain,add_plain,B] at h3;have h4:=(i5 (num:=num) h3).2;simp only[A,B,a1L];exact h4)
         (fun i j=>by
          split
          ·rename_i pv A;obtain⟨v,B,-,-,Z⟩:=hu2 i j pv A;simp[B,Z]
          ·rfl)
         (fun i j pv A=>by obtain⟨v,B,-,Z,-⟩:=hu2 i j pv A;simp only[A,B,a1L];exact Z)
        rw[Y] at ζ;exact ζ
       ·simp only[aZQ,aZR] at Q;obtain⟨i,hi,rfl⟩:=Q;exact (K i hi).1.1.lp
       ·obtain⟨hi,U⟩:=δ i j pv A;exact (K i hi).1.1.ty j pv ct U ι
       ·rw[V] at J;obtain⟨m1,m2⟩:=F.sl t e _ _ M J;obtain rfl:=a0Q.1 B;refine .sl (by rw[Y]; simpa [hel] using m1) fun r Q w hw=>?_;simp only[aZQ,aZR] at Q;obtain⟨i,hi,rfl⟩:=Q;exact (K i hi).1.2 N S F m2 w hw
     ·cases p
    ·cases p
   ·rename_i fs M;split at p
    ·rename_i ο η;split at p
     ·rename_i β;cases p;obtain⟨xs,n,hn,V,θ,ξ,hx⟩:=DataW.trod_struct M h;cases hn;have:=kx (f:=DataW.trod enc P W base sp α fuel) (fun t cs x cts a b=>ih m t cs x cts a b) cs fs.toList 0 cts (fun g hg=>by obtain⟨i,hi,rfl⟩:=a0C hg;have:=hx i fs.toList[i] (by simp at hi; simp[hi]);rw[this];exact⟨_,aZA (by simp at hi; omega)⟩) η
      rw[a0B,aZJ Om] at this;obtain⟨c,r,rl⟩:=this;refine⟨c,r,fun N S F J=>rl N S F fun g hg y hy=>?_⟩;rw[V] at J;obtain⟨i,hi,rfl⟩:=a0C hg;have O:i<fs.size:=by simpa using hi
      have:=hx i fs.toList[i] (by simp[O]);rw[hy,aZA Om] at this;refine F.st t fs _ M J i fs.toList[i] y.1 (by simp[O]) ?_;rw[aZN,aZA Om,← this]; rfl
     ·cases p
    ·cases p
   ·rename_i k e M;split at p
    ·rename_i l he;split at p
     ·rename_i u;cases p;obtain⟨xs,n,hn,V,θ,ξ,hx⟩:=DataW.trod_array M h;cases hn;obtain⟨c,r,hq⟩:=Be (E:=Env.of W num) (cts:=l) (R:=fun c=>∀ N S,wV P N S→(∀ d:DataW H,d∈xs.map (fun y:DataW H × List MemPlace=>y.1)→S e d)→∀ v∈c,PV.Len N v) (fun _ _ _ _ v B=>by cases B)
       (fun a b ha hb N S F J v B=>(a0G.1 B).elim (ha N S F J v) (hb N S F J v)) cs k fun i hi=>by have h2:=hx i hi;rw[aZA Om,u.1] at h2;obtain⟨c,r,rl⟩:=ih m e _ _ l h2 he;exact⟨c,r,fun N S F J=>rl N S F (J _ (aZQ.2 ⟨_,aYQ _,rfl⟩))⟩
      rw[aZJ Om] at r;exact⟨c,r,fun N S F J=>hq N S F (F.ar t k e _ M (by rw[V] at J; exact J))⟩
     ·cases p
    ·cases p
   ·cases p
open Go Go.RowKit Go.ChangeShapes Go.WideShapes
theorem Ext.below {E d:Env} {H':PH} {w c:World} (h:Ext E PH.nil w d H' c):Below w.heap.size w c :=
 ⟨h.os,h.tape,h.output,h.size,fun k e=>h.block k e rfl⟩
theorem Below.trodAll {H:Type} {enc:TypeId × Value→H} {P:Program} (w:laidOutB P=true) {W e:World} (l:Below W.heap.size W e) :
  ∀ {ts:List TypeId} {vs:List Value} {ds:List (DataW H)} {ps:List MemPlace},(∀ t∈ts,P.readableRec t=true∧t<P.types.size)→DataW.TrodAll enc P W 0 (fun _=>true) true ts vs ds ps →
   DataW.TrodAll enc P e 0 (fun b=>decide (b<W.heap.size)) true ts vs ds ps
 | [],[],[],ps,_,h=>h
 | [],_::_,_,_,_,h=>h.elim
 | [],[],_::_,_,_,h=>h.elim
 | _::_,[],_,_,_,h=>h.elim
 | _::_,_::_,[],_,_,h=>h.elim
 | t::ts,v::vs,d::ds,ps,c,h=>by obtain⟨p,q,i,y,rfl⟩:=h;have hlt:∀ x∈p,x.block<W.heap.size:=fun x B=>DataW.TrodAll.lt (ts:=[t]) (vs:=[v]) (ds:=[d]) ⟨p,[],i,rfl,(a0M p).symm⟩ x B;exact⟨p,q,Below.trod w (c t (by simp)).1 (c t (by simp)).2 i l hlt,Below.trodAll w l (fun u A=>c u (by simp[A])) y,rfl⟩
theorem auV {H:Type} {enc:TypeId × Value→H} {P:Program} {f:Func} {s:ChangeSpec} {c apart fresh:Bool} {W y:World} {args:Array Value} {ds e:List (DataW H)} {d:List MemPlace} {bt:TypeId}
  (F:laidOutB P=true) (hW:DataW.Whole enc P f.params.toList s.vars apart W args.toList ds e d) (B:Below W.heap.size W y) (u:∀ t∈f.params.toList,P.readableRec t=true∧t<P.types.size)
  (l:f.resultTypes=#[bt]) (i:P.underlying bt=some .bool) (w:s.vars=[]) (K:(s.fn H (ds++e)).results=[.lit (.bool true)]) (E:(s.fn H (ds++e)).args=ds) (x:(s.fn H (ds++e)).vars=[]) :
  s.post enc P f apart fresh c false W args (.bool true) y:=by
 obtain⟨p,q,A,hV,rfl,M,J⟩:=hW;rw[w] at hV;obtain⟨rfl,rfl⟩:=trodVars_none hV;refine⟨ds,[],p++[],[],p,[],⟨p,[],A,by rw[w]; exact hV,rfl,M,J⟩,?_,?_,?_,B.frame _,fun h=>by cases h⟩
 ·rw[K,l];refine⟨[],[],⟨1,?_⟩,rfl,rfl⟩;simp[DataW.trod,i,Value.cells,Value.resultList]
 ·rw[E];exact Below.trodAll F B u A
 ·rw[w,x];exact rfl
theorem asT {C:Ctx} {name:Nat} {W:World} {args:Array Value} {d:List PV} (h:aH C name d PH.nil (aF (.bool true))) (u:eQ (Env.of W C.num) d args.toList) :
  Calls C.P (C.num name) args W fun e i=>e=.returned (.bool true)∧Below W.heap.size W i :=
 (h.2 (Env.of W C.num) W args rfl (bQ.start W C.num) u).mono fun e i p=>by obtain⟨v,pv,w,H',rfl,-,c,l,rfl,-⟩:=p;cases c;exact⟨rfl,l.below⟩
def InK (k:IntKind) (n:Int):Prop:=k.min≤n∧n≤k.max
def amZ (k:IntKind) (xs:List Int):PV:=.sl 1 (xs.map fun n=>[.int k n])
theorem Ty.WI {k:IntKind} {pv:PV} (h:PV.Ty (.int k) pv):∃ n,pv=.int k n∧InK k n:=by
 cases h with
 | int h=>simp only[Lit.wf,aZD,decide_eq_true_eq] at h; exact⟨_,rfl,h⟩
theorem Ty.ayM {pv:PV} (h:PV.Ty .bool pv):∃ b,pv=.bool b:=by
 cases h; exact⟨_,rfl⟩
theorem Ty.aLM {ct:CT} {pv:PV} (h:PV.Ty (.sl [ct]) pv):∃ vs:List PV,pv=.sl 1 (vs.map fun v=>[v])∧vs.length≤maxLen∧∀ v∈vs,PV.Ty ct v:=by
 cases h with
 | @sl y rows w u h =>
 have c:∀ r∈rows,r=[r.headD .junk]:=fun r d=>by
  have:=w r d
  match r,this with
  | [x],_=>rfl
 have e:rows=(rows.map fun r=>r.headD .junk).map fun v=>[v]:=by rw[List.map_map];apply a1Y (by simp);intro n p A;simp only[a0K,Function.comp];exact c _ (aYQ p)
 refine⟨rows.map fun r=>r.headD .junk,by rw[← e]; rfl,by simpa using u,fun v l=>?_⟩;rw[aZQ] at l;obtain⟨r,d,rfl⟩:=l;obtain⟨i,hi,rfl⟩:=a0C d;refine h i 0 _ ct ?_ rfl;have:=c rows[i] d;unfold at2;rw[aZA hi,a2C,this];rfl
theorem Ty.Pp {k:IntKind} {pv:PV} (h:PV.Ty (.sl [.int k]) pv):∃ xs:List Int,pv=amZ k xs∧xs.length≤maxLen∧∀ x∈xs,InK k x:=by
 obtain⟨vs,rfl,u,d⟩:=Ty.aLM h;have e:vs=(vs.map fun v=>match v with | .int _ n=>n | _=>0).map fun n=>PV.int k n:=by rw[List.map_map];apply a1Y (by simp);intro n l w;simp only[a0K,Function.comp];obtain⟨m,c,-⟩:=Ty.WI (d _ (aYQ l));rw[c]
 refine⟨vs.map fun v=>match v with | .int _ n=>n | _=>0,?_,by simpa using u,fun x i=>?_⟩
 ·unfold amZ
  conv=>lhs; rw[e]
  rw[List.map_map];rfl
 ·rw[aZQ] at i;obtain⟨v,c,rfl⟩:=i;obtain⟨m,rfl,p⟩:=Ty.WI (d v c);exact p
abbrev Rg:=List aU
abbrev Rd:=List (aU×Bool)
def iM (d s:Nat):aU:=⟨some d,.mv (.tmp s),none⟩
def iI (d:Nat) (n:Int):aU:=⟨some d,.mv (.const (.int .i64 n)),none⟩
def iB (d:Nat) (o:BinOp) (x y:Nat):aU:=⟨some d,.bin o (.tmp x) (.tmp y),none⟩
def iC (d:Nat) (o:BinOp) (x:Nat) (n:Int):aU:=⟨some d,.bin o (.tmp x) (.const (.int .i64 n)),none⟩
def iL (d s:Nat):aU:=⟨some d,.load none (.tmp s),none⟩
def iX (d n x y:Nat):aU:=⟨some d,.aXT n (.tmp x) (.tmp y),none⟩
def iN (d x:Nat):aU:=⟨some d,.len (.tmp x),none⟩
def iF (d n x:Nat):aU:=⟨some d,.aYF n (.tmp x),none⟩
def iS (n p x:Nat):aU:=⟨none,.store n (.tmp p) (.tmp x),none⟩
def iA (d:Nat) (o:POp):aU:=⟨some d,o,none⟩
def iG (d:Nat) (o:POp) (g:Nat) (b:Bool):aU:=⟨some d,o,some (g,b)⟩
def iP (d a b:Nat):aU:=⟨some d,.pick (.tmp a) (.tmp b) (.const (.bool false)),none⟩
def iQ (d a b:Nat):aU:=⟨some d,.pick (.tmp a) (.const (.bool true)) (.tmp b),none⟩
def iO (d s a:Nat):aU:=⟨some d,.load (some s) (.tmp a),none⟩
def iE (d a n:Nat):aU:=⟨some d,.extract (.tmp a) n,none⟩
def iK (d f a:Nat):aU:=⟨some d,.call f [.tmp a],none⟩
def iK2 (d f a b:Nat):aU:=⟨some d,.call f [.tmp a,.tmp b],none⟩
def iT (d:Nat) (b:Bool):aU:=⟨some d,.mv (.const (.bool b)),none⟩
def iZ (d:Nat):aU:=⟨some d,.mv (.const .aB),none⟩
def gM (d s g:Nat) (b:Bool):aU:=⟨some d,.mv (.tmp s),some (g,b)⟩
def gL (d s g:Nat) (b:Bool):aU:=⟨some d,.load none (.tmp s),some (g,b)⟩
def gF (d n s g:Nat) (b:Bool):aU:=⟨some d,.aYF n (.tmp s),some (g,b)⟩
def gN (d s g:Nat) (b:Bool):aU:=⟨some d,.len (.tmp s),some (g,b)⟩
def gO (d n s g:Nat) (b:Bool):aU:=⟨some d,.load (some n) (.tmp s),some (g,b)⟩
def gK (d f a g:Nat) (b:Bool):aU:=⟨some d,.call f [.tmp a],some (g,b)⟩
def gK2 (d f a c g:Nat) (b:Bool):aU:=⟨some d,.call f [.tmp a,.tmp c],some (g,b)⟩
def gC (d:Nat) (o:BinOp) (x:Nat) (n:Int) (g:Nat) (b:Bool):aU:=⟨some d,.bin o (.tmp x) (.const (.int .i64 n)),some (g,b)⟩
def gB (d:Nat) (o:BinOp) (x y g:Nat) (b:Bool):aU:=⟨some d,.bin o (.tmp x) (.tmp y),some (g,b)⟩
def zI:PV:=.int .i64 0
def zB:PV:=.bool false
def sq (r:Rg) (c:aC):aC:=.seq (.region r) c
def dq (r:Rd) (c:aC):aC:=.seq (.draw r) c
def Tm (n:Nat):aQ:=.tmp n
def Ci (n:Int):aQ:=.const (.int .i64 n)
@[go_sem] theorem aWQ (d s:Nat):iM d s=⟨some d,.mv (.tmp s),none⟩:=(rfl)
@[go_sem] theorem aWN (d:Nat) (n:Int):iI d n=⟨some d,.mv (.const (.int .i64 n)),none⟩:=(rfl)
@[go_sem] theorem aWI (d:Nat) (o:BinOp) (x y:Nat):iB d o x y=⟨some d,.bin o (.tmp x) (.tmp y),none⟩:=(rfl)
@[go_sem] theorem aWJ (d:Nat) (o:BinOp) (x:Nat) (n:Int):iC d o x n=⟨some d,.bin o (.tmp x) (.const (.int .i64 n)),none⟩:=(rfl)
@[go_sem] theorem aWP (d s:Nat):iL d s=⟨some d,.load none (.tmp s),none⟩:=(rfl)
@[go_sem] theorem aWX (d n x y:Nat):iX d n x y=⟨some d,.aXT n (.tmp x) (.tmp y),none⟩:=(rfl)
@[go_sem] theorem aWR (d x:Nat):iN d x=⟨some d,.len (.tmp x),none⟩:=(rfl)
@[go_sem] theorem aWL (d n x:Nat):iF d n x=⟨some d,.aYF n (.tmp x),none⟩:=(rfl)
@[go_sem] theorem aWV (n p x:Nat):iS n p x=⟨none,.store n (.tmp p) (.tmp x),none⟩:=(rfl)
@[go_sem] theorem aWH (d:Nat) (o:POp):iA d o=⟨some d,o,none⟩:=(rfl)
@[go_sem] theorem aWM (d:Nat) (o:POp) (g:Nat) (b:Bool):iG d o g b=⟨some d,o,some (g,b)⟩:=(rfl)
@[go_sem] theorem aWT (d a b:Nat):iP d a b=⟨some d,.pick (.tmp a) (.tmp b) (.const (.bool false)),none⟩:=(rfl)
@[go_sem] theorem aWU (d a b:Nat):iQ d a b=⟨some d,.pick (.tmp a) (.const (.bool true)) (.tmp b),none⟩:=(rfl)
@[go_sem] theorem aWS (d s a:Nat):iO d s a=⟨some d,.load (some s) (.tmp a),none⟩:=(rfl)
@[go_sem] theorem aWK (d a n:Nat):iE d a n=⟨some d,.extract (.tmp a) n,none⟩:=(rfl)
@[go_sem] theorem aWO (d f a:Nat):iK d f a=⟨some d,.call f [.tmp a],none⟩:=(rfl)
@[go_sem] theorem aVU (d f a b:Nat):iK2 d f a b=⟨some d,.call f [.tmp a,.tmp b],none⟩:=(rfl)
@[go_sem] theorem aWW (d:Nat) (b:Bool):iT d b=⟨some d,.mv (.const (.bool b)),none⟩:=(rfl)
@[go_sem] theorem aWY (d:Nat):iZ d=⟨some d,.mv (.const .aB),none⟩:=(rfl)
@[go_sem] theorem aWE (d s g:Nat) (b:Bool):gM d s g b=⟨some d,.mv (.tmp s),some (g,b)⟩:=(rfl)
@[go_sem] theorem aWD (d s g:Nat) (b:Bool):gL d s g b=⟨some d,.load none (.tmp s),some (g,b)⟩:=(rfl)
@[go_sem] theorem aWB (d n s g:Nat) (b:Bool):gF d n s g b=⟨some d,.aYF n (.tmp s),some (g,b)⟩:=(rfl)
@[go_sem] theorem aWF (d s g:Nat) (b:Bool):gN d s g b=⟨some d,.len (.tmp s),some (g,b)⟩:=(rfl)
@[go_sem] theorem aWG (d n s g:Nat) (b:Bool):gO d n s g b=⟨some d,.load (some n) (.tmp s),some (g,b)⟩:=(rfl)
@[go_sem] theorem aWC (d f a g:Nat) (b:Bool):gK d f a g b=⟨some d,.call f [.tmp a],some (g,b)⟩:=(rfl)
@[go_sem] theorem aVT (d f a c g:Nat) (b:Bool):gK2 d f a c g b=⟨some d,.call f [.tmp a,.tmp c],some (g,b)⟩:=(rfl)
@[go_sem] theorem aWA (d:Nat) (o:BinOp) (x:Nat) (n:Int) (g:Nat) (b:Bool):gC d o x n g b=⟨some d,.bin o (.tmp x) (.const (.int .i64 n)),some (g,b)⟩:=(rfl)
@[go_sem] theorem aVZ (d:Nat) (o:BinOp) (x y g:Nat) (b:Bool):gB d o x y g b=⟨some d,.bin o (.tmp x) (.tmp y),some (g,b)⟩:=(rfl)
@[go_sem] theorem aXB:zI=.int .i64 0:=(rfl)
@[go_sem] theorem aXA:zB=.bool false:=(rfl)
@[go_sem] theorem aWZ (r:Rg) (c:aC):sq r c=.seq (.region r) c:=(rfl)
@[go_sem] theorem aVY (r:Rd) (c:aC):dq r c=.seq (.draw r) c:=(rfl)
@[go_sem] theorem aVX (n:Nat):Tm n=.tmp n:=(rfl)
@[go_sem] theorem aVW (n:Int):Ci n=.const (.int .i64 n):=(rfl)
end Go.PM
namespace Go.PM
open Go
def L8:Rg:=[iT 4 false]
def L9:Rg:=[iM 6 0,iN 7 6,iM 8 1,iN 9 8,iB 10 .neq 7 9]
def azW:Rg:=[iT 4 false]
def Ma:Rg:=[iI 5 0]
def Mb:Rg:=[iM 11 5,iM 12 0,iN 13 12,iB 14 .lss 11 13]
def Mc:Rd:=[(iM 17 0,false),(iM 18 5,false),(iX 19 1 17 18,false),(iL 20 19,false),(iM 21 1,false),(iM 22 5,false),(iX 23 1 21 22,false),(iL 24 23,false),(iB 25 .neq 20 24,false)]
def azX:Rg:=[iT 4 false]
def Md:Rg:=[iM 15 5,iC 16 .add 15 1,iM 5 16]
def L7:aC:=(.seq (sq Mb (.cond (Tm 14) .skip (.exit 0))) (.seq (.block 1 (dq Mc (.cond (Tm 25) (sq azX .ret) .skip))) (.region Md)))
def Me:Rg:=[iT 4 true]
def IQ:aC:=(sq L8 (.seq (sq L9 (.cond (Tm 10) (sq azW .ret) .skip)) (.seq (sq Ma (.block 0 (.loop L7))) (sq Me .ret))))
def azY:List Nat:=[]
def alN:aX:=⟨2,26,IQ,[.tmp 4]⟩
def LC:Rg:=[iI 2 0]
def LD:Rg:=[iM 4 0,iN 5 4,iM 3 5]
def LE:Rg:=[iM 6 3,iC 7 .gtr 6 0,iM 8 7,gM 9 0 8 true,gM 10 3 8 true,gC 11 .sub 10 1 8 true,iG 12 (.aXT 1 (Tm 9) (Tm 11)) 8 true,gL 13 12 8 true,iG 14 (.bin .eql (Tm 13) (.const (.int .u32 0))) 8 true,iP 15 8 14]
def LF:Rg:=[iM 16 3,iC 17 .sub 16 1,iM 3 17]
def KZ:aC:=(.seq (sq LE (.cond (Tm 15) .skip (.exit 0))) (.block 1 (.region LF)))
def tN:Rg:=[iM 18 3,iM 2 18]
def pT:aC:=(sq LC (sq LD (.seq (.block 0 (.loop KZ)) (sq tN .ret))))
def anZ:List Nat:=[]
def GT:aX:=⟨1,19,pT,[.tmp 2]⟩
def Dd:Rg:=[iT 2 false]
def De:Rg:=[iM 3 0,iK 4 138 3,iC 5 .gtr 4 512,iM 2 5]
def EN:aC:=(sq Dd (sq De .ret))
def atS:List Nat:=[]
def R4:aX:=⟨1,6,EN,[.tmp 2]⟩
def D0:Rg:=[iZ 2,iI 3 0]
def D1:Rg:=[iM 5 0,iK 6 138 5,iM 4 6]
def D2:Rg:=[iM 7 4,iC 8 .gtr 7 512]
def D3:Rg:=[iZ 2,iI 3 2]
def D4:Rg:=[iM 9 0,iM 10 4,iM 11 4,iA 12 (.slice 1 (Tm 9) none (some (Tm 10)) (some (Tm 11))),iM 2 12,iI 3 0]
def EQ:aC:=(sq D0 (sq D1 (.seq (sq D2 (.cond (Tm 8) (sq D3 .ret) .skip)) (sq D4 .ret))))
def atZ:List Nat:=[]
def Si:aX:=⟨1,13,EQ,[.tmp 2,.tmp 3]⟩
def R5:Rg:=[iZ 2]
def R6:Rg:=[iM 4 0,iA 5 (.conv .u32 (Tm 4)),iM 6 0,iA 7 (.bin .shr (Tm 6) (.const (.int .u64 32))),iA 8 (.conv .u32 (Tm 7)),iA 9 (.aXI true 1 2 [(.int .u32 0)] [(0,(Tm 5)),(1,(Tm 8))]),iM 3 9]
def R7:Rg:=[iM 10 3,iM 11 3,iK 12 138 11,iA 13 (.slice 1 (Tm 10) none (some (Tm 12)) none),iM 2 13]
def LG:aC:=(sq R5 (sq R6 (sq R7 .ret)))
def aCY:List Nat:=[9]
def aoA:aX:=⟨1,14,LG,[.tmp 2]⟩
def Sr:Rg:=[iZ 2]
def Ss:Rg:=[iM 3 0,iM 4 0,iK 5 138 4,iA 6 (.slice 1 (Tm 3) none (some (Tm 5)) none),iA 7 (.append 1 4 (.const .aB) (Tm 6)),iM 2 7]
def LW:aC:=(sq Sr (sq Ss .ret))
def aDD:List Nat:=[]
def aoE:aX:=⟨1,8,LW,[.tmp 2]⟩
def adP:Rg:=[iI 4 0]
def adQ:Rg:=[iM 8 0,iK 9 138 8,iM 10 1,iK 11 138 10,iM 5 9,iM 6 11]
def adR:Rg:=[iM 13 5,iM 14 6,iB 15 .lss 13 14,iM 12 15]
def adS:Rg:=[iI 4 (-1)]
def adT:Rg:=[iM 17 5,iM 18 6,iB 19 .gtr 17 18,iM 16 19]
def adU:Rg:=[iI 4 1]
def adV:Rg:=[iM 20 5,iC 21 .sub 20 1,iM 7 21]
def adW:Rg:=[iM 22 7,iC 23 .geq 22 0]
def adX:Rd:=[(iM 27 0,false),(iM 28 7,false),(iX 29 1 27 28,false),(iL 30 29,false),(iM 31 1,false),(iM 32 7,false),(iX 33 1 31 32,false),(iL 34 33,false),(iB 35 .lss 30 34,false),(iM 26 35,false)]
def adY:Rg:=[iI 4 (-1)]
def Ru:Rd:=[(iM 37 0,false),(iM 38 7,false),(iX 39 1 37 38,false),(iL 40 39,false),(iM 41 1,false),(iM 42 7,false),(iX 43 1 41 42,false),(iL 44 43,false),(iB 45 .gtr 40 44,false),(iM 36 45,false)]
def Rv:Rg:=[iI 4 1]
def Rw:Rg:=[iM 24 7,iC 25 .sub 24 1,iM 7 25]
def Rt:aC:=(.seq (sq adW (.cond (Tm 23) .skip (.exit 1))) (.seq (.block 2 (.block 3 (dq adX (.cond (Tm 26) (sq adY .ret) (dq Ru (.cond (Tm 36) (sq Rv .ret) .skip)))))) (.region Rw)))
def Rx:Rg:=[iI 4 0]
def SN:aC:=(sq adP (sq adQ (.seq (.block 0 (sq adR (.cond (Tm 12) (sq adS .ret) (sq adT (.cond (Tm 16) (sq adU .ret) .skip))))) (.seq (sq adV (.block 1 (.loop Rt))) (sq Rx .ret)))))
def aKF:List Nat:=[]
def aCU:aX:=⟨2,46,SN,[.tmp 4]⟩
def adI:Rg:=[iZ 4,iI 5 0]
def adJ:Rg:=[iM 9 0,iK 10 137 9,iM 11 10,gM 12 1 11 false,gK 13 137 12 11 false,iQ 14 11 13]
def xd:Rg:=[iZ 4,iI 5 2]
def adK:Rd:=[(iM 15 0,true),(iM 16 0,false),(iK 17 138 16,true),(iA 18 (.slice 1 (Tm 15) none (some (Tm 17)) none),true),(iM 19 1,true),(iM 20 1,true),(iK 21 138 20,true),(iA 22 (.slice 1 (Tm 19) none (some (Tm 21)) none),false),(iM 0 18,false),(iM 1 22,false)]
def adL:Rg:=[iM 23 0,iN 24 23,iM 25 1,iN 26 25,iB 27 .lss 24 26]
def adM:Rg:=[iM 28 1,iM 29 0,iM 0 28,iM 1 29]
def xe:Rg:=[iM 30 0,iN 31 30,iC 32 .add 31 1,iA 33 (.aXK 1 4 [(.int .u32 0)] (Tm 32) (Tm 32)),iM 6 33]
def xf:Rg:=[iA 7 (.mv (.const (.int .u64 0)))]
def xg:Rg:=[iM 34 0,iN 35 34,iI 36 0]
def adN:Rg:=[iB 37 .lss 36 35]
def Q9:Rg:=[iM 38 36,iM 8 38]
def Ra:Rg:=[iM 39 7,iM 40 0,iM 41 8,iX 42 1 40 41,iL 43 42,iA 44 (.conv .u64 (Tm 43)),iB 45 .add 39 44,iM 7 45]
def Rb:Rg:=[iM 46 8,iM 47 1,iN 48 47,iB 49 .lss 46 48]
def Rc:Rg:=[iM 50 7,iM 51 1,iM 52 8,iX 53 1 51 52,iL 54 53,iA 55 (.conv .u64 (Tm 54)),iB 56 .add 50 55,iM 7 56]
def dg:Rg:=[iM 57 6,iM 58 8,iM 59 7,iA 60 (.conv .u32 (Tm 59)),iX 61 1 57 58,iS 1 61 60]
def dh:Rg:=[iM 62 7,iA 63 (.bin .shr (Tm 62) (.const (.int .u64 32))),iM 7 63]
def di:Rg:=[iC 64 .add 36 1,iM 36 64]
def df:aC:=(sq adN (.seq (.cond (Tm 37) .skip (.exit 0)) (.seq (.block 1 (sq Q9 (sq Ra (.seq (sq Rb (.cond (Tm 49) (.region Rc) .skip)) (sq dg (.region dh)))))) (.region di))))
def dj:Rg:=[iM 65 6,iM 66 0,iN 67 66,iM 68 7,iA 69 (.conv .u32 (Tm 68)),iX 70 1 65 67,iS 1 70 69]
def dk:Rg:=[iM 71 6,iK 72 141 71,iE 73 72 0,iE 74 72 1,iM 4 73,iM 5 74]
def SM:aC:=(sq adI (.seq (sq adJ (.cond (Tm 14) (sq xd .ret) .skip)) (dq adK (.seq (sq adL (.cond (Tm 27) (.region adM) .skip)) (sq xe (sq xf (.seq (sq xg (.block 0 (.loop df))) (sq dj (sq dk .ret)))))))))
def aKC:List Nat:=[]
def aCR:aX:=⟨2,75,SM,[.tmp 4,.tmp 5]⟩
def aeR:Rg:=[iZ 4,iI 5 0]
def aeS:Rg:=[iM 11 0,iK 12 137 11,iM 13 12,gM 14 1 13 false,gK 15 137 14 13 false,iQ 16 13 15,iM 10 16]
def xt:Rg:=[iZ 4,iI 5 2]
def aeT:Rg:=[iM 18 0,iM 19 1,iK2 20 129 18 19,iC 21 .lss 20 0,iM 17 21]
def aeU:Rg:=[iZ 4,iI 5 4]
def aeV:Rd:=[(iM 22 0,true),(iM 23 0,false),(iK 24 138 23,true),(iA 25 (.slice 1 (Tm 22) none (some (Tm 24)) none),true),(iM 26 1,true),(iM 27 1,true),(iK 28 138 27,true),(iA 29 (.slice 1 (Tm 26) none (some (Tm 28)) none),false),(iM 0 25,false),(iM 1 29,false)]
def xu:Rg:=[iM 30 0,iN 31 30,iA 32 (.aXK 1 4 [(.int .u32 0)] (Tm 31) (Tm 31)),iM 6 32]
def xv:Rg:=[iA 7 (.mv (.const (.int .u64 0)))]
def xw:Rg:=[iM 33 0,iN 34 33,iI 35 0]
def aeW:Rg:=[iB 36 .lss 35 34]
def Sj:Rg:=[iM 37 35,iM 8 37]
def Sk:Rg:=[iM 38 0,iM 39 8,iX 40 1 38 39,iL 41 40,iA 42 (.conv .u64 (Tm 41)),iM 43 7,iB 44 .sub 42 43,iM 9 44]
def Sl:Rg:=[iM 45 8,iM 46 1,iN 47 46,iB 48 .lss 45 47]
def Sm:Rg:=[iM 49 9,iM 50 1,iM 51 8,iX 52 1 50 51,iL 53 52,iA 54 (.conv .u64 (Tm 53)),iB 55 .sub 49 54,iM 9 55]
def d3:Rg:=[iM 56 6,iM 57 8,iM 58 9,iA 59 (.conv .u32 (Tm 58)),iX 60 1 56 57,iS 1 60 59]
def d6:Rg:=[iM 61 9,iA 62 (.bin .shr (Tm 61) (.const (.int .u64 63))),iM 7 62]
def d7:Rg:=[iC 63 .add 35 1,iM 35 63]
def dz:aC:=(sq aeW (.seq (.cond (Tm 36) .skip (.exit 1)) (.seq (.block 2 (sq Sj (sq Sk (.seq (sq Sl (.cond (Tm 48) (.region Sm) .skip)) (sq d3 (.region d6)))))) (.region d7))))
def d8:Rg:=[iM 64 6,iK 65 141 64,iE 66 65 0,iE 67 65 1,iM 4 66,iM 5 67]
def SV:aC:=(sq aeR (.seq (.block 0 (sq aeS (.cond (Tm 10) (sq xt .ret) (sq aeT (.cond (Tm 17) (sq aeU .ret) .skip))))) (dq aeV (sq xu (sq xv (.seq (sq xw (.block 1 (.loop dz))) (sq d8 .ret)))))))
def aKP:List Nat:=[]
def aDB:aX:=⟨2,68,SV,[.tmp 4,.tmp 5]⟩
def aeN:Rg:=[iZ 4,iI 5 0]
def aeO:Rg:=[iM 12 0,iK 13 137 12,iM 14 13,gM 15 1 14 false,gK 16 137 15 14 false,iQ 17 14 16]
def xl:Rg:=[iZ 4,iI 5 2]
def aeP:Rd:=[(iM 18 0,true),(iM 19 0,false),(iK 20 138 19,true),(iA 21 (.slice 1 (Tm 18) none (some (Tm 20)) none),true),(iM 22 1,true),(iM 23 1,true),(iK 24 138 23,true),(iA 25 (.slice 1 (Tm 22) none (some (Tm 24)) none),false),(iM 0 21,false),(iM 1 25,false)]
def xm:Rg:=[iM 26 0,iN 27 26,iM 28 1,iN 29 28,iB 30 .add 27 29,iA 31 (.aXK 1 4 [(.int .u32 0)] (Tm 30) (Tm 30)),iM 6 31]
def xn:Rg:=[iM 32 0,iN 33 32,iI 34 0]
def aeQ:Rg:=[iB 35 .lss 34 33]
def xo:Rg:=[iM 36 34,iX 37 1 32 34,iL 38 37,iM 7 36,iM 8 38]
def xp:Rg:=[iA 9 (.mv (.const (.int .u64 0)))]
def xq:Rg:=[iM 39 1,iN 40 39,iI 41 0]
def R8:Rg:=[iB 42 .lss 41 40]
def R9:Rg:=[iM 43 41,iX 44 1 39 41,iL 45 44,iM 10 43,iM 11 45]
def Sa:Rg:=[iM 46 9,iM 47 8,iA 48 (.conv .u64 (Tm 47)),iM 49 11,iA 50 (.conv .u64 (Tm 49)),iB 51 .mul 48 50,iM 52 6,iM 53 7,iM 54 10,iB 55 .add 53 54,iX 56 1 52 55,iL 57 56,iA 58 (.conv .u64 (Tm 57)),iB 59 .add 51 58,iB 60 .add 46 59,iM 9 60]
def Sb:Rg:=[iM 61 6,iM 62 7,iM 63 10,iB 64 .add 62 63,iM 65 9,iA 66 (.conv .u32 (Tm 65)),iX 67 1 61 64,iS 1 67 66]
def Sd:Rg:=[iM 68 9,iA 69 (.bin .shr (Tm 68) (.const (.int .u64 32))),iM 9 69]
def Se:Rg:=[iC 70 .add 41 1,iM 41 70]
def dp:aC:=(sq R8 (.seq (.cond (Tm 42) .skip (.exit 2)) (.seq (.block 3 (sq R9 (sq Sa (sq Sb (.region Sd))))) (.region Se))))
def du:Rg:=[iM 71 6,iM 72 7,iM 73 1,iN 74 73,iB 75 .add 72 74,iM 76 9,iA 77 (.conv .u32 (Tm 76)),iX 78 1 71 75,iS 1 78 77]
def Sf:Rg:=[iC 79 .add 34 1,iM 34 79]
def dt:aC:=(sq aeQ (.seq (.cond (Tm 35) .skip (.exit 0)) (.seq (.block 1 (sq xo (sq xp (.seq (sq xq (.block 2 (.loop dp))) (.region du))))) (.region Sf))))
def dw:Rg:=[iM 80 6,iK 81 141 80,iE 82 81 0,iE 83 81 1,iM 4 82,iM 5 83]
def SS:aC:=(sq aeN (.seq (sq aeO (.cond (Tm 17) (sq xl .ret) .skip)) (dq aeP (sq xm (.seq (sq xn (.block 0 (.loop dt))) (sq dw .ret))))))
def aKN:List Nat:=[]
def aCZ:aX:=⟨2,84,SS,[.tmp 4,.tmp 5]⟩
def Rk:Rg:=[iI 2 0]
def Rl:Rg:=[iM 6 0,iK 7 138 6,iM 3 7]
def Rm:Rg:=[iM 8 3,iC 9 .eql 8 0]
def Rn:Rg:=[iI 2 0]
def Ro:Rg:=[iM 10 3,iC 11 .sub 10 1,iC 12 .mul 11 32,iM 4 12]
def Rp:Rg:=[iM 13 0,iM 14 3,iC 15 .sub 14 1,iX 16 1 13 15,iL 17 16,iM 5 17]
def Rq:Rg:=[iM 18 5,iA 19 (.bin .gtr (Tm 18) (.const (.int .u32 0)))]
def Rr:Rg:=[iM 22 4,iC 23 .add 22 1,iM 4 23]
def Rs:Rg:=[iM 20 5,iA 21 (.bin .shr (Tm 20) (.const (.int .u64 1))),iM 5 21]
def Rj:aC:=(.seq (sq Rq (.cond (Tm 19) .skip (.exit 0))) (.seq (.block 1 (.region Rr)) (.region Rs)))
def C9:Rg:=[iM 24 4,iM 2 24]
def KW:aC:=(sq Rk (sq Rl (.seq (sq Rm (.cond (Tm 9) (sq Rn .ret) .skip)) (sq Ro (.seq (sq Rp (.block 0 (.loop Rj))) (sq C9 .ret))))))
def aCT:List Nat:=[]
def anP:aX:=⟨1,25,KW,[.tmp 2]⟩
def aeG:Rg:=[iZ 4,iI 5 0]
def aeH:Rg:=[iM 8 0,iK 9 137 8,iM 10 9,gM 11 1 10 false,gK 12 137 11 10 false,iQ 13 10 12]
def xk:Rg:=[iZ 4,iI 5 2]
def aeI:Rg:=[iM 14 0,iK 15 135 14,iM 16 1,iK 17 135 16,iM 0 15,iM 1 17]
def aeJ:Rg:=[iM 18 1,iN 19 18,iC 20 .gtr 19 0]
def aeK:Rg:=[iM 22 0,iM 23 1,iK2 24 136 22 23,iM 21 24,iE 25 21 0,iE 26 21 1,iM 6 25,iM 7 26]
def aeL:Rg:=[iM 27 1,iM 28 7,iM 0 27,iM 1 28]
def aeF:aC:=(.seq (sq aeJ (.cond (Tm 20) .skip (.exit 0))) (.block 1 (sq aeK (.region aeL))))
def aeM:Rg:=[iM 29 0,iM 4 29,iI 5 0]
def SR:aC:=(sq aeG (.seq (sq aeH (.cond (Tm 13) (sq xk .ret) .skip)) (sq aeI (.seq (.block 0 (.loop aeF)) (sq aeM .ret)))))
def aKL:List Nat:=[]
def aCW:aX:=⟨2,30,SR,[.tmp 4,.tmp 5]⟩
def adZ:Rg:=[iZ 4,iZ 5,iI 6 0]
def aeA:Rg:=[iM 10 0,iK 11 137 10,iM 12 11,gM 13 1 12 false,gK 14 137 13 12 false,iQ 15 12 14,iM 9 15]
def xi:Rg:=[iZ 4,iZ 5,iI 6 2]
def aeB:Rg:=[iM 17 1,iK 18 138 17,iC 19 .eql 18 0,iM 16 19]
def aeC:Rg:=[iZ 4,iZ 5,iI 6 3]
def aeD:Rd:=[(iM 21 0,true),(iM 22 0,false),(iK 23 138 22,true),(iA 24 (.slice 1 (Tm 21) none (some (Tm 23)) none),true),(iM 25 1,true),(iM 26 1,true),(iK 27 138 26,true),(iA 28 (.slice 1 (Tm 25) none (some (Tm 27)) none),false),(iK2 29 136 24 28,true),(iM 20 29,false),(iE 30 20 0,false),(iE 31 20 1,false),(iM 7 30,false),(iM 8 31,false)]
def aeE:Rg:=[iM 32 7,iM 33 8,iM 4 32,iM 5 33,iI 6 0]
def SP:aC:=(sq adZ (.seq (.block 0 (sq aeA (.cond (Tm 9) (sq xi .ret) (sq aeB (.cond (Tm 16) (sq aeC .ret) .skip))))) (dq aeD (sq aeE .ret))))
def aKH:List Nat:=[]
def aCV:aX:=⟨2,34,SP,[.tmp 4,.tmp 5,.tmp 6]⟩
def Dr:Rg:=[iZ 4,iA 5 (.mv (.const (.int .u32 0)))]
def Ds:Rg:=[iM 9 0,iN 10 9,iA 11 (.aXK 1 4 [(.int .u32 0)] (Tm 10) (Tm 10)),iM 6 11]
def Dt:Rg:=[iA 7 (.mv (.const (.int .u64 0)))]
def Du:Rg:=[iM 12 0,iN 13 12,iC 14 .sub 13 1,iM 8 14]
def Dv:Rg:=[iM 15 8,iC 16 .geq 15 0]
def Dw:Rg:=[iM 19 7,iA 20 (.bin .shl (Tm 19) (.const (.int .u64 32))),iM 21 0,iM 22 8,iX 23 1 21 22,iL 24 23,iA 25 (.conv .u64 (Tm 24)),iB 26 .or 20 25,iM 7 26]
def Dx:Rg:=[iM 27 6,iM 28 8,iM 29 7,iM 30 1,iA 31 (.conv .u64 (Tm 30)),iB 32 .quo 29 31,iA 33 (.conv .u32 (Tm 32)),iX 34 1 27 28,iS 1 34 33]
def Dy:Rg:=[iM 35 7,iM 36 1,iA 37 (.conv .u64 (Tm 36)),iB 38 .rem 35 37,iM 7 38]
def Dz:Rg:=[iM 17 8,iC 18 .sub 17 1,iM 8 18]
def Dq:aC:=(.seq (sq Dv (.cond (Tm 16) .skip (.exit 0))) (.seq (.block 1 (sq Dw (sq Dx (.region Dy)))) (.region Dz)))
def oo:Rg:=[iM 39 6,iM 40 6,iK 41 138 40,iA 42 (.slice 1 (Tm 39) none (some (Tm 41)) none),iM 43 7,iA 44 (.conv .u32 (Tm 43)),iM 4 42,iM 5 44]
def EP:aC:=(sq Dr (sq Ds (sq Dt (.seq (sq Du (.block 0 (.loop Dq))) (sq oo .ret)))))
def atX:List Nat:=[]
def Sh:aX:=⟨2,45,EP,[.tmp 4,.tmp 5]⟩
def auB:Rg:=[iZ 4]
def auC:Rg:=[iM 9 0,iN 10 9,iC 11 .add 10 1,iA 12 (.aXK 1 4 [(.int .u32 0)] (Tm 11) (Tm 11)),iM 5 12]
def auD:Rg:=[iA 6 (.mv (.const (.int .u64 0)))]
def auE:Rg:=[iM 13 0,iN 14 13,iI 15 0]
def auF:Rg:=[iB 16 .lss 15 14]
def auG:Rg:=[iM 17 15,iX 18 1 13 15,iL 19 18,iM 7 17,iM 8 19]
def auH:Rg:=[iM 20 6,iM 21 8,iA 22 (.conv .u64 (Tm 21)),iM 23 1,iB 24 .shl 22 23,iB 25 .or 20 24,iM 6 25]
def auI:Rg:=[iM 26 5,iM 27 7,iM 28 6,iA 29 (.conv .u32 (Tm 28)),iX 30 1 26 27,iS 1 30 29]
def auJ:Rg:=[iM 31 6,iA 32 (.bin .shr (Tm 31) (.const (.int .u64 32))),iM 6 32]
def auK:Rg:=[iC 33 .add 15 1,iM 15 33]
def aeX:aC:=(sq auF (.seq (.cond (Tm 16) .skip (.exit 0)) (.seq (.block 1 (sq auG (sq auH (sq auI (.region auJ))))) (.region auK))))
def aeY:Rg:=[iM 34 5,iM 35 0,iN 36 35,iM 37 6,iA 38 (.conv .u32 (Tm 37)),iX 39 1 34 36,iS 1 39 38]
def aeZ:Rg:=[iM 40 5,iM 4 40]
def d9:aC:=(sq auB (sq auC (sq auD (.seq (sq auE (.block 0 (.loop aeX))) (sq aeY (sq aeZ .ret))))))
def aOM:List Nat:=[]
def nup:aX:=⟨2,41,d9,[.tmp 4]⟩
def nr:Rg:=[iZ 4,iZ 5]
def nt:Rg:=[iM 21 0,iM 22 1,iK2 23 129 21 22,iC 24 .lss 23 0]
def nu:Rg:=[iM 25 0,iK 26 135 25,iZ 4,iM 5 26]
def nv:Rg:=[iM 27 1,iN 28 27,iC 29 .eql 28 1]
def nw:Rg:=[iM 31 0,iM 32 1,iA 33 (.aXT 1 (Tm 32) (Ci 0)),iL 34 33,iK2 35 140 31 34,iM 30 35,iE 36 30 0,iE 37 30 1,iM 6 36,iM 7 37]
def ny:Rg:=[iM 38 6,iM 39 7,iA 40 (.conv .u64 (Tm 39)),iK 41 132 40,iM 4 38,iM 5 41]
def nz:Rg:=[iA 8 (.mv (.const (.int .u64 0)))]
def n0:Rg:=[iM 42 1,iM 43 1,iN 44 43,iC 45 .sub 44 1,iX 46 1 42 45,iL 47 46,iM 48 8,iB 49 .shl 47 48,iA 50 (.bin .lss (Tm 49) (.const (.int .u32 2147483648)))]
def n6:Rg:=[iM 51 8,iA 52 (.bin .add (Tm 51) (.const (.int .u64 1))),iM 8 52]
def np:aC:=(.seq (sq n0 (.cond (Tm 50) .skip (.exit 0))) (.block 1 (.region n6)))
def XR:Rd:=[(iM 53 0,false),(iM 54 8,false),(iK2 55 143 53 54,true),(iM 56 1,true),(iM 57 8,true),(iK2 58 143 56 57,true),(iM 59 1,true),(iN 60 59,true),(iA 61 (.slice 1 (Tm 58) none (some (Tm 60)) none),false),(iM 9 55,false),(iM 10 61,false)]
def XS:Rg:=[iM 62 10,iN 63 62,iM 11 63]
def XT:Rg:=[iM 64 9,iN 65 64,iM 66 11,iB 67 .sub 65 66,iA 68 (.aXK 1 4 [(.int .u32 0)] (Tm 67) (Tm 67)),iM 12 68]
def XU:Rd:=[(iM 69 10,false),(iM 70 11,false),(iC 71 .sub 70 1,false),(iX 72 1 69 71,false),(iL 73 72,false),(iA 74 (.conv .u64 (Tm 73)),false),(iM 75 10,false),(iM 76 11,false),(iC 77 .sub 76 2,false),(iX 78 1 75 77,false),(iL 79 78,false),(iA 80 (.conv .u64 (Tm 79)),false),(iM 13 74,false),(iM 14 80,false)]
def XV:Rg:=[iM 81 12,iN 82 81,iC 83 .sub 82 1,iM 15 83]
def XW:Rg:=[iM 84 15,iC 85 .geq 84 0]
def EC:Rd:=[(iM 88 9,false),(iM 89 15,false),(iM 90 11,false),(iB 91 .add 89 90,false),(iX 92 1 88 91,false),(iL 93 92,false),(iA 94 (.conv .u64 (Tm 93)),false),(iA 95 (.bin .shl (Tm 94) (.const (.int .u64 32))),false),(iM 96 9,false),(iM 97 15,false),(iM 98 11,false),(iB 99 .add 97 98,false),(iC 100 .sub 99 1,false),(iX 101 1 96 100,false),(iL 102 101,false),(iA 103 (.conv .u64 (Tm 102)),false),(iB 104 .or 95 103,false),(iM 16 104,false)]
def ED:Rd:=[(iM 105 16,false),(iM 106 13,false),(iB 107 .quo 105 106,false),(iM 108 16,false),(iM 109 13,false),(iB 110 .rem 108 109,false),(iM 17 107,false),(iM 18 110,false)]
def XY:Rg:=[iM 111 17,iA 112 (.bin .geq (Tm 111) (.const (.int .u64 4294967296))),iM 113 112,gM 114 17 113 false,gM 115 14 113 false,gB 116 .mul 114 115 113 false,gM 117 18 113 false,iG 118 (.bin .shl (Tm 117) (.const (.int .u64 32))) 113 false,gM 119 9 113 false,gM 120 15 113 false,gM 121 11 113 false,gB 122 .add 120 121 113 false,gC 123 .sub 122 2 113 false,iG 124 (.aXT 1 (Tm 119) (Tm 123)) 113 false,gL 125 124 113 false,iG 126 (.conv .u64 (Tm 125)) 113 false,gB 127 .or 118 126 113 false,gB 128 .gtr 116 127 113 false,iQ 129 113 128]
def EE:Rg:=[iM 130 17,iA 131 (.bin .sub (Tm 130) (.const (.int .u64 1))),iM 17 131]
def EF:Rg:=[iM 132 18,iM 133 13,iB 134 .add 132 133,iM 18 134]
def EG:Rg:=[iM 135 18,iA 136 (.bin .geq (Tm 135) (.const (.int .u64 4294967296)))]
def vW:aC:=(.seq (sq XY (.cond (Tm 129) .skip (.exit 4))) (.block 5 (sq EE (sq EF (sq EG (.cond (Tm 136) (.exit 4) .skip))))))
def EH:Rg:=[iM 137 9,iM 138 15,iM 139 15,iM 140 11,iB 141 .add 139 140,iC 142 .add 141 1,iA 143 (.slice 1 (Tm 137) (some (Tm 138)) (some (Tm 142)) none),iM 144 10,iM 145 17,iA 146 (.call 142 [(Tm 143),(Tm 144),(Tm 145)])]
def EI:Rg:=[iM 147 17,iA 148 (.bin .sub (Tm 147) (.const (.int .u64 1))),iM 17 148]
def EJ:Rg:=[iM 149 9,iM 150 15,iM 151 15,iM 152 11,iB 153 .add 151 152,iC 154 .add 153 1,iA 155 (.slice 1 (Tm 149) (some (Tm 150)) (some (Tm 154)) none),iM 156 10,iK2 157 139 155 156]
def vX:Rg:=[iM 158 12,iM 159 15,iM 160 17,iA 161 (.conv .u32 (Tm 160)),iX 162 1 158 159,iS 1 162 161]
def XZ:Rg:=[iM 86 15,iC 87 .sub 86 1,iM 15 87]
def EA:aC:=(.seq (sq XW (.cond (Tm 85) .skip (.exit 2))) (.seq (.block 3 (dq EC (dq ED (.seq (.block 4 (.loop vW)) (.seq (sq EH (.cond (Tm 146) (sq EI (.region EJ)) .skip)) (.region vX)))))) (.region XZ)))
def EK:Rg:=[iM 163 11,iA 164 (.aXK 1 4 [(.int .u32 0)] (Tm 163) (Tm 163)),iM 19 164]
def EL:Rg:=[iM 165 19,iN 166 165,iI 167 0]
def YA:Rg:=[iB 168 .lss 167 166]
def YB:Rg:=[iM 169 167,iM 20 169]
def YC:Rd:=[(iM 170 19,false),(iM 171 20,false),(iM 172 9,false),(iM 173 20,false),(iC 174 .add 173 1,false),(iX 175 1 172 174,false),(iL 176 175,false),(iA 177 (.conv .u64 (Tm 176)),false),(iA 178 (.bin .shl (Tm 177) (.const (.int .u64 32))),false),(iM 179 9,false),(iM 180 20,false),(iX 181 1 179 180,false),(iL 182 181,false),(iA 183 (.conv .u64 (Tm 182)),false),(iB 184 .or 178 183,false),(iM 185 8,false),(iB 186 .shr 184 185,false),(iA 187 (.conv .u32 (Tm 186)),false),(iX 188 1 170 171,false),(iS 1 188 187,true)]
def YD:Rg:=[iC 189 .add 167 1,iM 167 189]
def EB:aC:=(sq YA (.seq (.cond (Tm 168) .skip (.exit 6)) (.seq (.block 7 (sq YB (.draw YC))) (.region YD))))
def YE:Rd:=[(iM 190 12,true),(iM 191 12,false),(iK 192 138 191,true),(iA 193 (.slice 1 (Tm 190) none (some (Tm 192)) none),true),(iM 194 19,true),(iM 195 19,true),(iK 196 138 195,true),(iA 197 (.slice 1 (Tm 194) none (some (Tm 196)) none),false),(iM 4 193,false),(iM 5 197,false)]
def AU:aC:=(sq nr (.seq (sq nt (.cond (Tm 24) (sq nu .ret) .skip)) (.seq (sq nv (.cond (Tm 29) (sq nw (sq ny .ret)) .skip)) (sq nz (.seq (.block 0 (.loop np)) (dq XR (sq XS (sq XT (dq XU (.seq (sq XV (.block 2 (.loop EA))) (sq EK (.seq (sq EL (.block 6 (.loop EB))) (dq YE .ret)))))))))))))
def anU:List Nat:=[]
def xj:aX:=⟨2,198,AU,[.tmp 4,.tmp 5]⟩
def SX:Rg:=[iT 6 false]
def SY:Rg:=[iA 7 (.mv (.const (.int .u64 0))),iA 8 (.mv (.const (.int .u64 0)))]
def SZ:Rg:=[iM 13 1,iN 14 13,iI 15 0]
def TA:Rg:=[iB 16 .lss 15 14]
def TB:Rg:=[iM 17 15,iX 18 1 13 15,iL 19 18,iM 9 17,iM 10 19]
def TC:Rg:=[iM 20 7,iM 21 2,iM 22 10,iA 23 (.conv .u64 (Tm 22)),iB 24 .mul 21 23,iB 25 .add 20 24,iM 7 25]
def TD:Rg:=[iM 26 0,iM 27 9,iX 28 1 26 27,iL 29 28,iA 30 (.conv .u64 (Tm 29)),iM 31 7,iA 32 (.bin .and (Tm 31) (.const (.int .u64 4294967295))),iB 33 .sub 30 32,iM 34 8,iB 35 .sub 33 34,iM 11 35]
def TE:Rg:=[iM 36 0,iM 37 9,iM 38 11,iA 39 (.conv .u32 (Tm 38)),iX 40 1 36 37,iS 1 40 39]
def TF:Rg:=[iM 41 11,iA 42 (.bin .shr (Tm 41) (.const (.int .u64 63))),iM 8 42]
def TG:Rg:=[iM 43 7,iA 44 (.bin .shr (Tm 43) (.const (.int .u64 32))),iM 7 44]
def PO:Rg:=[iC 45 .add 15 1,iM 15 45]
def PN:aC:=(sq TA (.seq (.cond (Tm 16) .skip (.exit 0)) (.seq (.block 1 (sq TB (sq TC (sq TD (sq TE (sq TF (.region TG))))))) (.region PO))))
def PP:Rg:=[iM 46 0,iM 47 1,iN 48 47,iX 49 1 46 48,iL 50 49,iA 51 (.conv .u64 (Tm 50)),iM 52 7,iB 53 .sub 51 52,iM 54 8,iB 55 .sub 53 54,iM 12 55]
def PQ:Rg:=[iM 56 0,iM 57 1,iN 58 57,iM 59 12,iA 60 (.conv .u32 (Tm 59)),iX 61 1 56 58,iS 1 61 60]
def PR:Rg:=[iM 62 12,iA 63 (.bin .shr (Tm 62) (.const (.int .u64 63))),iA 64 (.bin .eql (Tm 63) (.const (.int .u64 1))),iM 6 64]
def uU:aC:=(sq SX (sq SY (.seq (sq SZ (.block 0 (.loop PN))) (sq PP (sq PQ (sq PR .ret))))))
def Sp:List Nat:=[]
def SW:aX:=⟨3,65,uU,[.tmp 6]⟩
def YG:Rg:=[iA 4 (.mv (.const (.int .u64 0)))]
def YH:Rg:=[iM 7 1,iN 8 7,iI 9 0]
def YI:Rg:=[iB 10 .lss 9 8]
def YJ:Rg:=[iM 11 9,iX 12 1 7 9,iL 13 12,iM 5 11,iM 6 13]
def YK:Rg:=[iM 14 4,iM 15 0,iM 16 5,iX 17 1 15 16,iL 18 17,iA 19 (.conv .u64 (Tm 18)),iM 20 6,iA 21 (.conv .u64 (Tm 20)),iB 22 .add 19 21,iB 23 .add 14 22,iM 4 23]
def YL:Rg:=[iM 24 0,iM 25 5,iM 26 4,iA 27 (.conv .u32 (Tm 26)),iX 28 1 24 25,iS 1 28 27]
def YM:Rg:=[iM 29 4,iA 30 (.bin .shr (Tm 29) (.const (.int .u64 32))),iM 4 30]
def YN:Rg:=[iC 31 .add 9 1,iM 9 31]
def YF:aC:=(sq YI (.seq (.cond (Tm 10) .skip (.exit 0)) (.seq (.block 1 (sq YJ (sq YK (sq YL (.region YM))))) (.region YN))))
def YO:Rg:=[iM 32 0,iM 33 1,iN 34 33,iX 35 1 32 34,iL 36 35,iM 37 4,iA 38 (.conv .u32 (Tm 37)),iB 39 .add 36 38,iX 40 1 32 34,iS 1 40 39]
def wY:aC:=(sq YG (.seq (sq YH (.block 0 (.loop YF))) (.region YO)))
def Ya:List Nat:=[]
def dy:aX:=⟨2,41,wY,[]⟩
open Go Go.RowKit Go.ChangeShapes Go.WideShapes
inductive AT where
 | one (ct:CT)
 | struct (cts:List CT)
 deriving Inhabited
def akK (P:Program) (n:Nat) (t:TypeId):Option AT :=
 match P.underlying t with
 | some .bool=>some (.one .bool)
 | some (.int k)=>some (.one (.int k))
 | some .string=>some (.one .str)
 | some (.slice _)=>match hM P n t with
  | some [ct]=>some (.one ct)
  | _=>none
 | some (.struct _)=>(hM P n t).map .struct
 | _=>none
def GH (P:Program) (n:Nat):List TypeId→Option (List AT)
 | []=>some []
 | t::ts=>match akK P n t,GH P n ts with
  | some a,some c=>some (a::c)
  | _,_=>none
inductive AT.Ty:AT→PV→Prop
 | one {ct:CT} {pv:PV} (h:PV.Ty ct pv):AT.Ty (.one ct) pv
 | struct {cts:List CT} {pvs:List PV} (hl:pvs.length=cts.length) (h:∀ (j:Nat) pv ct,pvs[j]?=some pv→cts[j]?=some ct→PV.Ty ct pv):AT.Ty (.struct cts) (.agg pvs)
def AT.TyL:List AT→List PV→Prop
 | [],[]=>True
 | a::c,p::ps=>AT.Ty a p∧AT.TyL c ps
 | _,_=>False
section
variable {H:Type} {enc:TypeId × Value→H} {P:Program} {W:World} {sp:Nat→Bool} {held:Bool}
theorem TrodAll.length:∀ {ts:List TypeId} {vs:List Value} {ds:List (DataW H)} {ps:List MemPlace},DataW.TrodAll enc P W 0 sp held ts vs ds ps→ds.length=ts.length
 | [],[],[],_,_=>rfl
 | [],[],_::_,_,h=>h.elim
 | [],_::_,_,_,h=>h.elim
 | _::_,[],[],_,h=>h.elim
 | _::_,[],_::_,_,h=>h.elim
 | _::_,_::_,[],_,h=>h.elim
 | t::ts,v::vs,d::ds,ps,h=>by obtain⟨p,q,e,c,rfl⟩:=h;simp[TrodAll.length c]
end
attribute [go_sem] qE gX setCells PV.cells PV.one cD storeAt dD loadCells eF bnd PV.slice PV.intOf PV.eqs PV.eq1 PV.un keyOf KS.of KS.ofs KS.sh List.all_cons List.all_nil a2B List.set_cons_succ aYZ a0T aYW aZV aZC a0Z
attribute [go_sem] Bool.bne_false Bool.bne_true Int.le_refl Int.lt_irrefl decide_true decide_false exists_eq_left exists_eq_left' aYN List.length_replicate a0J Int.natCast_nonneg Option.isSome_some Option.isSome_none a1L Option.getD_none decide_eq_true_eq decide_eq_false_iff_not aZM a0S aYV Nat.sub_zero
def aY (xs:List Int):List (List PV):=xs.map fun n=>[.int .i64 n]
theorem bD {a b:Int} (h:a≠b):(a==b)=false:=by simp[h]
theorem bN {a b:Int} (h:a=b):(a==b)=true:=by simp[h]
theorem cT {a b:Int} (h:a≠b):(a != b)=true:=by simp[h]
theorem bS {a b:Int} (h:a=b):(a != b)=false:=by simp[h]
section
variable {H:PH}
@[go_sem] theorem PH.set_set (o:Nat) (x y:cF):(H.set o x).set o y=H.set o y:=PH.ext fun q=>by
 simp only[aT]; split<;>rfl
@[go_sem] theorem cR (o:Nat) (x:cF):(H.set o x) o=some x:=by simp only[aT,if_true]
end
section
variable {C:Ctx} {K:bT} {F:PF} {H:PH}
theorem PH.pU (o:Nat) (x:cF):H.over .nil (PH.nil.set o x)=H.set o x:=PH.ext fun q=>by
 rw[hZ]; simp only[aT,WG]; split<;>simp_all
theorem PH.tP (o:Nat) (x y:cF):H.over (PH.nil.set o x) (PH.nil.set o y)=H.set o y:=PH.ext fun q=>by
 rw[hZ]; simp only[aT,WG]; split<;>simp_all
theorem lF {name:Nat} {vs:List PV} {c:PH} {R:PV→PH→Prop} {args:List aQ} {d:Option Nat} {K:PF→PH→Prop} (h:aH C name vs c R) (i:aQ.evs F args=some vs) (e:c.le H)
  (l:∀ r H',R r H'→mH H c H'→K (F.put d r) (H.over c H')):iV C name args [] d K F H :=
 .inl ⟨vs,c,R,by rw[i]; simp,e,h,l⟩
theorem aZ {res:List dS} {R:PV→PH→Prop} {vs:List PV} {e:kW} (x:e=.normal∨e=.ret) (c:PH) (h:dS.evs F H res=some vs) (d:c.le H) (w:R (bL vs) c):aR res R e F H:=by
 have i:∃ vs,dS.evs F H res=some vs∧∃ l p H2,jJ (PF.nil.set 0 (bL vs)) H l p∧H2.le p∧∃ u,l 0=some u∧R u H2 :=
  ⟨vs,h,_,H,c,.refl _ _,d,bL vs,by rw[kM,if_pos rfl],w⟩
 rcases x with rfl | rfl<;>exact i
theorem aDT {t o s k:Nat} {rs:List (List PV)} {R:PV→PH→Prop} {e:kW} (p:e=.normal∨e=.ret) (h:F t=some (.osl o s 0 k)) (w:H o=some (.rows s rs)) (x:k≤rs.length) (l:R (.sl s (rs.take k)) .nil) :
  aR [.tmp t] R e F H:=by
 have c:∃ vs,dS.evs F H [.tmp t]=some vs∧∃ d i H2,jJ (PF.nil.set 0 (bL vs)) H d i∧H2.le i∧∃ u,d 0=some u∧R u H2:=by refine⟨[.osl o s 0 k],by rw[kS,nP,h,oX],_,_,.nil,.step o w (.refl _ _),a_,.sl s (rs.take k),?_,l⟩;have:0+k≤rs.length:=Om;simp only[PF.frz,kM,if_true,bL,aZZ,PV.frz,PV.tC,PV.dK,true_and,if_pos this,a0B]
 rcases p with rfl | rfl<;>exact c
def cA (v:PV) (r:PV) (H:PH):Prop:=Co r v∧H=PH.nil
theorem aH.aOX {name:Nat} {args:List PV} {H:PH} {v:PV} (h:aH C name args H (cA v)):aH C name args H (aF v) :=
 h.post fun r H' ⟨c,d⟩=>⟨v,c,rfl,d⟩
theorem aF.aOX {v r:PV} {H:PH} (h:aF v r H):cA v r H:=by
 obtain⟨rfl,rfl⟩:=h;exact⟨.refl _,rfl⟩
theorem uC {s b:Nat} {y:PV} {src:List (List PV)} {K:PV→PH→Prop} (i:eF H s y=some src) (e:roomFor 0 src.length b) (c:src=[]→K .aB H)
  (d:src≠[]→∀ o,H o=none→K (.osl o s 0 src.length) (H.set o (.rows s src))):mZ H s b .aB y K:=⟨src,i,e,c,d⟩
theorem W0 {o s b len:Nat} {rs:List (List PV)} {y:PV} {src:List (List PV)} {K:PV→PH→Prop} (p:eF H s y=some src) (l:roomFor len src.length b) (i:H o=some (.rows s rs)) (e:len≤rs.length)
  (c:K (.osl o s 0 (len+src.length)) (H.set o (.rows s (rs.take len++src))))
  (d:∀ o',H o'=none→K (.osl o' s 0 (len+src.length)) (H.set o' (.rows s (rs.take len++src)))):mZ H s b (.osl o s 0 len) y K :=
 ⟨src,p,rfl,rfl,l,rs,i,e,c,d⟩
end
def bU (H:PH) (s:Nat) (v:PV) (rows:List (List PV)):Prop :=
 (rows=[]∧v=.aB)∨∃ q rs,v=.osl q s 0 rows.length∧H q=some (.rows s rs)∧rows.length≤rs.length∧rs.take rows.length=rows
def Seen (s:Nat) (v:PV) (rows:List (List PV)):Prop:=(rows=[]∧v=.aB)∨v=.sl s rows
section
variable {C:Ctx} {K:bT} {F:PF} {H:PH} {s b:Nat} {v y:PV} {rows src:List (List PV)}
theorem bU.nil:bU H s .aB []:=.inl ⟨rfl,rfl⟩
theorem bU.view (h:bU H s v rows):eF H s v=some rows:=by
 rcases h with ⟨rfl,rfl⟩ | ⟨q,rs,rfl,h1,h2,h3⟩
 ·rfl
 ·have:0+rows.length≤rs.length:=Om;simp only[eF,if_true,h1,true_and,if_pos this,a0B,h3]
theorem Seen.view (h:Seen s v rows):eF H s v=some rows:=by
 rcases h with ⟨rfl,rfl⟩ | rfl
 ·rfl
 ·simp[eF]
theorem bU.ext {H':PH} (h:bU H s v rows) (c:∀ o x,H o=some x→H' o=some x):bU H' s v rows:=by
 rcases h with h | ⟨q,rs,h0,h1,h2,h3⟩
 ·exact .inl h
 ·exact .inr ⟨q,rs,h0,c q _ h1,h2,h3⟩
theorem fP {K:PV→PH→Prop} (h:bU H s v rows) (A:eF H s y=some src) (w:roomFor rows.length src.length b)
  (u:∀ v' H',bU H' s v' (rows++src)→(∀ o x,H o=some x→(∀ l,v≠.osl o s 0 l)→H' o=some x)→K v' H'):mZ H s b v y K:=by
 rcases h with ⟨rfl,rfl⟩ | ⟨q,rs,rfl,h1,h2,h3⟩
 ·refine⟨src,A,w,fun e=>?_,fun e o p=>?_⟩
  ·subst e;exact u _ _ (.inl ⟨rfl,rfl⟩) fun o x p _=>p
  ·refine u _ _ (.inr ⟨o,src,rfl,by simp only[aT,if_true],aYV _,by simp⟩) fun o' x c _=>?_;have:o'≠o:=by rintro rfl; rw[p] at c; cases c
   simp only[aT,if_neg this,c]
 ·have d:(rows++src).length=rows.length+src.length:=aYU;refine⟨src,A,rfl,rfl,w,rs,h1,h2,?_,fun o p=>?_⟩
  ·rw[h3];refine u _ _ (.inr ⟨q,rows++src,by rw[d],by simp only[aT,if_true],aYV _,aZK⟩) fun o' x c i=>?_;have:o'≠q:=by rintro rfl; exact i _ rfl
   simp only[aT,if_neg this,c]
  ·rw[h3];refine u _ _ (.inr ⟨o,rows++src,by rw[d],by simp only[aT,if_true],aYV _,aZK⟩) fun o' x c i=>?_;have B:o'≠o:=by rintro rfl; rw[p] at c; cases c
   simp only[aT,if_neg B,c]
def Pure (u:PV):Prop:=∀ q s rs,PV.frz q s rs u=u
theorem bU.frz (h:bU H s v rows):∃ d,Seen s d rows∧∀ F:PF,∃ c e,jJ F H c e∧(∀ t,F t=some v→c t=some d)∧∀ i u,F i=some u→Pure u→c i=some u:=by
 rcases h with ⟨rfl,rfl⟩ | ⟨q,rs,rfl,h1,h2,h3⟩
 ·exact⟨.aB,.inl ⟨rfl,rfl⟩,fun F=>⟨F,H,.refl _ _,fun t h=>h,fun i u h _=>h⟩⟩
 ·refine⟨.sl s rows,.inr rfl,fun F=>⟨_,_,.step q h1 (.refl _ _),fun t p=>?_,fun i u hi l=>?_⟩⟩
  ·have:0+rows.length≤rs.length:=Om;simp only[PF.frz,p,aZZ,PV.frz,PV.tC,PV.dK,if_true,true_and,if_pos this,a0B,h3]
  ·simp only[PF.frz,hi,aZZ];rw[l]
theorem qR {t:Nat} {e:kW} (c:e=.normal∨e=.ret) (h:bU H s v rows) (d:F t=some v):aR [.tmp t] (cA (.sl s rows)) e F H:=by
 rcases h with ⟨rfl,rfl⟩ | ⟨q,rs,rfl,h1,h2,h3⟩
 ·exact aZ (vs:=[.aB]) c .nil (by rw[kS,nP,d,oX]) a_ ⟨.nil s,rfl⟩
 ·exact aDT c d h1 h2 ⟨by rw[h3]; exact .refl _,rfl⟩
end
end Go.PM
namespace Go.PM
open Go
section
variable {C:Ctx} {F:PF} {H:PH}
@[go_sem] theorem nK (o s:Nat) (rs:List (List PV)) (i:Nat):(F.frz o s rs) i=(F i).map (PV.frz o s rs):=(rfl)
theorem qU {name t o s k:Nat} {rs:List (List PV)} {v:PV} {d:Option Nat} {K:PF→PH→Prop} (h:aH C name [.sl s (rs.take k)] .nil (aF v)) (i:F t=some (.osl o s 0 k)) (e:H o=some (.rows s rs)) (l:k≤rs.length)
  (c:K ((F.frz o s rs).put d v) (H.frz o s rs)):iV C name [.tmp t] [] d K F H:=by
 refine .inr ⟨_,_,.step o e (.refl _ _),[.sl s (rs.take k)],.nil,aF v,?_,a_,h,?_⟩
 ·have:0+k≤rs.length:=Om;simp only[rT,GL,GK,nK,i,aZZ,PV.frz,PV.tC,PV.dK,if_true,true_and,if_pos this,a0B,a0M]
 ·rintro r H' ⟨rfl,rfl⟩ -;rw[PH.uW];exact c
end
end Go.PM
namespace Go.Na
def val:List Nat→Nat
 | []=>0
 | x::xs=>x+4294967296*val xs
def Lim (xs:List Nat):Prop:=∀ x∈xs,x<4294967296
def aI (n:Nat):List Nat:=if h:n=0 then [] else (n%4294967296)::aI (n/4294967296)
termination_by n
decreasing_by exact Nat.div_lt_self (a1G h) (by decide)
def nl (n:Nat):Nat:=(aI n).length
theorem dW:aI 0=[]:=by rw[aI]; simp
theorem sH {n:Nat} (h:n≠0):aI n=(n%4294967296)::aI (n/4294967296):=by rw[aI]; simp[h]
theorem oV {n:Nat} (h:n≠0) (c:n<4294967296):aI n=[n]:=by
 rw[sH h,a0E c,a2I c,dW]
theorem aS (n:Nat):val (aI n)=n:=by
 induction n using Nat.strongRecOn with
 | _ n c =>
  by_cases h:n=0
  ·subst h; rw[dW]; rfl
  ·rw[sH h,val,c _ (Nat.div_lt_self (a1G h) (by decide))];exact Nat.mod_add_div n 4294967296
theorem aV (n:Nat):Lim (aI n):=by
 induction n using Nat.strongRecOn with
 | _ n c =>
  by_cases h:n=0
  ·subst h; rw[dW]; intro x hx; cases hx
  ·rw[sH h];intro x hx;rw[aYY] at hx;rcases hx with rfl | hx
   ·exact a0I _ (by decide)
   ·exact c _ (Nat.div_lt_self (a1G h) (by decide)) x hx
theorem zM:nl 0=0:=by rw[nl,dW]; rfl
theorem atP {n:Nat} (h:n≠0):nl n=nl (n/4294967296)+1:=by rw[nl,sH h]; rfl
theorem hC (n k:Nat):nl n≤k↔n<4294967296 ^ k:=by
 induction k generalizing n with
 | zero =>
  by_cases h:n=0
  ·subst h; simp[zM]
  ·rw[atP h]; simp; omega
 | succ k c =>
  by_cases h:n=0
  ·subst h; simp[zM,a1K]
  ·rw[atP h,Nat.succ_le_succ_iff,c,a0L,a1T (by decide)]
theorem gU {n:Nat}:nl n=0↔n=0:=by
 have:=hC n 0;simp at this;exact this
theorem gJ (xs ys:List Nat):val (xs++ys)=val xs+4294967296 ^ xs.length*val ys:=by
 induction xs with
 | nil=>simp[val]
 | cons x xs c =>simp only[List.cons_append,val,a0F,c,a0L];rw[aZE,a1D,← aZP,aZT 4294967296 (4294967296 ^ xs.length)]
theorem eX {xs:List Nat} (h:Lim xs):val xs<4294967296 ^ xs.length:=by
 induction xs with
 | nil=>simp[val]
 | cons x xs e =>have i:=h x (by simp);have c:=e fun y d=>h y (by simp[d]);simp only[val,a0F,a0L];have:4294967296*(val xs+1)≤4294967296*4294967296 ^ xs.length:=a1F _ c;rw[aZE,Nat.mul_one] at this;rw[aZT (4294967296 ^ xs.length)];omega
theorem Lim.app {xs ys:List Nat} (h:Lim xs) (k:Lim ys):Lim (xs++ys):=fun x c=>by
 rw[a0G] at c;exact c.elim (h x) (k x)
theorem Lim.take {xs:List Nat} (h:Lim xs) (n:Nat):Lim (xs.take n):=fun x c=>h x (a2M c)
theorem Lim.drop {xs:List Nat} (h:Lim xs) (n:Nat):Lim (xs.drop n):=fun x c=>h x (List.mem_of_mem_drop c)
theorem Lim.set {xs:List Nat} (h:Lim xs) (i:Nat) {v:Nat} (c:v<4294967296):Lim (xs.set i v):=fun x d=>by
 rcases List.mem_or_eq_of_mem_set d with h1 | h1
 ·exact h x h1
 ·subst h1; exact c
theorem wL (n:Nat):Lim (aYR n 0):=fun x c=>by
 rw[List.mem_replicate] at c; rw[c.2]; decide
theorem sO (n:Nat):val (aYR n 0)=0:=by
 induction n with
 | zero=>rfl
 | succ n c=>simp[List.replicate_succ,val,c]
theorem asY {xs:List Nat} (h:Lim xs) (p:∀ x,xs.getLast?=some x→x≠0):aI (val xs)=xs:=by
 induction xs with
 | nil=>simp[val,dW]
 | cons x xs F =>
  have i:=h x (by simp);have l:Lim xs:=fun y B=>h y (by simp[B]);cases xs with
  | nil =>have:=p x (by simp);simp only[val,Nat.mul_zero,a0S];exact oV this i
  | cons y ys =>
   have c:=F l fun z E=>p z (by rw[List.getLast?_cons_cons]; exact E);have A:val (y::ys)≠0:=fun e=>by rw[e,dW] at c; cases c
   have d:x+4294967296*val (y::ys)≠0:=by have:0<4294967296*val (y::ys):=Nat.mul_pos (by decide) (a1G A);omega
   show aI (x+4294967296*val (y::ys))=_;rw[sH d];have u:(x+4294967296*val (y::ys))%4294967296=x:=by rw[Nat.add_mul_mod_self_left,a0E i]
   have w:(x+4294967296*val (y::ys))/4294967296=val (y::ys):=by rw[Nat.add_mul_div_left _ _ (by decide),a2I i,aZM]
   rw[u,w,c]
theorem V6 {xs:List Nat} {n:Nat} (h:∀ j x,n≤j→xs[j]?=some x→x=0):val (xs.take n)=val xs:=by
 have e:xs.drop n=aYR (xs.drop n).length 0:=by apply a1Y (by simp);intro i c d;rw[List.getElem_replicate,List.getElem_drop];exact h (n+i) _ Om (aZA _)
 conv=>rhs; rw[← a1N n xs,gJ,e,sO]
 simp
theorem NI {xs:List Nat} (l:Lim xs) {n:Nat} (i:n≤xs.length) (h:∀ j x,n≤j→xs[j]?=some x→x=0) (d:∀ x,0<n→xs[n-1]?=some x→x≠0):xs.take n=aI (val xs):=by
 rw[← V6 h,asY (l.take n)];intro x c;rw[List.getLast?_eq_getElem?,aZH,a1E i] at c;rcases a1B n with e | e
 ·subst e; simp at c
 ·rw[List.getElem?_take_of_lt Om] at c;exact d x e c
theorem agD {xs:List Nat} (e:Lim xs) {n:Nat} (d:n≤xs.length) (h:∀ j x,n≤j→xs[j]?=some x→x=0) (c:∀ x,0<n→xs[n-1]?=some x→x≠0):nl (val xs)=n:=by
 rw[nl,← NI e d h c,aZH]; omega
theorem fU {xs:List Nat} (h:Lim xs):nl (val xs)≤xs.length:=(hC _ _).2 (eX h)
theorem kT {xs : List Nat} (h : Lim xs) : xs.take (nl (val xs)) = aI (val xs) := by
  have hl := fU h;have e : val (xs.take (nl (val xs)) ++ xs.drop (nl (val xs))) = val xs := by rw [a1N]
  rw [gJ, aZH, a1E hl] at e;have h1 := eX (h.take (nl (val xs)));rw [aZH, a1E hl] at h1;have h2 := (hC (val xs) (nl (val xs))).1 (aYV _);have hd : val (xs.drop (nl (val xs))) = 0 := by
    rcases a1B (val (xs.drop (nl (val xs)))) with h | h
    · exact h
    · have := a1F (4294967296 ^ nl (val xs)) h
      omega
  have hz : ∀ j x, nl (val xs) ≤ j → xs[j]? = some x → x = 0 := by
    have zero : ∀ ys : List Nat, val ys = 0 → ∀ y ∈ ys, y = 0 := by
      intro ys
      induction ys with
      | nil => intro _ y hy; cases hy
      | cons z zs ih =>
        intro hv y hy;simp only [val] at hv;rw [aYY] at hy;rcases hy with rfl | hy
        · omega
        · exact ih (by have : 4294967296 * val zs = 0 := Om
                       rcases Nat.mul_eq_zero.1 this with h | h
                       · cases h
                       · exact h) y hy
    intro j x hj hx;refine zero _ hd x ?_;rw [List.mem_iff_getElem?];exact ⟨j - nl (val xs), by rw [List.getElem?_drop, Nat.add_sub_cancel' hj]; exact hx⟩
  refine NI h hl hz fun x hpos hx e => ?_;subst e;have hz2 : ∀ j x, nl (val xs) - 1 ≤ j → xs[j]? = some x → x = 0 := fun j y hj hy => by
    rcases aZL j (nl (val xs)) with h3 | h3
    · have : j = nl (val xs) - 1 := Om
      subst this; rw [hx] at hy; cases hy; rfl
    · exact hz j y h3 hy
  have h3 := V6 hz2;have h4 := eX (h.take (nl (val xs) - 1));rw [h3, aZH, a1E Om] at h4;have := (hC (val xs) (nl (val xs) - 1)).2 h4;omega
theorem Us {xs:List Nat} (h:Lim xs) {n:Nat} (l:nl (val xs)=n+1):∃ x,xs[n]?=some x∧x≠0:=by
 have p:=fU h;refine⟨xs[n]'Om,aZA _,fun e=>?_⟩;have i:=kT h;have c:=aS (val xs);rw[← i,l,aZW Om,e,gJ] at c;simp only[val,Nat.mul_zero,a0S] at c;have d:=eX (h.take n);rw[c,aZH,a1E Om] at d;have:=(hC (val xs) n).2 d;omega
theorem sM (xs:List Nat) {k:Nat} (h:k<xs.length):val xs=val (xs.take k)+4294967296 ^ k*(xs[k]+4294967296*val (xs.drop (k+1))):=by
 conv=>lhs; rw[← a1N k xs,gJ,aZH,a1E Om,a0O h]
 rfl
theorem jf {xs ys:List Nat} (p:Lim xs) {k:Nat} (c:k<xs.length) (d:k<ys.length) (l:xs.drop (k+1)=ys.drop (k+1)) (h:xs[k]<ys[k]):val xs<val ys:=by
 rw[sM xs c,sM ys d,l];have e:=eX (p.take k);rw[aZH,a1E Om] at e;have i:4294967296 ^ k*(xs[k]+4294967296*val (ys.drop (k+1))+1)≤4294967296 ^ k*(ys[k]+4294967296*val (ys.drop (k+1))):=a1F _ Om;rw[aZE _ _ 1,Nat.mul_one] at i;omega
def dJ (a b:Nat):Int:=if a<b then -1 else if b<a then 1 else 0
theorem Bd {xs ys:List Nat} {k:Nat} (c:k<xs.length) (d:k<ys.length) (e:xs.drop (k+1)=ys.drop (k+1)) (h:xs[k]=ys[k]):xs.drop k=ys.drop k:=by
 rw[a0O c,a0O d,e,h]
theorem fQ {a b:Nat} (h:a≤b):nl a≤nl b:=(hC a _).2 (Nat.lt_of_le_of_lt h ((hC b _).1 (aYV _)))
theorem Kd {xs:List Nat} (h:Lim xs) {j:Nat} (c:j<nl (val xs)):∃ (d:j<xs.length) (i:j<(aI (val xs)).length),xs[j]=(aI (val xs))[j]:=by
 have l:=fU h;refine⟨by omega,c,?_⟩;have e:=kT h;have:(xs.take (nl (val xs)))[j]?=(aI (val xs))[j]?:=by rw[e]
 rw[List.getElem?_take_of_lt c,aZA Om,aZA c] at this;exact a0Y.inj this
def cL (n:Nat):Nat:=if h:n=0 then 0 else cL (n/2)+1
termination_by n
decreasing_by exact Nat.div_lt_self (a1G h) (by decide)
theorem jT:cL 0=0:=by rw[cL]; simp
theorem pP {n:Nat} (h:n≠0):cL n=cL (n/2)+1:=by rw[cL]; simp[h]
theorem mF (n k:Nat):cL n≤k↔n<2 ^ k:=by
 induction k generalizing n with
 | zero =>
  by_cases h:n=0
  ·subst h; simp[jT]
  ·rw[pP h]; simp; omega
 | succ k c =>
  by_cases h:n=0
  ·subst h; simp[jT,a1K]
  ·rw[pP h,Nat.succ_le_succ_iff,c,a0L,a1T (by decide)]
theorem kD {n:Nat}:cL n=0↔n=0:=by
 have:=mF n 0;simp at this;exact this
theorem Ke {hi lo k:Nat} (l:lo<2 ^ k) (e:hi≠0):cL (lo+2 ^ k*hi)=k+cL hi:=by
 apply Nat.le_antisymm
 ·rw[mF,Nat.pow_add];have c:=(mF hi _).1 (aYV _);have:2 ^ k*(hi+1)≤2 ^ k*2 ^ cL hi:=a1F _ c;rw[aZE,Nat.mul_one] at this;omega
 ·obtain⟨b,d⟩:∃ b,cL hi=b+1:=⟨cL hi-1,by have:=mt kD.1 e; omega⟩;rw[d];rcases aZL (cL (lo+2 ^ k*hi)) (k+(b+1)) with h | h
  ·have c:=(mF (lo+2 ^ k*hi) (k+b)).1 Om;rw[Nat.pow_add] at c;have i:¬ hi<2 ^ b:=fun h=>by have:=(mF hi b).2 h; omega
   have:2 ^ k*2 ^ b≤2 ^ k*hi:=a1F _ Om;omega
  ·exact h
theorem hL (n k:Nat):cL n≤32*k↔nl n≤k:=by
 rw[mF,hC,Nat.pow_mul]
end Go.Na
namespace Go.PM
theorem Lq {F c:PF} (h:F.le c:=by (repeat' (first|exact c_|refine d_ ?_ ?_))<;>first|(simp only[go_sem]<;>rfl)|rfl|assumption):F.le c:=h
end Go.PM
namespace Go.PM
open Go Go.Na
abbrev aL (xs:List Nat):List (List PV):=xs.map fun (n:Nat)=>[PV.int .u32 (n:Int)]
abbrev aJ (xs:List Nat):PV:=.sl 1 (xs.map fun (n:Nat)=>[PV.int .u32 (n:Int)])
theorem cC (xs:List Nat):(aL xs).length=xs.length:=by simp
theorem bX (xs:List Nat) {i:Nat} (h:i<xs.length):(aL xs)[i]?=some [.int .u32 (xs[i]:Nat)]:=by simp[h]
theorem C1 (xs:List Nat) (k:Nat):aJ (xs.take k)=.sl 1 ((xs.map fun (n:Nat)=>[PV.int .u32 (n:Int)]).take k):=by rw[aJ,List.map_take]
theorem cO (n:Nat):IntKind.u32.wrap (n:Int)=((n%4294967296:Nat):Int):=by
 have e:IntKind.u32.wrap (n:Int)=(n:Int)%4294967296:=by simp[IntKind.wrap,IntKind.bits,IntKind.signed]
 rw[e]; rfl
theorem wS {k:Nat} (h:k≤9223372036854775807) (c:0<k):IntKind.i64.wrap ((k:Int)-1)=((k-1:Nat):Int):=by
 rw[wrap_i64 Om Om]; omega
def anW (xs:List Nat) (n:Nat):PF:=((PF.nil.set 0 (aJ xs)).set 3 (.int .i64 n))
theorem anY {C:Ctx} (xs:List Nat) (w:Lim xs) (A:xs.length≤35184372087808):pT.wp C (aR GT.res (aF (.int .i64 (nl (val xs):Nat)))) (PF.args [aJ xs]) .nil:=by
 simp only[go_sem,pT,LC,LD,GT];refine wp_loop (α:=Nat) (anW xs) (fun _=>.nil) (fun n=>n≤xs.length∧∀ j x,n≤j→xs[j]?=some x→x=0) (fun n=>n) xs.length ⟨aYV _,fun j x h e=>by rw[a0H h] at e; cases e⟩ ?_ a_ ?_
 ·unfold anW;exact Lq
 rintro n ⟨u,p⟩;have out:(∀ x,0<n→xs[n-1]?=some x→x≠0)→nl (val xs)=n:=fun h=>agD w u p h;simp only[go_sem,KZ,LE,anW];by_cases i:(n:Int)>0
 ·have l:0<n:=Om;have hi:=bX xs (Om:n-1<xs.length);simp only[go_sem,i,wS (Om:n≤9223372036854775807) l,hi];by_cases d:xs[n-1]=0
  ·simp only[go_sem,bN (Om:((xs[n-1]:Nat):Int)=0),LF,wS (Om:n≤9223372036854775807) l];refine aD (n-1) ⟨by omega,fun j x y c=>?_⟩ Om ?_ a_
   ·rcases aZL j n with h | h
    ·have:j=n-1:=Om;subst this;rw[aZA Om] at c;cases c; exact d
    ·exact p j x h c
   ·exact Lq
  ·simp only[go_sem,bD (Om:((xs[n-1]:Nat):Int)≠0),tN];refine aO (.inr rfl) rfl ?_;rw[out fun x _ c=>by rw[aZA Om] at c; cases c; exact d];rfl
 ·simp only[go_sem,i,tN];refine aO (.inr rfl) rfl ?_;rw[out fun x h=>by omega];rfl
theorem atQ {C:Ctx} (xs:List Nat) (c:aH C 138 [aJ xs] .nil (aF (.int .i64 (nl (val xs):Nat)))):EN.wp C (aR R4.res (aF (.bool (decide (nl (val xs)>512))))) (PF.args [aJ xs]) .nil:=by
 simp only[go_sem,EN,Dd,De,R4];refine aA c rfl ?_;simp only[go_sem];refine aO (.inr rfl) rfl ?_;simp only[bL,PV.bool.injEq,decide_eq_decide];omega
def szL (n:Nat):List Nat:=if nl n>512 then [] else aI n
def szE (n:Nat):Int:=if nl n>512 then 2 else 0
def szV (n:Nat):PV:=.tup [aJ (szL n),.int .i64 (szE n)]
theorem atY {C:Ctx} (xs:List Nat) (l:Lim xs) (c:aH C 138 [aJ xs] .nil (aF (.int .i64 (nl (val xs):Nat)))):EQ.wp C (aR Si.res (cA (szV (val xs)))) (PF.args [aJ xs]) .nil:=by
 simp only[go_sem,EQ,D0,D1,Si];refine aA c rfl ?_;simp only[go_sem,D2];by_cases h:nl (val xs)>512
 ·have i:((nl (val xs):Nat):Int)>512:=Om;simp only[go_sem,i,D3];refine aZ (vs:=[.aB,.int .i64 2]) (.inr rfl) .nil rfl a_ ⟨?_,rfl⟩;rw[szV,szL,szE,if_pos h,if_pos h];refine .tup rfl fun j p q d e=>?_
  match j with
  | 0=>simp at d e; subst d; subst e; exact .nil 1
  | 1=>simp at d e; subst d; subst e; exact .refl _
  | j+2=>simp at d
 ·have i:¬ ((nl (val xs):Nat):Int)>512:=Om;have w:=fU l;have u:((nl (val xs):Nat):Int)≤(xs.length:Nat):=Om;simp only[go_sem,i,D4,u,or_true,a0B];refine aZ (.inr rfl) .nil rfl a_ ⟨?_,rfl⟩;rw[szV,szL,szE,if_neg h,if_neg h,← kT l,C1];exact .refl _
theorem aCX {C:Ctx} (v:Nat) (H:v<18446744073709551616) (d:∀ xs,Lim xs→xs.length≤35184372087808→aH C 138 [aJ xs] .nil (aF (.int .i64 (nl (val xs):Nat)))) :
  LG.wp C (aR aoA.res (aF (aJ (aI v)))) (PF.args [.int .u64 v]) .nil:=by
 have w:IntKind.u32.wrap ((v:Nat):Int)=((v%4294967296:Nat):Int):=cO v;have y:Int.fdiv ((v:Nat):Int) 4294967296=((v/4294967296:Nat):Int):=by rw[Int.fdiv_eq_ediv_of_nonneg _ (by decide)]; rfl
 have l:v/4294967296<4294967296:=Om;have A:IntKind.u32.wrap ((v/4294967296:Nat):Int)=((v/4294967296:Nat):Int):=by rw[cO,a0E l]
 have e:Lim [v%4294967296,v/4294967296]:=by
  intro x u;simp only[aYY,List.mem_nil_iff,or_false] at u;rcases u with rfl | rfl
  ·exact a0I _ (by decide)
  ·exact l
 have c:val [v%4294967296,v/4294967296]=v:=by simp only[val,Nat.mul_zero,a0S]; exact Nat.mod_add_div v 4294967296
 have F:∀ a b:Int,PV.bin .shr (.int .u64 a) (.int .u64 b)=shift .shr .u64 a b:=fun _ _=>rfl;have i:shift .shr .u64 (v:Int) 32=some (.int .u64 ((v/4294967296:Nat):Int)):=by
  unfold shift;rw[if_neg (by decide)];simp only;have:min (Int.toNat 32) IntKind.u64.bits=32:=by decide
  rw[this];rw[show (2:Int) ^ 32=4294967296 by decide,y]
 simp only[go_sem,LG,R5,R6,aoA,w,i,A];have E:(2:Nat)*1≤16777216:=by decide
 simp only[go_sem,R7];refine aA (d [v%4294967296,v/4294967296] e (by simp)) rfl ?_;have p:=fU e;rw[c] at p ⊢;have B:((nl v:Nat):Int)≤((2:Nat):Int):=by simp at p; omega
 simp only[go_sem,B,or_true,a0B];refine aO (.inr rfl) rfl ?_;have:=kT e;rw[c] at this;rw[← this,C1];rfl
theorem aDC {C:Ctx} (xs:List Nat) (d:Lim xs) (l:xs.length≤35184372087808) (c:aH C 138 [aJ xs] .nil (aF (.int .i64 (nl (val xs):Nat)))) :
  LW.wp C (aR aoE.res (cA (aJ (aI (val xs))))) (PF.args [aJ xs]) .nil:=by
 simp only[go_sem,LW,Sr,Ss,aoE];refine aA c rfl ?_;have p:=fU d;have e:((nl (val xs):Nat):Int)≤(xs.length:Nat):=Om;simp only[go_sem,e,or_true,a0B];refine fP (rows:=[]) (src:=aL (aI (val xs))) .nil ?_ ?_ fun v H' i _=>?_
 ·simp only[go_sem];rw[← kT d,← List.map_take]
 ·unfold roomFor;rw[cC];have:(aI (val xs)).length=nl (val xs):=rfl;simp only[a1H,maxLen];omega
 ·exact qR (.inr rfl) (by simpa using i) rfl
end Go.PM
theorem Sq {p:Prop} (h:p:=by simp only[go_sem]):p:=h
theorem Ev {p:Prop} (h:p:=by simp only[go_sem]<;>rfl):p:=h
namespace Go.PM
open Go Go.Na
def anQ (xs ys:List Nat) (i:Int):PF:=(((PF.nil.set 0 (aJ xs)).set 1 (aJ ys)).set 7 (.int .i64 i))
theorem aKE {C:Ctx} (xs ys:List Nat) (F:Lim xs) (H:Lim ys) (Z:xs.length≤35184372087808) (ly:ys.length≤35184372087808) (u:aH C 138 [aJ xs] .nil (aF (.int .i64 (nl (val xs):Nat)))) (w:aH C 138 [aJ ys] .nil (aF (.int .i64 (nl (val ys):Nat)))) :
  SN.wp C (aR aCU.res (aF (.int .i64 (dJ (val xs) (val ys))))) (PF.args [aJ xs,aJ ys]) .nil:=by
 simp only[go_sem,SN,adP,adQ,aCU];refine aA u Ev ?_;simp only[go_sem];refine aA w Ev ?_;simp only[go_sem,adR];have U:=fU F;have O:=fU H;by_cases V:nl (val xs)<nl (val ys)
 ·have c:((nl (val xs):Nat):Int)<(nl (val ys):Nat):=Om;simp only[go_sem,c,adS];refine aO (.inr rfl) Ev ?_;have:val xs<val ys:=by
   rcases aZL (val xs) (val ys) with h | h
   ·exact h
   ·have:=fQ h; omega
  simp[bL,dJ,this]
 have c:¬ ((nl (val xs):Nat):Int)<(nl (val ys):Nat):=Om;simp only[go_sem,c,adT];by_cases W:nl (val xs)>nl (val ys)
 ·have d:((nl (val xs):Nat):Int)>(nl (val ys):Nat):=Om;simp only[go_sem,d,adU];refine aO (.inr rfl) Ev ?_;have:val ys<val xs:=by
   rcases aZL (val ys) (val xs) with h | h
   ·exact h
   ·have:=fQ h; omega
  have l:¬ val xs<val ys:=Om;simp[bL,dJ,this,l]
 have d:¬ ((nl (val xs):Nat):Int)>(nl (val ys):Nat):=Om;have S:nl (val xs)=nl (val ys):=Om;simp only[go_sem,d,adV];have ex:=aS (val xs);have i:=aS (val ys);have M:=aV (val xs);have N:=aV (val ys);refine wp_loop (α:=Nat) (fun k=>anQ xs ys ((k:Int)-1)) (fun _=>.nil) (fun k=>k≤nl (val xs)∧(aI (val xs)).drop k=(aI (val ys)).drop k) (fun k=>k) (nl (val xs)) ⟨aYV _,?_⟩ ?_ a_ ?_
 ·rw[a2L (by rw[nl]; exact aYV _),a2L (by rw[S,nl]; exact aYV _)]
 ·unfold anQ
  (repeat' (first|exact c_|refine d_ ?_ ?_))<;>first|(simp only[go_sem,wrap_i64 (show -9223372036854775808≤((nl (val xs):Nat):Int)-1 by omega) (show ((nl (val xs):Nat):Int)-1≤9223372036854775807 by omega)]<;>rfl)|rfl
 rintro k ⟨Y,e⟩;simp only[go_sem,Rt,adW,anQ];by_cases X:0<k
 ·obtain⟨m,rfl⟩:∃ m,k=m+1:=⟨k-1,by omega⟩;have x:((m+1:Nat):Int)-1=(m:Int):=Om;have p:(m:Int)≥0:=Om;obtain⟨J,y,A⟩:=Kd F (Om:m<nl (val xs));obtain⟨K,B,E⟩:=Kd H (Om:m<nl (val ys));simp only[go_sem,x,p];refine bO .nil dT a_ ?_;simp only[go_sem,adX,bX xs J,bX ys K];by_cases Q:xs[m]<ys[m]
  ·simp only[go_sem,show ((xs[m]:Nat):Int)<(ys[m]:Nat) by omega,adY];refine aO (.inr rfl) Ev ?_;have:=jf M y B e (by rw[← A,← E]; exact Q);rw[ex,i] at this;simp[bL,dJ,this]
  ·simp only[go_sem,show ¬ ((xs[m]:Nat):Int)<(ys[m]:Nat) by omega];refine bO .nil dT a_ ?_;simp only[go_sem,Ru,bX xs J,bX ys K];by_cases R:xs[m]>ys[m]
   ·simp only[go_sem,show ((xs[m]:Nat):Int)>(ys[m]:Nat) by omega,Rv];refine aO (.inr rfl) Ev ?_;have:=jf N B y e.symm (by rw[← A,← E]; exact R);rw[ex,i] at this;have l:¬ val xs<val ys:=Om;simp[bL,dJ,this,l]
   ·simp only[go_sem,show ¬ ((xs[m]:Nat):Int)>(ys[m]:Nat) by omega,Rw];refine aD m ⟨by omega,Bd y B e (by rw[← A,← E]; omega)⟩ Om ?_ a_
    (repeat' (first|exact c_|refine d_ ?_ ?_))<;>first|(simp only[go_sem,wrap_i64 (Om:-9223372036854775808≤(m:Int)-1) (Om:(m:Int)-1≤9223372036854775807)]<;>rfl)|rfl
 ·have:k=0:=Om;subst this;have x:¬ ((0:Nat):Int)-1≥0:=by decide
  simp only[go_sem,x,Rx];refine aO (.inr rfl) Ev ?_;rw[a0B,a0B] at e;have:val xs=val ys:=by rw[← ex,← i,e]
  simp[bL,dJ,this]
def Ri (k:Nat) (v:Nat):PF:=((PF.nil.set 4 (.int .i64 k)).set 5 (.int .u32 v))
theorem aCS {C:Ctx} (xs:List Nat) (w:Lim xs) (U:xs.length≤35184372087808) (x:aH C 138 [aJ xs] .nil (aF (.int .i64 (nl (val xs):Nat)))) :
  KW.wp C (aR anP.res (aF (.int .i64 (cL (val xs):Nat)))) (PF.args [aJ xs]) .nil:=by
 simp only[go_sem,KW,Rk,Rl,anP];refine aA x Ev ?_;simp only[go_sem,Rm];have R:=fU w;by_cases K:nl (val xs)=0
 ·simp only[go_sem,bN (show ((nl (val xs):Nat):Int)=0 by omega),Rn];refine aO (.inr rfl) Ev ?_;have:val xs=0:=gU.1 K;simp[bL,this,jT]
 obtain⟨n,J⟩:∃ n,nl (val xs)=n+1:=⟨nl (val xs)-1,by omega⟩;obtain⟨t,p,y⟩:=Us w J;have u:t<4294967296:=w t (a1C p);have c:n<xs.length:=Om;have Q:val xs=val (xs.take n)+4294967296 ^ n*t:=by
  have e:=kT w;have:=aS (val xs);have O:xs[n]=t:=by rw[aZA c] at p; exact a0Y.inj p
  rw[← e,J,aZW c,O,gJ,aZH,a1E Om] at this;simp only[val,Nat.mul_zero,a0S] at this;exact this.symm
 have S:cL (val xs)=32*n+cL t:=by
  have E:=eX (w.take n);rw[aZH,a1E Om] at E;rw[Q,show (4294967296:Nat) ^ n=2 ^ (32*n) by rw[Nat.pow_mul]] at *
  exact Ke E y
 have d:(aL xs)[n]?=some [.int .u32 (t:Nat)]:=by rw[bX xs c];rw[aZA c] at p;rw[a0Y.inj p]
 have M:IntKind.i64.wrap (((nl (val xs):Nat):Int)-1)=(n:Int):=by rw[wrap_i64 Om Om]; omega
 have N:IntKind.i64.wrap ((n:Int)*32)=((32*n:Nat):Int):=by rw[wrap_i64 Om Om]; omega
 simp only[go_sem,bD (show ((nl (val xs):Nat):Int)≠0 by omega),Ro,Rp,M,N,d];refine wp_loop (α:=Nat × Nat) (fun a=>Ri a.1 a.2) (fun _=>.nil) (fun a=>a.1+cL a.2=32*n+cL t∧a.2<4294967296) (fun a=>a.2) (32*n,t) ⟨rfl,u⟩ ?_ a_ ?_
 ·unfold Ri;exact Lq
 rintro⟨k,v⟩ ⟨F,hlt⟩;simp only at F hlt;have H:cL t≤32:=(mF t 32).2 u;simp only[go_sem,Rj,Rq,Ri];by_cases B:(v:Int)>0
 ·have A:v≠0:=Om;have i:PV.bin .shr (.int .u32 (v:Int)) (.int .u64 1)=some (.int .u32 ((v/2:Nat):Int)):=by
   show shift .shr .u32 (v:Int) 1=_;unfold shift;rw[if_neg (by decide)];simp only;have:min (Int.toNat 1) IntKind.u32.bits=1:=by decide
   rw[this,show (2:Int) ^ 1=2 by decide,Int.fdiv_eq_ediv_of_nonneg _ (by decide)];rfl
  have l:shift .shr .u32 (v:Int) 1=some (.int .u32 ((v/2:Nat):Int)):=i;simp only[go_sem,B,Rr,Rs,i,l,wZz k];refine aD (k+1,v/2) ⟨?_,?_⟩ (Nat.div_lt_self Om (by decide)) ?_ a_
  ·have:=pP A;simp only; omega
  ·simp only; omega
  ·exact Lq
 ·have:v=0:=Om;subst this;simp only[go_sem,B,C9];refine aO (.inr rfl) Ev ?_;rw[jT] at F;simp only[bL,PV.int.injEq,true_and];omega
structure rJ (C:Ctx):Prop where
 length:∀ xs,Lim xs→xs.length≤35184372087808→aH C 138 [aJ xs] .nil (aF (.int .i64 (nl (val xs):Nat)))
 large:∀ xs,Lim xs→xs.length≤35184372087808→aH C 137 [aJ xs] .nil (aF (.bool (decide (nl (val xs)>512))))
 sized:∀ xs,Lim xs→xs.length≤35184372087808→aH C 141 [aJ xs] .nil (aF (szV (val xs)))
 trim:∀ xs,Lim xs→xs.length≤35184372087808→aH C 135 [aJ xs] .nil (aF (aJ (aI (val xs))))
 make:∀ v:Nat,v<18446744073709551616→aH C 132 [.int .u64 v] .nil (aF (aJ (aI v)))
 cmp:∀ xs ys,Lim xs→Lim ys→xs.length≤35184372087808→ys.length≤35184372087808→aH C 129 [aJ xs,aJ ys] .nil (aF (.int .i64 (dJ (val xs) (val ys))))
def jK:PV→List Nat
 | .sl _ rows=>rows.map fun r=>match r with | [.int _ n]=>n.toNat | _=>0
 | _=>[]
theorem eO (xs:List Nat):jK (aJ xs)=xs:=by
 simp[jK,List.map_map,Function.comp_def]
def anO:Spec:=fun name vs=>match name,vs with
 | 138,[x]=>some ([],fun _=>aF (.int .i64 (nl (val (jK x)):Nat)))
 | _,_=>none
theorem oW (xs:List Nat):anO 138 [aJ xs]=some ([],fun _=>aF (.int .i64 (nl (val xs):Nat))):=by
 show some _=_; rw[eO]
theorem zR (P:List Nat) (k v:Nat):(P++aYR (k+1) 0).set P.length v=(P++[v])++aYR k 0:=by
 rw[a1M _ _ (aYV _),a1Q,List.replicate_succ,a2B,a0A];rfl
theorem fV (L:List Nat) (i v:Nat):(aL L).set i [.int .u32 (v:Int)]=aL (L.set i v):=by
 unfold aL; rw[List.map_set]
theorem jQ (P:List Nat) (v:Nat):val (P++[v])=val P+4294967296 ^ P.length*v:=by
 rw[gJ]; simp[val]
theorem cH (xs:List Nat) {i:Nat} (h:i<xs.length):val (xs.take (i+1))=val (xs.take i)+4294967296 ^ i*xs[i]:=by
 rw[aZW h,jQ,aZH,a1E Om]
theorem yJ {v:Nat}:shift .shr .u64 (v:Int) 32=some (.int .u64 ((v/4294967296:Nat):Int)):=by
 unfold shift;rw[if_neg (by decide)];simp only;have:min (Int.toNat 32) IntKind.u64.bits=32:=by decide
 rw[this,show (2:Int) ^ 32=4294967296 by decide,Int.fdiv_eq_ediv_of_nonneg _ (by decide)];rfl
theorem fJ {a b:Nat} (h:a+b<18446744073709551616):IntKind.u64.wrap ((a:Int)+(b:Int))=((a+b:Nat):Int):=by
 rw[wrap_u64 Om Om]; omega
theorem bF {a:Nat} (h:a<18446744073709551616):IntKind.u64.wrap (a:Int)=(a:Int):=wrap_u64 Om Om
def nn (a b:List Nat) (o i c:Nat):PF:=(((((((PF.nil.set 0 (aJ a)).set 1 (aJ b)).set 6 (.osl o 1 0 (a.length+1))).set 7 (.int .u64 c)).set 35 (.int .i64 (a.length:Nat))).set 34 (aJ a)).set 36 (.int .i64 i))
theorem C0 {C:Ctx} (L:rJ C) (a b:List Nat) (ha:Lim a) (hb:Lim b) (hl:b.length≤a.length) (h1:a.length≤1000) (F:PF) (f0:F 0=some (aJ a)) (f1:F 1=some (aJ b)) :
  aC.wp C (.seq (.region xe) (.seq (.region xf) (.seq (.seq (.region xg) (.block 0 (.loop df))) (.seq (.region dj) (.seq (.region dk) .ret))))) (aR [.tmp 4,.tmp 5] (cA (szV (val a+val b)))) F .nil:=by
 have O:IntKind.i64.wrap ((a.length:Int)+1)=((a.length+1:Nat):Int):=dC Om;have η:((a.length+1:Nat):Int)*((4:Nat):Int)≤140737488355328:=Om;have θ:((a.length+1:Nat):Int)≤9223372036854775807:=Om;have hz:aYR (a.length+1) [PV.int .u32 0]=aL ([]++aYR (a.length+1) 0):=by simp[aL]
 simp only[go_sem,xe,f0,O,η,θ,hz];refine aN fun o ho=>?_;simp only[go_sem,xf,xg,f0];refine wp_loop (α:=List Nat × Nat × Nat) (fun s=>nn a b s.2.2 s.1.length s.2.1) (fun s=>PH.nil.set s.2.2 (.rows 1 (aL (s.1++aYR (a.length+1-s.1.length) 0))))
  (fun s=>s.1.length≤a.length∧Lim s.1∧s.2.1≤1∧val s.1+4294967296 ^ s.1.length*s.2.1=val (a.take s.1.length)+val (b.take s.1.length)) (fun s=>a.length-s.1.length) ([],0,o) ⟨by simp,by simp[Lim],by simp,by simp[val]⟩ ?_ ?_ ?_
 ·unfold nn;exact Lq
 ·exact PH.aK a_ (by simp only[go_sem,a1H])
 rintro⟨P,c,q⟩ ⟨hP,d,hc,w⟩;simp only at hP d hc w;simp only[go_sem,df,adN,nn];by_cases V:P.length<a.length
 ·have A:(P.length:Int)<(a.length:Nat):=Om;have ι:=ha _ (aYQ V);obtain⟨k,S⟩:∃ k,a.length+1-P.length=k+1:=⟨a.length-P.length,by omega⟩;have H:(aL (P++aYR (k+1) 0))[P.length]?=some [.int .u32 ((0:Nat):Int)]:=by rw[bX _ (by simp)]; simp
  have i:a.length+1-(P.length+1)=k:=Om;have B:(P.length:Int)<((a.length+1:Nat):Int):=Om;have fin:∀ (t:Nat) (p:PF) (H':PH),t<2*4294967296→val P+4294967296 ^ P.length*t=val (a.take (P.length+1))+val (b.take (P.length+1)) →
    p 0=some (aJ a)→p 1=some (aJ b)→p 6=some (.osl q 1 0 (a.length+1))→p 7=some (.int .u64 (t:Nat))→p 8=some (.int .i64 P.length)→p 34=some (aJ a)→p 35=some (.int .i64 (a.length:Nat))→p 36=some (.int .i64 P.length) →
    H' q=some (.rows 1 (aL (P++aYR (k+1) 0)))→∀ K:bT,(∀ u y R H2,u.length=P.length+1→Lim u→y≤1→val u+4294967296 ^ u.length*y=val (a.take (P.length+1))+val (b.take (P.length+1))→(nn a b q u.length y).le R→H2 q=some (.rows 1 (aL (u++aYR k 0)))→K .normal R H2) →
    aC.wp C (.seq (.region dg) (.region dh)) (fF 1 (gS C (aC.wp C (.region di)) K)) p H':=by
   intro t p H' ht hv g0 g1 g6 g7 g8 γ δ ε gH K hK;have l:(aL (P++aYR (k+1) 0)).set P.length [.int .u32 ((t%4294967296:Nat):Int)]=aL ((P++[t%4294967296])++aYR k 0):=by rw[fV,zR]
   simp only[go_sem,dg,g6,g8,g7,cO,B,gH,H,l,dh,yJ,di,ε,dC (Om:P.length<9223372036854775807)];refine hK (P++[t%4294967296]) (t/4294967296) _ _ (by simp) (d.app fun x U=>by simp at U; subst U; exact a0I _ (by decide)) Om ?_ ?_ Sq
   ·rw[jQ,aYU,aZB,a0L,aZP,a1D,← aZE,Nat.mod_add_div];exact hv
   ·unfold nn;rw[aYU,aZB];refine d_ (d_ (d_ (d_ (d_ (d_ (d_ c_ ?_) ?_) ?_) ?_) ?_) ?_) ?_<;>simp only[go_sem,g0,g1,g6,γ,δ]
  have Q:=cH a V;have ea:IntKind.u64.wrap ((a[P.length]:Nat):Int)=((a[P.length]:Nat):Int):=bF Om;have es:IntKind.u64.wrap ((c:Nat)+((a[P.length]:Nat):Int))=((c+a[P.length]:Nat):Int):=fJ Om;simp only[go_sem,A,Q9,Ra,bX a V,ea,es,Rb];by_cases W:P.length<b.length
  ·have E:(P.length:Int)<(b.length:Nat):=Om;have κ:=hb _ (aYQ W);have J:=cH b W;have eb:IntKind.u64.wrap ((b[P.length]:Nat):Int)=((b[P.length]:Nat):Int):=bF Om;have β:IntKind.u64.wrap (((c+a[P.length]:Nat):Int)+((b[P.length]:Nat):Int))=((c+a[P.length]+b[P.length]:Nat):Int):=fJ Om;simp only[go_sem,E,Rc,bX b W,eb,β];refine fin (c+a[P.length]+b[P.length]) _ _ Om ?_ ?_ ?_ ?_ ?_ ?_ ?_ ?_ ?_ ?_ _ ?_
   ·rw[Q,J,aZE,aZE]; omega
   any_goals simp only[go_sem,S]
   intro u y R H2 M X Y N Z e6;rw[← M] at N;refine aD (u,y,q) ⟨by simp only; omega,X,Y,N⟩ (by simp only; omega) Z (PH.aK a_ ?_);simp only;rw[M,i]; exact e6
  ·have E:¬ (P.length:Int)<(b.length:Nat):=Om;have J:val (b.take (P.length+1))=val (b.take P.length):=by rw[aZJ Om,aZJ Om]
   simp only[go_sem,E];refine fin (c+a[P.length]) _ _ Om ?_ ?_ ?_ ?_ ?_ ?_ ?_ ?_ ?_ ?_ _ ?_
   ·rw[Q,J,aZE]; omega
   any_goals simp only[go_sem,S]
   intro u y R H2 M X Y N Z e6;rw[← M] at N;refine aD (u,y,q) ⟨by simp only; omega,X,Y,N⟩ (by simp only; omega) Z (PH.aK a_ ?_);simp only;rw[M,i]; exact e6
 ·have e:P.length=a.length:=Om;have A:¬ (P.length:Int)<(a.length:Nat):=Om;have S:aYR (a.length+1-P.length) 0=[0]:=by rw[show a.length+1-P.length=1 by omega]; rfl
  have H:(aL (P++[0]))[a.length]?=some [.int .u32 ((0:Nat):Int)]:=by rw[bX _ (by simp; omega)];simp[e]
  have l:(aL (P++[0])).set a.length [.int .u32 ((c%4294967296:Nat):Int)]=aL (P++[c]):=by have:=zR P 0 (c%4294967296);simp only[List.replicate_zero,a0M,aZM,List.replicate_one] at this;rw[← e,fV,this,a0E Om]
  have B:(a.length:Int)<((a.length+1:Nat):Int):=Om;have hV:val (P++[c])=val a+val b:=by rw[jQ,w,e,aZK,aZJ hl]
  have ζ:Lim (P++[c]):=d.app fun x U=>by simp at U; omega
  simp only[go_sem,A,dj,cO,S,H,B,l,dk];have hs:=L.sized _ ζ (by simp; omega);rw[hV] at hs;refine qU (o:=q) (s:=1) (k:=a.length+1) (rs:=aL (P++[c])) (v:=szV (val a+val b)) ?_ rfl Sq (by rw[cC]; simp; omega) ?_
  ·rw[aZJ (by rw[cC]; simp; omega)]; exact hs
  ·simp only[go_sem,szV];exact aZ (.inr rfl) .nil rfl a_ ⟨.refl _,rfl⟩
def opV (big:Bool) (n:Nat):PV:=if big then .tup [aJ [],.int .i64 2] else szV n
def eG (a b:Nat):Bool:=decide (nl a>512)||decide (nl b>512)
theorem eZ {res:List dS} {F:PF} {H:PH} {e:Int} (h:dS.evs F H res=some [.aB,.int .i64 e]):aR res (cA (.tup [aJ [],.int .i64 e])) .ret F H:=by
 refine aZ (.inr rfl) .nil h a_ ⟨?_,rfl⟩;refine .tup rfl fun j p q c d=>?_
 match j with
 | 0=>simp at c d; subst c; subst d; exact .nil 1
 | 1=>simp at c d; subst c; subst d; exact .refl _
 | j+2=>simp at c
theorem aW (n:Nat):(aI n).length=nl n:=rfl
theorem jN {xs:List Nat} (h:Lim xs):(xs.map fun (n:Nat)=>[PV.int .u32 (n:Int)]).take (nl (val xs))=(aI (val xs)).map fun (n:Nat)=>[PV.int .u32 (n:Int)]:=by
 rw[← List.map_take,kT h]
theorem aKB {C:Ctx} (L:rJ C) (a b:List Nat) (l:Lim a) (p:Lim b) (x:a.length≤35184372087808) (y:b.length≤35184372087808) :
  SM.wp C (aR aCR.res (cA (opV (eG (val a) (val b)) (val a+val b)))) (PF.args [aJ a,aJ b]) .nil:=by
 simp only[go_sem,SM,adI,adJ,aCR];refine aA (L.large a l x) rfl ?_;by_cases d:nl (val a)>512
 ·simp only[go_sem,d,xd];rw[show opV (eG (val a) (val b)) (val a+val b)=.tup [aJ [],.int .i64 2] by simp[opV,eG,d]];exact eZ rfl
 simp only[go_sem,d];refine aA (L.large b p y) rfl ?_;by_cases i:nl (val b)>512
 ·simp only[go_sem,i,xd];rw[show opV (eG (val a) (val b)) (val a+val b)=.tup [aJ [],.int .i64 2] by simp[opV,eG,i]];exact eZ rfl
 have e:opV (eG (val a) (val b)) (val a+val b)=szV (val a+val b):=by simp[opV,eG,d,i]
 rw[e];simp only[go_sem,i];refine bO .nil anO a_ ?_;simp only[go_sem,adK];have F:=fU l;have H:=fU p;have u:((nl (val a):Nat):Int)≤(a.length:Nat):=Om;have w:((nl (val b):Nat):Int)≤(b.length:Nat):=Om;refine bP (oW a) (L.length a l x) rfl a_ ?_;simp only[go_sem,u,or_true,a0B,jN l];refine bP (oW b) (L.length b p y) rfl a_ ?_;simp only[go_sem,w,or_true,a0B,jN p,adL,aW];have A:=aS (val a);have B:=aS (val b);by_cases E:nl (val a)<nl (val b)
 ·have c:((nl (val a):Nat):Int)<(nl (val b):Nat):=Om;simp only[go_sem,c,adM];have:=C0 L (aI (val b)) (aI (val a)) (aV _) (aV _) (by rw[aW,aW]; omega) (by rw[aW]; omega);rw[A,B,Nat.add_comm] at this;exact this _ rfl rfl
 ·have c:¬ ((nl (val a):Nat):Int)<(nl (val b):Nat):=Om;simp only[go_sem,c];have:=C0 L (aI (val a)) (aI (val b)) (aV _) (aV _) (by rw[aW,aW]; omega) (by rw[aW]; omega);rw[A,B] at this;exact this _ rfl rfl
theorem gG (n:Int):IntKind.u64.wrap n=n%18446744073709551616:=by simp[IntKind.wrap,IntKind.bits,IntKind.signed]
theorem ZV (n:Int):IntKind.u32.wrap n=n%4294967296:=by simp[IntKind.wrap,IntKind.bits,IntKind.signed]
theorem apA {v:Int}:shift .shr .u64 v 63=some (.int .u64 (v/9223372036854775808)):=by
 unfold shift;rw[if_neg (by decide)];simp only;have:min (Int.toNat 63) IntKind.u64.bits=63:=by decide
 rw[this,show (2:Int) ^ 63=9223372036854775808 by decide,Int.fdiv_eq_ediv_of_nonneg _ (by decide)]
def UO (a bor b:Nat):Nat:=(a+4294967296-bor-b)%4294967296
def fx (a bor b:Nat):Nat:=if a<bor+b then 1 else 0
theorem Un {a bor b:Nat} (c:a<4294967296) (d:b<4294967296) (e:bor≤1) (v:Int) (i:v=((a:Int)-bor-b)%18446744073709551616) :
  IntKind.u32.wrap v=((UO a bor b:Nat):Int)∧v/9223372036854775808=((fx a bor b:Nat):Int)∧a+4294967296*fx a bor b=UO a bor b+b+bor∧UO a bor b<4294967296:=by
 rw[ZV];unfold UO fx;split<;>omega
def oq (a b:List Nat) (o i c:Nat):PF:=(((((((PF.nil.set 0 (aJ a)).set 1 (aJ b)).set 6 (.osl o 1 0 a.length)).set 7 (.int .u64 c)).set 33 (aJ a)).set 34 (.int .i64 (a.length:Nat))).set 35 (.int .i64 i))
theorem auA {C:Ctx} (L:rJ C) (a b:List Nat) (ha:Lim a) (hb:Lim b) (η:val b≤val a) (hl:b.length≤a.length) (h1:a.length≤1000) (F:PF) (f0:F 0=some (aJ a)) (f1:F 1=some (aJ b)) :
  aC.wp C (.seq (.region xu) (.seq (.region xv) (.seq (.seq (.region xw) (.block 1 (.loop dz))) (.seq (.region d8) .ret)))) (aR [.tmp 4,.tmp 5] (cA (szV (val a-val b)))) F .nil:=by
 have δ:(a.length:Int)*((4:Nat):Int)≤140737488355328:=Om;have ε:(a.length:Int)≤9223372036854775807:=Om;have hz:aYR a.length [PV.int .u32 0]=aL ([]++aYR a.length 0):=by simp[aL]
 simp only[go_sem,xu,f0,δ,ε,hz];refine aN fun o ho=>?_;simp only[go_sem,xv,xw,f0];refine wp_loop (α:=List Nat × Nat × Nat) (fun s=>oq a b s.2.2 s.1.length s.2.1) (fun s=>PH.nil.set s.2.2 (.rows 1 (aL (s.1++aYR (a.length-s.1.length) 0))))
  (fun s=>s.1.length≤a.length∧Lim s.1∧s.2.1≤1∧val (a.take s.1.length)+4294967296 ^ s.1.length*s.2.1=val s.1+val (b.take s.1.length)) (fun s=>a.length-s.1.length) ([],0,o) ⟨by simp,by simp[Lim],by simp,by simp[val]⟩ ?_ ?_ ?_
 ·unfold oq;exact Lq
 ·exact PH.aK a_ (by simp only[go_sem,a1H])
 rintro⟨P,c,q⟩ ⟨hP,d,hc,y⟩;simp only at hP d hc y;simp only[go_sem,dz,aeW,oq];by_cases R:P.length<a.length
 ·have w:(P.length:Int)<(a.length:Nat):=Om;have Z:=ha _ (aYQ R);obtain⟨k,Q⟩:∃ k,a.length-P.length=k+1:=⟨a.length-P.length-1,by omega⟩;have γ:(aL (P++aYR (k+1) 0))[P.length]?=some [.int .u32 ((0:Nat):Int)]:=by rw[bX _ (by simp)]; simp
  have i:a.length-(P.length+1)=k:=Om;have ζ:=cH a R;have fin:∀ (t:Nat) (v:Int) (p:PF) (H':PH),t<4294967296→v=((a[P.length]:Int)-c-t)%18446744073709551616→val (b.take (P.length+1))=val (b.take P.length)+4294967296 ^ P.length*t →
    p 0=some (aJ a)→p 1=some (aJ b)→p 6=some (.osl q 1 0 a.length)→p 9=some (.int .u64 v)→p 8=some (.int .i64 P.length)→p 33=some (aJ a)→p 34=some (.int .i64 (a.length:Nat))→p 35=some (.int .i64 P.length) →
    H' q=some (.rows 1 (aL (P++aYR (k+1) 0)))→∀ K:bT,(∀ u A O H2,u.length=P.length+1→Lim u→A≤1→val (a.take (P.length+1))+4294967296 ^ u.length*A=val u+val (b.take (P.length+1))→(oq a b q u.length A).le O→H2 q=some (.rows 1 (aL (u++aYR k 0)))→K .normal O H2) →
    aC.wp C (.seq (.region d3) (.region d6)) (fF 2 (gS C (aC.wp C (.region d7)) K)) p H':=by
   intro t v p H' ht hv l g0 g1 g6 g9 g8 W X Y gH K hK;obtain⟨E,J,M,H⟩:=Un Z ht hc v hv;have N:(aL (P++aYR (k+1) 0)).set P.length [.int .u32 ((UO a[P.length] c t:Nat):Int)]=aL ((P++[UO a[P.length] c t])++aYR k 0):=by rw[fV,zR]
   simp only[go_sem,d3,g6,g8,g9,E,w,gH,γ,N,d6,apA,J,d7,Y,dC (Om:P.length<9223372036854775807)];refine hK (P++[UO a[P.length] c t]) (fx a[P.length] c t) _ _ (by simp) (d.app fun x hx=>by simp at hx; subst hx; exact H) (by unfold fx; split<;>omega) ?_ ?_ Sq
   ·rw[jQ,aYU,aZB,a0L,aZP,ζ,l,a1D,← aZE,M,aZE,aZE];omega
   ·unfold oq;rw[aYU,aZB];refine d_ (d_ (d_ (d_ (d_ (d_ (d_ c_ ?_) ?_) ?_) ?_) ?_) ?_) ?_<;>simp only[go_sem,g0,g1,g6,W,X]
  have ea:IntKind.u64.wrap ((a[P.length]:Nat):Int)=((a[P.length]:Nat):Int):=bF Om;simp only[go_sem,w,Sj,Sk,bX a R,ea,Sl];by_cases S:P.length<b.length
  ·have B:(P.length:Int)<(b.length:Nat):=Om;have β:=hb _ (aYQ S);have l:=cH b S;have eb:IntKind.u64.wrap ((b[P.length]:Nat):Int)=((b[P.length]:Nat):Int):=bF Om;simp only[go_sem,B,Sm,bX b S,eb];refine fin b[P.length] (IntKind.u64.wrap (IntKind.u64.wrap ((a[P.length]:Int)-(c:Int))-(b[P.length]:Int))) _ _ β (by rw[gG,gG]; omega) l ?_ ?_ ?_ ?_ ?_ ?_ ?_ ?_ ?_ _ ?_
   any_goals simp only[go_sem,Q]
   intro u A O H2 E J M H U V;rw[← E] at H;refine aD (u,A,q) ⟨by simp only; omega,J,M,H⟩ (by simp only; omega) U (PH.aK a_ ?_);simp only;rw[E,i]; exact V
  ·have B:¬ (P.length:Int)<(b.length:Nat):=Om;have l:val (b.take (P.length+1))=val (b.take P.length)+4294967296 ^ P.length*0:=by rw[aZJ Om,aZJ Om]; simp
   simp only[go_sem,B];refine fin 0 (IntKind.u64.wrap ((a[P.length]:Int)-(c:Int))) _ _ (by decide) (by rw[gG]; omega) l ?_ ?_ ?_ ?_ ?_ ?_ ?_ ?_ ?_ _ ?_
   any_goals simp only[go_sem,Q]
   intro u A O H2 E J M H U V;rw[← E] at H;refine aD (u,A,q) ⟨by simp only; omega,J,M,H⟩ (by simp only; omega) U (PH.aK a_ ?_);simp only;rw[E,i]; exact V
 ·have e:P.length=a.length:=Om;have w:¬ (P.length:Int)<(a.length:Nat):=Om;have Q:aYR (a.length-P.length) 0=[]:=by rw[show a.length-P.length=0 by omega]; rfl
  have hV:val P=val a-val b:=by
   rw[e,aZK,aZJ hl] at y;have hlt:=eX d;rw[e] at hlt;rcases a1B c with h | h
   ·subst h; omega
   ·have:c=1:=Om;subst this; omega
  simp only[go_sem,w,Q,a0M,d8];have hs:=L.sized _ d Om;rw[hV] at hs;refine qU (o:=q) (s:=1) (k:=a.length) (rs:=aL P) (v:=szV (val a-val b)) ?_ rfl Sq (by rw[cC]; omega) ?_
  ·rw[aZJ (by rw[cC]; omega)]; exact hs
  ·simp only[go_sem,szV];exact aZ (.inr rfl) .nil rfl a_ ⟨.refl _,rfl⟩
def sB (a b:Nat):PV:=if eG a b then .tup [aJ [],.int .i64 2] else if a<b then .tup [aJ [],.int .i64 4] else szV (a-b)
theorem aKO {C:Ctx} (L:rJ C) (a b:List Nat) (e:Lim a) (i:Lim b) (x:a.length≤35184372087808) (y:b.length≤35184372087808) :
  SV.wp C (aR aDB.res (cA (sB (val a) (val b)))) (PF.args [aJ a,aJ b]) .nil:=by
 simp only[go_sem,SV,aeR,aeS,aDB];refine aA (L.large a e x) rfl ?_;by_cases c:nl (val a)>512
 ·simp only[go_sem,c,xt];rw[show sB (val a) (val b)=.tup [aJ [],.int .i64 2] by simp[sB,eG,c]];exact eZ rfl
 simp only[go_sem,c];refine aA (L.large b i y) rfl ?_;by_cases d:nl (val b)>512
 ·simp only[go_sem,d,xt];rw[show sB (val a) (val b)=.tup [aJ [],.int .i64 2] by simp[sB,eG,d]];exact eZ rfl
 simp only[go_sem,d,aeT];refine aA (L.cmp a b e i x y) rfl ?_;by_cases l:val a<val b
 ·have w:dJ (val a) (val b)<0:=by simp[dJ,l]
  simp only[go_sem,w,aeU];rw[show sB (val a) (val b)=.tup [aJ [],.int .i64 4] by simp[sB,eG,c,d,l]];exact eZ rfl
 have w:¬ dJ (val a) (val b)<0:=by unfold dJ;rw[if_neg l];split<;>decide
 rw[show sB (val a) (val b)=szV (val a-val b) by simp[sB,eG,c,d,l]];simp only[go_sem,w];refine bO .nil anO a_ ?_;simp only[go_sem,aeV];have E:=fU e;have F:=fU i;have p:((nl (val a):Nat):Int)≤(a.length:Nat):=Om;have u:((nl (val b):Nat):Int)≤(b.length:Nat):=Om;refine bP (oW a) (L.length a e x) rfl a_ ?_;simp only[go_sem,p,or_true,a0B,jN e];refine bP (oW b) (L.length b i y) rfl a_ ?_;simp only[go_sem,u,or_true,a0B,jN i];have A:=aS (val a);have B:=aS (val b);have H:=fQ (Om:val b≤val a);have:=auA L (aI (val a)) (aI (val b)) (aV _) (aV _) Om (by rw[aW,aW]; omega) (by rw[aW]; omega);rw[A,B] at this;exact this _ rfl rfl
end Go.PM
namespace Go.Na
def eA:Nat→Nat→List Nat
 | 0,_=>[]
 | k+1,n=>(n%4294967296)::eA k (n/4294967296)
theorem lM:∀ k n,(eA k n).length=k
 | 0,_=>rfl
 | k+1,n=>by simp[eA,lM k]
theorem IM {xs:List Nat} (h:Lim xs):eA xs.length (val xs)=xs:=by
 induction xs with
 | nil=>rfl
 | cons x xs i =>have l:=h x (by simp);have c:(x+4294967296*val xs)%4294967296=x:=Om;have d:(x+4294967296*val xs)/4294967296=val xs:=Om;simp only[a0F,eA,val];rw[c,d,i fun y e=>h y (by simp[e])]
theorem mV:∀ k n,Lim (eA k n)
 | 0,_=>fun x hx=>by cases hx
 | k+1,n=>fun x hx=>by
  simp only[eA,aYY] at hx;rcases hx with rfl | hx
  ·exact a0I _ (by decide)
  ·exact mV k _ x hx
theorem BH:∀ k n,val (eA k n)=n%4294967296 ^ k
 | 0,n=>by simp[eA,val,Nat.mod_one]
 | k+1,n=>by simp only[eA,val,BH k];rw[a0L,aZT (4294967296 ^ k) 4294967296,Nat.mod_mul]
theorem oZ {k n:Nat} (h:n<4294967296 ^ k):val (eA k n)=n:=by rw[BH,a0E h]
end Go.Na
namespace Go.PM
open Go Go.Na
theorem aQZ {a b:Nat} (c:a<18446744073709551616) (d:b<18446744073709551616):(BitVec.ofInt 64 (a:Int) ||| BitVec.ofInt 64 (b:Int)).toNat=a ||| b:=by
 rw[BitVec.ofInt_natCast,BitVec.ofInt_natCast,BitVec.toNat_or,BitVec.toNat_ofNat,BitVec.toNat_ofNat,a0E (by simpa using c),a0E (by simpa using d)]
theorem Sw {c x s:Nat} (d:c<2 ^ s) (h:c+2 ^ s*x<18446744073709551616):c ||| (2 ^ s*x)=c+2 ^ s*x:=by
 rw[Nat.or_comm,← Nat.two_pow_add_eq_or_of_lt d,Nat.add_comm]
theorem orI {a b n:Nat} (c:a<18446744073709551616) (d:b<18446744073709551616) (h:a ||| b=n) (e:n<18446744073709551616):lK .or .u64 (a:Int) (b:Int)=some (.int .u64 (n:Int)):=by
 show some (PV.int .u64 (IntKind.u64.wrap (((BitVec.ofInt 64 (a:Int) ||| BitVec.ofInt 64 (b:Int)).toNat:Nat):Int)))=_;rw[aQZ c d,h,bF e]
theorem NE {x s:Nat} (c:s≤64) (h:x*2 ^ s<18446744073709551616):shift .shl .u64 (x:Int) (s:Int)=some (.int .u64 ((2 ^ s*x:Nat):Int)):=by
 unfold shift;rw[if_neg Om];simp only;have:min (Int.toNat (s:Int)) IntKind.u64.bits=s:=by rw[show IntKind.u64.bits=64 from rfl]; omega
 rw[this,show (x:Int)*2 ^ s=((x*2 ^ s:Nat):Int) by simp,bF h,aZT]
def aDE (a:List Nat) (s o i c:Nat):PF:=(((((((PF.nil.set 0 (aJ a)).set 1 (.int .u64 s)).set 5 (.osl o 1 0 (a.length+1))).set 6 (.int .u64 c)).set 13 (aJ a)).set 14 (.int .i64 (a.length:Nat))).set 15 (.int .i64 i))
def upR (a:List Nat) (s:Nat) (r:PV) (H:PH):Prop:=∃ o,r=.osl o 1 0 (a.length+1)∧H=PH.nil.set o (.rows 1 (aL (eA (a.length+1) (val a*2 ^ s))))
theorem aOL {C:Ctx} (a:List Nat) (s:Nat) (ha:Lim a) (hs:s<32) (h1:a.length≤1000):d9.wp C (aR nup.res (upR a s)) (PF.args [aJ a,.int .u64 s]) .nil:=by
 have F:IntKind.i64.wrap ((a.length:Int)+1)=((a.length+1:Nat):Int):=dC Om;have S:((a.length+1:Nat):Int)*((4:Nat):Int)≤140737488355328:=Om;have U:((a.length+1:Nat):Int)≤9223372036854775807:=Om;have hz:aYR (a.length+1) [PV.int .u32 0]=aL ([]++aYR (a.length+1) 0):=by simp[aL]
 have N:2 ^ s≤2147483648:=a1P (show 0<2 by decide) (Om:s≤31);have B:0<2 ^ s:=a1K (by decide);simp only[go_sem,d9,auB,auC,nup,F,S,U,hz];refine aN fun o ho=>?_;simp only[go_sem,auD,auE];refine wp_loop (α:=List Nat × Nat × Nat) (fun t=>aDE a s t.2.2 t.1.length t.2.1) (fun t=>PH.nil.set t.2.2 (.rows 1 (aL (t.1++aYR (a.length+1-t.1.length) 0))))
  (fun t=>t.1.length≤a.length∧Lim t.1∧t.2.1<2 ^ s∧val t.1+4294967296 ^ t.1.length*t.2.1=val (a.take t.1.length)*2 ^ s) (fun t=>a.length-t.1.length) ([],0,o) ⟨by simp,by simp[Lim],B,by simp[val]⟩ ?_ ?_ ?_
 ·unfold aDE;exact Lq
 ·exact PH.aK a_ (by simp only[go_sem,a1H])
 rintro⟨P,c,q⟩ ⟨Z,d,X,l⟩;simp only at Z d X l;simp only[go_sem,aeX,auF,aDE];by_cases J:P.length<a.length
 ·have p:(P.length:Int)<(a.length:Nat):=Om;have β:=ha _ (aYQ J);obtain⟨k,R⟩:∃ k,a.length+1-P.length=k+1:=⟨a.length-P.length,by omega⟩;have w:(aL (P++aYR (k+1) 0))[P.length]?=some [.int .u32 ((0:Nat):Int)]:=by rw[bX _ (by simp)]; simp
  have A:a.length+1-(P.length+1)=k:=Om;have u:(P.length:Int)<((a.length+1:Nat):Int):=Om;have V:=cH a J;generalize W:a[P.length]=x at *
  have γ:x*2 ^ s≤4294967295*2147483648:=a1U Om N;have ex:IntKind.u64.wrap ((x:Nat):Int)=((x:Nat):Int):=bF Om;have H:2 ^ s*x=x*2 ^ s:=aZT _ _;have M:shift .shl .u64 (x:Int) (s:Int)=some (.int .u64 ((2 ^ s*x:Nat):Int)):=NE Om Om;have K:=orI (a:=c) (b:=2 ^ s*x) (n:=c+2 ^ s*x) Om Om (Sw X Om) Om;have E:(c+2 ^ s*x)/4294967296<2 ^ s:=by rw[a1T (by decide)];have:2 ^ s*(x+1)≤2 ^ s*4294967296:=a1F _ Om;rw[aZE,Nat.mul_one] at this;omega
  have i:(aL (P++aYR (k+1) 0)).set P.length [.int .u32 (((c+2 ^ s*x)%4294967296:Nat):Int)]=aL ((P++[(c+2 ^ s*x)%4294967296])++aYR k 0):=by rw[fV,zR]
  have Q:(aL a)[P.length]?=some [.int .u32 ((x:Nat):Int)]:=by rw[bX a J,W]
  simp only[go_sem,p,auG,auH,Q,ex,M,K,auI,cO,R,u,w,i,auJ,yJ,auK,dC (Om:P.length<9223372036854775807)];refine aD (P++[(c+2 ^ s*x)%4294967296],(c+2 ^ s*x)/4294967296,q) ⟨by simp; omega,d.app fun y Y=>by simp at Y; subst Y; exact a0I _ (by decide),E,?_⟩ (by simp; omega) ?_ (PH.aK a_ ?_)
  ·simp only;rw[jQ,aYU,aZB,a0L,aZP,a1D,← aZE,Nat.mod_add_div,V,aZE,aZX,← a1D,l,H,aZP]
  ·simp only;rw[aYU,aZB];exact Lq
  ·simp only;rw[aYU,aZB,A];simp only[go_sem]
 ·have e:P.length=a.length:=Om;have p:¬ (P.length:Int)<(a.length:Nat):=Om;have R:aYR (a.length+1-P.length) 0=[0]:=by rw[show a.length+1-P.length=1 by omega]; rfl
  have w:(aL (P++[0]))[a.length]?=some [.int .u32 ((0:Nat):Int)]:=by rw[bX _ (by simp; omega)];simp[e]
  have i:(aL (P++[0])).set a.length [.int .u32 ((c%4294967296:Nat):Int)]=aL (P++[c]):=by have:=zR P 0 (c%4294967296);simp only[List.replicate_zero,a0M,aZM,List.replicate_one] at this;rw[← e,fV,this,a0E Om]
  have u:(a.length:Int)<((a.length+1:Nat):Int):=Om;have hV:val (P++[c])=val a*2 ^ s:=by rw[jQ,l,e,aZK]
  have O:Lim (P++[c]):=d.app fun x W=>by simp at W; omega
  have hD:eA (a.length+1) (val a*2 ^ s)=P++[c]:=by have:=IM O;rw[hV,aYU,aZB,e] at this;exact this
  simp only[go_sem,p,aeY,cO,R,w,u,i,aeZ];exact aZ (vs:=[.osl q 1 0 (a.length+1)]) (.inr rfl) (PH.nil.set q (.rows 1 (aL (P++[c])))) Ev (PH.aK a_ Sq) ⟨q,rfl,by rw[hD]⟩
def xr (a:List Nat) (d o k r:Nat):PF:=(((((PF.nil.set 0 (aJ a)).set 1 (.int .u32 d)).set 6 (.osl o 1 0 a.length)).set 7 (.int .u64 r)).set 8 (.int .i64 ((k:Int)-1)))
theorem atW {C:Ctx} (L:rJ C) (a:List Nat) (d:Nat) (ha:Lim a) (i:0<d) (hd:d<4294967296) (h1:a.length≤1000) :
  EP.wp C (aR Sh.res (aF (.tup [aJ (aI (val a/d)),.int .u32 ((val a%d:Nat):Int)]))) (PF.args [aJ a,.int .u32 d]) .nil:=by
 have W:(a.length:Int)*((4:Nat):Int)≤140737488355328:=Om;have X:(a.length:Int)≤9223372036854775807:=Om;have hz:aYR a.length [PV.int .u32 0]=aL (aYR a.length 0++[]):=by simp[aL]
 simp only[go_sem,EP,Dr,Ds,Sh,W,X,hz];refine aN fun o ho=>?_;simp only[go_sem,Dt,Du];refine wp_loop (α:=Nat × List Nat × Nat × Nat) (fun t=>xr a d t.2.2.2 t.1 t.2.2.1) (fun t=>PH.nil.set t.2.2.2 (.rows 1 (aL (aYR t.1 0++t.2.1))))
  (fun t=>t.1+t.2.1.length=a.length∧Lim t.2.1∧t.2.2.1<d∧val t.2.1*d+t.2.2.1=val (a.drop t.1)) (fun t=>t.1) (a.length,[],0,o) ⟨by simp,by simp[Lim],i,by simp[val]⟩ ?_ ?_ ?_
 ·unfold xr
  (repeat' (first|exact c_|refine d_ ?_ ?_))<;>first|(simp only[go_sem,wrap_i64 (Om:-9223372036854775808≤(a.length:Int)-1) (Om:(a.length:Int)-1≤9223372036854775807)]<;>rfl)|rfl
 ·exact PH.aK a_ Sq
 rintro⟨k,S,r,q⟩ ⟨hk,c,K,e⟩;simp only at hk c K e;simp only[go_sem,Dq,Dv,xr];by_cases h0:0<k
 ·obtain⟨m,rfl⟩:∃ m,k=m+1:=⟨k-1,by omega⟩;have u:((m+1:Nat):Int)-1=(m:Int):=Om;have U:(m:Int)≥0:=Om;have p:m<a.length:=Om;have hlt:(m:Int)<(a.length:Nat):=Om;have β:=ha _ (aYQ p);have l:val (a.drop m)=a[m]+4294967296*val (a.drop (m+1)):=by rw[a0O p]; rfl
  generalize hx:a[m]=x at *
  have N:(aL a)[m]?=some [.int .u32 ((x:Nat):Int)]:=by rw[bX a p,hx]
  have ex:IntKind.u64.wrap ((x:Nat):Int)=((x:Nat):Int):=bF Om;have ed:IntKind.u64.wrap ((d:Nat):Int)=((d:Nat):Int):=bF Om;have E:shift .shl .u64 (r:Int) 32=some (.int .u64 ((2 ^ 32*r:Nat):Int)):=NE (s:=32) Om Om;have M:(2:Nat) ^ 32=4294967296:=by decide
  have w:=orI (a:=2 ^ 32*r) (b:=x) (n:=2 ^ 32*r+x) Om Om (Nat.two_pow_add_eq_or_of_lt Om r).symm Om;rw[M] at E w;have J:(4294967296*r+x)/d<4294967296:=by rw[a1T i];have:4294967296*(r+1)≤4294967296*d:=a1F _ K;omega
  have O:¬ ((d:Nat):Int)=0:=Om;have A:IntKind.u64.wrap (a1A ((4294967296*r+x:Nat):Int) ((d:Nat):Int))=(((4294967296*r+x)/d:Nat):Int):=by rw[show a1A ((4294967296*r+x:Nat):Int) ((d:Nat):Int)=(((4294967296*r+x)/d:Nat):Int) from rfl];exact bF Om
  have B:Int.tmod ((4294967296*r+x:Nat):Int) ((d:Nat):Int)=(((4294967296*r+x)%d:Nat):Int):=rfl;have Z:IntKind.u32.wrap (((4294967296*r+x)/d:Nat):Int)=(((4294967296*r+x)/d:Nat):Int):=by rw[cO,a0E J]
  have F:aYR (m+1) 0++S=aYR m 0++(0::S):=by rw[List.replicate_succ',a0A]; rfl
  have V:(aL (aYR m 0++(0::S)))[m]?=some [.int .u32 ((0:Nat):Int)]:=by rw[bX _ (by simp)]; simp
  have H:(aL (aYR m 0++(0::S))).set m [.int .u32 (((4294967296*r+x)/d:Nat):Int)]=aL (aYR m 0++(((4294967296*r+x)/d)::S)):=by rw[fV,a1M _ _ (by simp)]; simp
  simp only[go_sem,u,U,Dw,E,N,ex,w,Dx,ed,O,A,Z,hlt,F,V,H,Dy,B,Dz];refine aD (m,((4294967296*r+x)/d)::S,(4294967296*r+x)%d,q) ⟨by simp only[a0F]; omega,fun y hy=>?_,a0I _ i,?_⟩ (by simp only; omega) ?_ (PH.aK a_ Sq)
  ·rw[aYY] at hy;rcases hy with rfl | hy
   ·exact J
   ·exact c y hy
  ·simp only[val];rw[l,← e,aZX,aZE,aZP];have:=a2H (4294967296*r+x) d;rw[aZT d] at this;omega
  ·(repeat' (first|exact c_|refine d_ ?_ ?_))<;>first|(simp only[go_sem,wrap_i64 (Om:-9223372036854775808≤(m:Int)-1) (Om:(m:Int)-1≤9223372036854775807)]<;>rfl)|rfl
 ·have:k=0:=Om;subst this;have u:¬ ((0:Nat):Int)-1≥0:=by decide
  rw[a0B] at e;have hS:S.length=a.length:=Om;have J:val S=val a/d:=by rw[← e,aZT,Nat.mul_add_div i,a2I K,a0S]
  have Y:r=val a%d:=by rw[← e,aZT,Nat.mul_add_mod,a0E K]
  have γ:aYR 0 0++S=S:=by simp
  simp only[go_sem,u,oo,a2G];have hl:=L.length S c Om;have δ:=fU c;have hc:((nl (val S):Nat):Int)≤(S.length:Nat):=Om;refine qU (o:=q) (s:=1) (k:=a.length) (rs:=aL S) (v:=.int .i64 (nl (val S):Nat)) ?_ Sq Sq (by rw[cC]; omega) ?_
  ·rw[aZJ (by rw[cC]; omega)]; exact hl
  ·have R:PV.frz q 1 (aL S) (.osl q 1 0 a.length)=aJ S:=by
    have:0+a.length≤(aL S).length:=by rw[cC]; omega
    simp only[PV.frz,PV.tC,PV.dK,if_true,true_and,if_pos this,a0B];rw[aZJ (by rw[cC]; omega)]
   have Q:∀ n:Int,∀ k,PV.frz q 1 (aL S) (.int k n)=.int k n:=fun _ _=>rfl;have er:IntKind.u32.wrap ((r:Nat):Int)=((r:Nat):Int):=by rw[cO,a0E Om]
   simp only[go_sem,R,Q,hc,or_true,a0B,jN c,er];refine aZ (vs:=[aJ (aI (val S)),.int .u32 ((r:Nat):Int)]) (.inr rfl) .nil Ev a_ ⟨?_,rfl⟩;simp only[bL,← J,← Y]
end Go.PM
namespace Go.Na
theorem HD {L:List Nat} {i:Nat} (h:i<L.length) (v:Nat):val (L.set i v)+4294967296 ^ i*L[i]=val L+4294967296 ^ i*v:=by
 have c:i<(L.set i v).length:=by rw[a0W]; exact h
 rw[sM L h,sM (L.set i v) c,List.getElem_set_self,List.take_set_of_le (aYV _),List.drop_set_of_lt Om,aZE,aZE];omega
theorem t6 {L:List Nat} {i:Nat} (h:∀ (j x:Nat),i≤j→L[j]?=some x→x=0) (k v:Nat) (e:k<i):∀ (j x:Nat),i≤j→(L.set k v)[j]?=some x→x=0:=fun j x d c=>by
 rw[List.getElem?_set_ne Om] at c;exact h j x d c
end Go.Na
namespace Go.PM
open Go Go.Na
def lD (a b:List Nat) (o i:Nat):PF:=((((((PF.nil.set 0 (aJ a)).set 1 (aJ b)).set 6 (.osl o 1 0 (a.length+b.length))).set 32 (aJ a)).set 33 (.int .i64 (a.length:Nat))).set 34 (.int .i64 i))
def aoB (a b:List Nat) (o i x c j:Nat):PF:=((((((((((((PF.nil.set 0 (aJ a)).set 1 (aJ b)).set 6 (.osl o 1 0 (a.length+b.length))).set 32 (aJ a)).set 33 (.int .i64 (a.length:Nat))).set 34 (.int .i64 i)).set 7 (.int .i64 i)).set 8 (.int .u32 x)).set 9 (.int .u64 c)).set 39 (aJ b)).set 40 (.int .i64 (b.length:Nat))).set 41 (.int .i64 j))
structure GF (a b L:List Nat) (i:Nat):Prop where
 len:L.length=a.length+b.length
 lim:Lim L
 v:val L=val (a.take i)*val b
 z:∀ j x,i+b.length≤j→L[j]?=some x→x=0
theorem adH {x y:Nat} (c:x<4294967296) (d:y<4294967296):IntKind.u64.wrap ((x:Int)*(y:Int))=((x*y:Nat):Int):=by
 have:x*y≤4294967295*4294967295:=a1U Om Om;rw[show (x:Int)*(y:Int)=((x*y:Nat):Int) by simp];exact bF Om
theorem gT {a b:Nat} (h:a+b≤9223372036854775807):IntKind.i64.wrap ((a:Int)+(b:Int))=((a+b:Nat):Int):=by
 rw[wrap_i64 Om Om]; omega
theorem aDA {C:Ctx} (a b:List Nat) (ha:Lim a) (hb:Lim b) (h1:a.length≤1000) (h2:b.length≤1000) (L:List Nat) (i:Nat) (hi:i<a.length) (N:GF a b L i) (q:Nat) (K:bT) (F:PF) (H:PH) (J:(lD a b q i).le F) (hH:H q=some (.rows 1 (aL L)))
  (hK:∀ L' F' H',GF a b L' (i+1)→(lD a b q i).le F'→H' q=some (.rows 1 (aL L'))→K .normal F' H') :
  aC.wp C (.block 1 (.seq (.region xo) (.seq (.region xp) (.seq (.seq (.region xq) (.block 2 (.loop dp))) (.region du))))) K F H:=by
 have f0:=J 0 _ (by unfold lD; simp only[go_sem]; rfl);have f1:=J 1 _ (by unfold lD; simp only[go_sem]; rfl);have f6:=J 6 _ (by unfold lD; simp only[go_sem]; rfl);have S:=J 32 _ (by unfold lD; simp only[go_sem]; rfl);have η:=J 33 _ (by unfold lD; simp only[go_sem]; rfl);have U:=J 34 _ (by unfold lD; simp only[go_sem]; rfl);have hx:=ha _ (aYQ hi);have β:=cH a hi;generalize δ:a[i]=x at *
 have X:(aL a)[i]?=some [.int .u32 ((x:Nat):Int)]:=by rw[bX a hi,δ]
 simp only[go_sem,xo,xp,xq,S,U,f1,X];refine wp_loop (α:=List Nat × Nat × Nat) (fun t=>aoB a b q i x t.2.1 t.2.2) (fun t=>PH.nil.set q (.rows 1 (aL t.1)))
  (fun t=>t.2.2≤b.length∧t.1.length=a.length+b.length∧Lim t.1∧t.2.1<4294967296∧val t.1+4294967296 ^ (i+t.2.2)*t.2.1=val (a.take i)*val b+4294967296 ^ i*(x*val (b.take t.2.2))∧∀ j y,i+b.length≤j→t.1[j]?=some y→y=0) (fun t=>b.length-t.2.2) (L,0,0)
  ⟨by simp,N.len,N.lim,by simp,by simp[val,N.v],N.z⟩ ?_ (PH.aK a_ hH) ?_
 ·unfold aoB;exact Lq
 rintro⟨M,c,j⟩ ⟨hj,W,e,Z,u,Q⟩;simp only at hj W e Z u Q;simp only[go_sem,dp,R8,aoB];by_cases R:j<b.length
 ·have w:(j:Int)<(b.length:Nat):=Om;have O:=hb _ (aYQ R);have γ:=cH b R;generalize ε:b[j]=y at *
  have Y:(aL b)[j]?=some [.int .u32 ((y:Nat):Int)]:=by rw[bX b R,ε]
  have d:i+j<M.length:=Om;have E:=e _ (aYQ d);have p:=HD d;generalize ζ:M[i+j]=z at *
  have B:(aL M)[i+j]?=some [.int .u32 ((z:Nat):Int)]:=by rw[bX M d,ζ]
  have ex:IntKind.u64.wrap ((x:Nat):Int)=((x:Nat):Int):=bF Om;have ey:IntKind.u64.wrap ((y:Nat):Int)=((y:Nat):Int):=bF Om;have ez:IntKind.u64.wrap ((z:Nat):Int)=((z:Nat):Int):=bF Om;have em:=adH hx O;have ι:x*y≤4294967295*4294967295:=a1U Om Om;have e1:IntKind.u64.wrap (((x*y:Nat):Int)+(z:Int))=((x*y+z:Nat):Int):=fJ Om;have e2:IntKind.u64.wrap ((c:Int)+((x*y+z:Nat):Int))=((c+(x*y+z):Nat):Int):=fJ Om;have A:IntKind.i64.wrap ((i:Int)+(j:Int))=((i+j:Nat):Int):=gT Om;have hlt:((i+j:Nat):Int)<((a.length+b.length:Nat):Int):=Om;generalize ht:c+(x*y+z)=t at *
  have θ:t<4294967296*4294967296:=Om;have l:(aL M).set (i+j) [.int .u32 ((t%4294967296:Nat):Int)]=aL (M.set (i+j) (t%4294967296)):=fV M (i+j) _;simp only[go_sem,w,R9,Y,Sa,ex,ey,em,A,hlt,B,ez,e1,e2,Sb,cO,l,Sd,yJ,Se,wZz j];refine aD (M.set (i+j) (t%4294967296),t/4294967296,j+1) ⟨by simp only; omega,by simp only[a0W]; exact W,e.set _ (a0I _ (by decide)),by simp only; omega,?_,t6 Q _ _ Om⟩ (by simp only; omega) ?_ (PH.aK a_ Sq)
  ·simp only;have V:=p (t%4294967296);have h4:4294967296 ^ (i+(j+1))*(t/4294967296)+4294967296 ^ (i+j)*(t%4294967296)=4294967296 ^ (i+j)*t:=by rw[← a1D,a0L,aZP,← aZE,a2H]
   have h5:4294967296 ^ (i+j)*t=4294967296 ^ (i+j)*c+(4294967296 ^ (i+j)*(x*y)+4294967296 ^ (i+j)*z):=by rw[← ht,aZE,aZE]
   have h6:4294967296 ^ i*(x*val (b.take (j+1)))=4294967296 ^ i*(x*val (b.take j))+4294967296 ^ (i+j)*(x*y):=by rw[γ,aZE,aZE,Nat.pow_add];congr 1;rw[Nat.mul_left_comm x,aZP]
   omega
  ·exact Lq
 ·have he:j=b.length:=Om;have w:¬ (j:Int)<(b.length:Nat):=Om;subst he;have d:i+b.length<M.length:=Om;have E:M[i+b.length]=0:=Q _ _ (aYV _) (aZA d);have p:=HD d;have B:(aL M)[i+b.length]?=some [.int .u32 ((0:Nat):Int)]:=by rw[bX M d,E]
  have A:IntKind.i64.wrap ((i:Int)+(b.length:Int))=((i+b.length:Nat):Int):=gT Om;have hlt:((i+b.length:Nat):Int)<((a.length+b.length:Nat):Int):=Om;have l:(aL M).set (i+b.length) [.int .u32 ((c%4294967296:Nat):Int)]=aL (M.set (i+b.length) c):=by rw[a0E Z]; exact fV M _ _
  simp only[go_sem,w,du,A,cO,hlt,B,l];refine hK (M.set (i+b.length) c) _ _ ⟨by rw[a0W]; exact W,e.set _ Z,?_,fun j y hj O=>?_⟩ (by unfold lD; exact Lq) Sq
  ·have V:=p c;rw[E,Nat.mul_zero,a0S] at V;rw[V,u,aZK,β,aZX,aZP]
  ·rw[List.getElem?_set_ne Om] at O;exact Q j y Om O
theorem atT {C:Ctx} (L:rJ C) (a b:List Nat) (R:Lim a) (S:Lim b) (O:a.length≤1000) (Q:b.length≤1000) (F:PF) (f0:F 0=some (aJ a)) (f1:F 1=some (aJ b)) :
  aC.wp C (.seq (.region xm) (.seq (.seq (.region xn) (.block 0 (.loop dt))) (.seq (.region dw) .ret))) (aR [.tmp 4,.tmp 5] (cA (szV (val a*val b)))) F .nil:=by
 have l:IntKind.i64.wrap ((a.length:Int)+(b.length:Int))=((a.length+b.length:Nat):Int):=gT Om;have A:((a.length+b.length:Nat):Int)*((4:Nat):Int)≤140737488355328:=Om;have B:((a.length+b.length:Nat):Int)≤9223372036854775807:=Om;have V:aYR (a.length+b.length) [PV.int .u32 0]=aL (aYR (a.length+b.length) 0):=by simp[aL]
 simp only[go_sem,xm,f0,f1,l,A,B,V];refine aN fun o Y=>?_;simp only[go_sem,xn,f0];refine wp_loop (α:=List Nat × Nat) (fun t=>lD a b o t.2) (fun t=>PH.nil.set o (.rows 1 (aL t.1))) (fun t=>t.2≤a.length∧GF a b t.1 t.2) (fun t=>a.length-t.2) (aYR (a.length+b.length) 0,0)
  ⟨by simp,by simp,wL _,by simp[val,sO],fun j x _ H=>by rw[List.getElem?_replicate] at H; split at H<;>simp_all⟩ ?_ (PH.aK a_ Sq) ?_
 ·unfold lD;exact Lq
 rintro⟨M,i⟩ ⟨hi,d⟩;simp only at hi d;simp only[go_sem,dt,aeQ,lD];by_cases J:i<a.length
 ·have e:(i:Int)<(a.length:Nat):=Om;have p:=aDA (C:=C) a b R S O Q M i J d o;simp only[go_sem] at p;simp only[go_sem,e];refine p _ _ _ (by unfold lD; exact Lq) Sq ?_;intro L' W H' y c w;have u:=c 34 _ (by unfold lD; simp only[go_sem]; rfl);have g0:=c 0 _ (by unfold lD; simp only[go_sem]; rfl);have g1:=c 1 _ (by unfold lD; simp only[go_sem]; rfl);have X:=c 6 _ (by unfold lD; simp only[go_sem]; rfl);have K:=c 32 _ (by unfold lD; simp only[go_sem]; rfl);have N:=c 33 _ (by unfold lD; simp only[go_sem]; rfl);simp only[go_sem,Sf,u,wZz i];refine aD (L',i+1) ⟨by simp only; omega,y⟩ (by simp only; omega) ?_ (PH.aK a_ w);exact Lq
 ·have U:i=a.length:=Om;subst U;have e:¬ (a.length:Int)<(a.length:Nat):=Om;have hV:val M=val a*val b:=by rw[d.v,aZK]
  simp only[go_sem,dw];have E:=L.sized _ d.lim (by rw[d.len]; omega);rw[hV] at E;refine qU (o:=o) (s:=1) (k:=a.length+b.length) (rs:=aL M) (v:=szV (val a*val b)) ?_ rfl Sq (by rw[cC,d.len]; exact aYV _) ?_
  ·rw[aZJ (by rw[cC,d.len]; exact aYV _)]; exact E
  ·simp only[go_sem,szV];exact aZ (.inr rfl) .nil rfl a_ ⟨.refl _,rfl⟩
theorem aKM {C:Ctx} (L:rJ C) (a b:List Nat) (i:Lim a) (l:Lim b) (w:a.length≤35184372087808) (x:b.length≤35184372087808) :
  SS.wp C (aR aCZ.res (cA (opV (eG (val a) (val b)) (val a*val b)))) (PF.args [aJ a,aJ b]) .nil:=by
 simp only[go_sem,SS,aeN,aeO,aCZ];refine aA (L.large a i w) rfl ?_;by_cases c:nl (val a)>512
 ·simp only[go_sem,c,xl];rw[show opV (eG (val a) (val b)) (val a*val b)=.tup [aJ [],.int .i64 2] by simp[opV,eG,c]];exact eZ rfl
 simp only[go_sem,c];refine aA (L.large b l x) rfl ?_;by_cases d:nl (val b)>512
 ·simp only[go_sem,d,xl];rw[show opV (eG (val a) (val b)) (val a*val b)=.tup [aJ [],.int .i64 2] by simp[opV,eG,d]];exact eZ rfl
 have e:opV (eG (val a) (val b)) (val a*val b)=szV (val a*val b):=by simp[opV,eG,c,d]
 rw[e];simp only[go_sem,d];refine bO .nil anO a_ ?_;simp only[go_sem,aeP];have B:=fU i;have E:=fU l;have p:((nl (val a):Nat):Int)≤(a.length:Nat):=Om;have u:((nl (val b):Nat):Int)≤(b.length:Nat):=Om;refine bP (oW a) (L.length a i w) rfl a_ ?_;simp only[go_sem,p,or_true,a0B,jN i];refine bP (oW b) (L.length b l x) rfl a_ ?_;simp only[go_sem,u,or_true,a0B,jN l];have y:=aS (val a);have A:=aS (val b);have:=atT L (aI (val a)) (aI (val b)) (aV _) (aV _) (by rw[aW]; omega) (by rw[aW]; omega);rw[y,A] at this;have:=fun F f0 f1=>this F f0 f1;simp only[go_sem] at this;exact this _ rfl rfl
open Go Go.Na
theorem rt {A P W Z:List Nat} {i:Nat} (d:P.length=i) (hi:i<W.length):(aL (A++(P++W.drop i)++Z))[A.length+i]?=some [.int .u32 ((W[i]:Nat):Int)]:=by
 have c:A.length+i<(A++(P++W.drop i)++Z).length:=by simp; omega
 rw[bX _ c];congr 4;rw[List.getElem_append_left (by simp; omega),a2P Om,a2P Om,List.getElem_drop];congr 1;omega
theorem GZ {A P W Z:List Nat} {i:Nat} (c:P.length=i) (hi:i<W.length) (v:Nat):(aL (A++(P++W.drop i)++Z)).set (A.length+i) [.int .u32 (v:Int)]=aL (A++((P++[v])++W.drop (i+1))++Z):=by
 rw[fV];congr 1;rw[List.set_append_left _ _ (by simp; omega),a1M _ _ Om,a1M _ _ Om,a0O hi];rw[show A.length+i-A.length-P.length=0 by omega,a2B];simp
theorem ayJ {t:Nat} (h:t<18446744073709551616):lK .and .u64 (t:Int) 4294967295=some (.int .u64 ((t%4294967296:Nat):Int)):=by
 show some (PV.int .u64 (IntKind.u64.wrap (((BitVec.ofInt 64 (t:Int) &&& BitVec.ofInt 64 (4294967295:Int)).toNat:Nat):Int)))=_;have e:BitVec.ofInt 64 (4294967295:Int)=BitVec.ofNat 64 4294967295:=by rfl
 rw[e,BitVec.ofInt_natCast,BitVec.toNat_and,BitVec.toNat_ofNat,BitVec.toNat_ofNat,a0E (by simpa using h)];have c:(4294967295:Nat)%2 ^ 64=2 ^ 32-1:=by decide
 rw[c,Nat.and_two_pow_sub_one_eq_mod];rw[bF (Nat.lt_of_lt_of_le (a0I _ (by decide)) (by decide))]
theorem ayP {c f x:Nat} (e:c<4294967296) (d:f≤4294967296) (i:x<4294967296):c+f*x<18446744073709551616∧(c+f*x)/4294967296<4294967296∧f*x≤4294967296*4294967295:=by
 have:f*x≤4294967296*4294967295:=a1U d Om;refine⟨by omega,?_,this⟩;omega
def Sn (v:List Nat) (j o i c b:Nat) (f:Nat):PF:=((((((((PF.nil.set 0 (.osl o 1 j (v.length+1))).set 1 (aJ v)).set 2 (.int .u64 f)).set 7 (.int .u64 c)).set 8 (.int .u64 b)).set 13 (aJ v)).set 14 (.int .i64 (v.length:Nat))).set 15 (.int .i64 i))
def NH (n w m:Nat):Nat:=if w<m then w+4294967296 ^ n-m else w-m
theorem So {C:Ctx} (A W Z v:List Nat) (f:Nat) (hW:Lim W) (hv:Lim v) (hl:W.length=v.length+1) (h1:A.length+v.length≤100000) (hf:f≤4294967296) (ν:val v*f≤val W+4294967296 ^ (v.length+1)) (o:Nat) :
  uU.wp C (aR SW.res (fun r H'=>r=.bool (decide (val W<val v*f))∧H'=PH.nil.set o (.rows 1 (aL (A++eA (v.length+1) (NH (v.length+1) (val W) (val v*f))++Z)))))
   (PF.args [.osl o 1 A.length (v.length+1),aJ v,.int .u64 f]) (PH.nil.set o (.rows 1 (aL (A++W++Z)))):=by
 simp only[go_sem,uU,SX,SY,SZ,SW];refine wp_loop (α:=List Nat × Nat × Nat) (fun t=>Sn v A.length o t.1.length t.2.1 t.2.2 f) (fun t=>PH.nil.set o (.rows 1 (aL (A++(t.1++W.drop t.1.length)++Z))))
  (fun t=>t.1.length≤v.length∧Lim t.1∧t.2.1<4294967296∧t.2.2≤1∧val (W.take t.1.length)+4294967296 ^ t.1.length*t.2.2+4294967296 ^ t.1.length*t.2.1=val t.1+val (v.take t.1.length)*f) (fun t=>v.length-t.1.length) ([],0,0)
  ⟨by simp,by simp[Lim],by simp,by simp,by simp[val]⟩ ?_ (PH.aK a_ (by simp only[go_sem,a1H,a0B,a2G])) ?_
 ·unfold Sn;exact Lq
 rintro⟨P,c,b⟩ ⟨hP,i,hc,hb,u⟩;simp only at hP i hc hb u;simp only[go_sem,PN,TA,Sn];by_cases X:P.length<v.length
 ·have F:(P.length:Int)<(v.length:Nat):=Om;have B:P.length<W.length:=Om;have H:(P.length:Int)<((v.length+1:Nat):Int):=Om;have hx:=hv _ (aYQ X);have hw:=hW _ (aYQ B);have η:=cH v X;have E:=cH W B;have K:=rt (A:=A) (Z:=Z) (P:=P) rfl B;have p:=GZ (A:=A) (Z:=Z) (P:=P) rfl B;generalize μ:v[P.length]=x at *
  generalize κ:W[P.length]=y at *
  have ι:(aL v)[P.length]?=some [.int .u32 ((x:Nat):Int)]:=by rw[bX v X,μ]
  obtain⟨k1,k2,k3⟩:=ayP hc hf hx;have ex:IntKind.u64.wrap ((x:Nat):Int)=((x:Nat):Int):=bF Om;have Y:IntKind.u64.wrap ((y:Nat):Int)=((y:Nat):Int):=bF Om;have em:IntKind.u64.wrap ((f:Int)*(x:Int))=((f*x:Nat):Int):=by rw[show (f:Int)*(x:Int)=((f*x:Nat):Int) by simp];exact bF Om
  have l:c+f*x<18446744073709551616:=k1;have ea:IntKind.u64.wrap ((c:Int)+((f*x:Nat):Int))=((c+f*x:Nat):Int):=fJ l;have Q:=ayJ l;have θ:val (v.take (P.length+1))*f=val (v.take P.length)*f+4294967296 ^ P.length*(f*x):=by rw[η,aZX,aZP,aZT x f]
  generalize f*x=w at *
  have S:(c+w)%4294967296<4294967296:=a0I _ (by decide);obtain⟨s1,s2,s3,s4⟩:=Un (a:=y) (bor:=b) (b:=(c+w)%4294967296) hw S hb (IntKind.u64.wrap (IntKind.u64.wrap ((y:Int)-(((c+w)%4294967296:Nat):Int))-(b:Int))) (by rw[gG,gG]; omega);generalize hd:UO y b ((c+w)%4294967296)=d at *
  generalize δ:fx y b ((c+w)%4294967296)=V at *
  have γ:V≤1:=by rw[← δ]; unfold fx; split<;>omega
  have hs:=p d;simp only[go_sem,F,TB,ι,TC,ex,em,ea,TD,H,K,Y,Q,TE,s1,hs,TF,apA,s2,TG,yJ,PO,dC (Om:P.length<9223372036854775807)];refine aD (P++[d],(c+w)/4294967296,V) ⟨by simp; omega,i.app fun z hz=>by simp at hz; omega,k2,γ,?_⟩ (by simp; omega) ?_ (PH.aK a_ ?_)
  ·simp only;rw[aYU,aZB,jQ,E,θ,a0L,aZP,aZP];have h4:4294967296 ^ P.length*y+4294967296 ^ P.length*(4294967296*V)=4294967296 ^ P.length*d+4294967296 ^ P.length*((c+w)%4294967296)+4294967296 ^ P.length*b:=by rw[← aZE,s3,aZE,aZE]
   have h5:4294967296 ^ P.length*(4294967296*((c+w)/4294967296))+4294967296 ^ P.length*((c+w)%4294967296)=4294967296 ^ P.length*c+4294967296 ^ P.length*w:=by rw[← aZE,a2H,aZE]
   omega
  ·simp only;rw[aYU,aZB];exact Lq
  ·simp only;rw[aYU,aZB];simp only[go_sem]
 ·have e:P.length=v.length:=Om;have F:¬ (P.length:Int)<(v.length:Nat):=Om;have B:v.length<W.length:=Om;have H:(v.length:Int)<((v.length+1:Nat):Int):=Om;have hw:=hW _ (aYQ B);have E:=cH W B;have K:=rt (A:=A) (Z:=Z) (P:=P) e B;have p:=GZ (A:=A) (Z:=Z) (P:=P) e B;have J:val (W.take (v.length+1))=val W:=by rw[aZJ Om]
  generalize κ:W[v.length]=y at *
  have Y:IntKind.u64.wrap ((y:Nat):Int)=((y:Nat):Int):=bF Om;have β:=eX i;rw[e] at u β;rw[aZK] at u;rw[J] at E;have U:4294967296 ^ (v.length+1)=4294967296 ^ v.length*4294967296:=a0L _ _;have ο:val W+4294967296 ^ v.length*(b+c)=val P+val v*f+4294967296 ^ v.length*y:=by rw[E,aZE]; omega
  have ξ:b+c≤y+4294967296:=by
   rcases aZL (y+4294967296) (b+c) with h | h
   ·exfalso;have:4294967296 ^ v.length*(y+4294967296+1)≤4294967296 ^ v.length*(b+c):=a1F _ h;rw[aZE,aZE,Nat.mul_one] at this;omega
   ·exact h
  have N:∃ d k:Nat,d<4294967296∧k≤1∧y+4294967296*k=d+(b+c)∧IntKind.u32.wrap (IntKind.u64.wrap (IntKind.u64.wrap ((y:Int)-(c:Int))-(b:Int)))=(d:Int)∧((IntKind.u64.wrap (IntKind.u64.wrap ((y:Int)-(c:Int))-(b:Int))/9223372036854775808==1)=decide (k=1)):=by
   rw[ZV,gG,gG];by_cases h:y<b+c
   ·refine⟨y+4294967296-(b+c),1,by omega,by omega,by omega,by omega,?_⟩;simp only[decide_true];exact bN Om
   ·refine⟨y-(b+c),0,by omega,by omega,by omega,by omega,?_⟩;exact bD Om
  obtain⟨d,k,hd,hk,hy,w1,w2⟩:=N;have hs:=p d;have hN:val (P++[d])+val v*f=val W+4294967296 ^ (v.length+1)*k:=by
   have:4294967296 ^ v.length*y+4294967296 ^ v.length*(4294967296*k)=4294967296 ^ v.length*d+4294967296 ^ v.length*(b+c):=by rw[← aZE,hy,aZE]
   rw[jQ,e,U,aZP];omega
  have R:Lim (P++[d]):=i.app fun z hz=>by simp at hz; omega
  have ε:=eX R;rw[aYU,aZB,e] at ε;have M:decide (k=1)=decide (val W<val v*f):=by
   congr 1;apply propext;constructor
   ·intro h; subst h; omega
   ·intro h;rcases a1B k with h0 | h0
    ·subst h0; omega
    ·omega
  have O:NH (v.length+1) (val W) (val v*f)=val (P++[d]):=by
   unfold NH;split
   ·rename_i h;have:k=1:=by simpa [h] using M
    subst this; omega
   ·rename_i h;have:k=0:=by
     have:¬ k=1:=by simpa [h] using M
     omega
    subst this; omega
  have hD:eA (v.length+1) (NH (v.length+1) (val W) (val v*f))=P++[d]:=by have:=IM R;rw[aYU,aZB,e] at this;rw[O,this]
  have ζ:W.drop (v.length+1)=[]:=a2L Om;simp only[go_sem,F,PP,e,H,K,Y,PQ,w1,hs,PR,apA,w2,M];refine aZ (vs:=[.bool (decide (val W<val v*f))]) (.inr rfl) (PH.nil.set o (.rows 1 (aL (A++(P++[d]++W.drop (v.length+1))++Z)))) rfl (PH.aK a_ Sq) ⟨rfl,?_⟩;rw[hD,ζ,a0M]
end Go.PM
namespace Go.Na
theorem acK {xs ys:List Nat} (e:Lim xs) (i:Lim ys) (c:xs.length=ys.length) (d:val xs=val ys):xs=ys:=by
 rw[← IM e,← IM i,c,d]
theorem aHO {k n:Nat} {xs:List Nat} (e:Lim xs) (c:xs.length=k) (d:val xs=n%4294967296 ^ k):eA k n=xs :=
 acK (mV k n) e (by rw[lM,c]) (by rw[BH,d])
end Go.Na
namespace Go.PM
open Go Go.Na
def Sg (v:List Nat) (j o i c:Nat):PF:=((((((PF.nil.set 0 (.osl o 1 j (v.length+1))).set 1 (aJ v)).set 4 (.int .u64 c)).set 7 (aJ v)).set 8 (.int .i64 (v.length:Nat))).set 9 (.int .i64 i))
theorem X9 {C:Ctx} (A W Z v:List Nat) (hW:Lim W) (hv:Lim v) (hl:W.length=v.length+1) (h1:A.length+v.length≤100000) (o:Nat) :
  wY.wp C (aR dy.res (fun r H'=>r=.tup []∧H'=PH.nil.set o (.rows 1 (aL (A++eA (v.length+1) (val W+val v)++Z)))))
   (PF.args [.osl o 1 A.length (v.length+1),aJ v]) (PH.nil.set o (.rows 1 (aL (A++W++Z)))):=by
 simp only[go_sem,wY,YG,YH,dy];refine wp_loop (α:=List Nat × Nat) (fun t=>Sg v A.length o t.1.length t.2) (fun t=>PH.nil.set o (.rows 1 (aL (A++(t.1++W.drop t.1.length)++Z))))
  (fun t=>t.1.length≤v.length∧Lim t.1∧t.2≤1∧val (W.take t.1.length)+val (v.take t.1.length)=val t.1+4294967296 ^ t.1.length*t.2) (fun t=>v.length-t.1.length) ([],0)
  ⟨by simp,by simp[Lim],by simp,by simp[val]⟩ ?_ (PH.aK a_ (by simp only[go_sem,a1H,a0B,a2G])) ?_
 ·unfold Sg;exact Lq
 rintro⟨P,c⟩ ⟨hP,d,hc,l⟩;simp only at hP d hc l;simp only[go_sem,YF,YI,Sg];by_cases M:P.length<v.length
 ·have u:(P.length:Int)<(v.length:Nat):=Om;have p:P.length<W.length:=Om;have w:(P.length:Int)<((v.length+1:Nat):Int):=Om;have hx:=hv _ (aYQ M);have hw:=hW _ (aYQ p);have S:=cH v M;have F:=cH W p;have E:=rt (A:=A) (Z:=Z) (P:=P) rfl p;have i:=GZ (A:=A) (Z:=Z) (P:=P) rfl p;generalize X:v[P.length]=x at *
  generalize V:W[P.length]=y at *
  have U:(aL v)[P.length]?=some [.int .u32 ((x:Nat):Int)]:=by rw[bX v M,X]
  have ex:IntKind.u64.wrap ((x:Nat):Int)=((x:Nat):Int):=bF Om;have N:IntKind.u64.wrap ((y:Nat):Int)=((y:Nat):Int):=bF Om;have Y:IntKind.u64.wrap ((y:Int)+(x:Int))=((y+x:Nat):Int):=fJ Om;have e2:IntKind.u64.wrap ((c:Int)+((y+x:Nat):Int))=((c+(y+x):Nat):Int):=fJ Om;have R:=i ((c+(y+x))%4294967296);simp only[go_sem,u,YJ,U,YK,w,E,ex,N,Y,e2,YL,cO,R,YM,yJ,YN,dC (Om:P.length<9223372036854775807)];refine aD (P++[(c+(y+x))%4294967296],(c+(y+x))/4294967296) ⟨by simp; omega,d.app fun z K=>by simp at K; subst K; exact a0I _ (by decide),by simp only; omega,?_⟩ (by simp; omega) ?_ (PH.aK a_ ?_)
  ·simp only;rw[aYU,aZB,jQ,F,S,a0L,aZP];have h5:4294967296 ^ P.length*(4294967296*((c+(y+x))/4294967296))+4294967296 ^ P.length*((c+(y+x))%4294967296)=4294967296 ^ P.length*c+(4294967296 ^ P.length*y+4294967296 ^ P.length*x):=by rw[← aZE,a2H,aZE,aZE]
   omega
  ·simp only;rw[aYU,aZB];exact Lq
  ·simp only;rw[aYU,aZB];simp only[go_sem]
 ·have e:P.length=v.length:=Om;have u:¬ (P.length:Int)<(v.length:Nat):=Om;have p:v.length<W.length:=Om;have w:(v.length:Int)<((v.length+1:Nat):Int):=Om;have hw:=hW _ (aYQ p);have F:=cH W p;have E:=rt (A:=A) (Z:=Z) (P:=P) e p;have i:=GZ (A:=A) (Z:=Z) (P:=P) e p;have B:val (W.take (v.length+1))=val W:=by rw[aZJ Om]
  generalize V:W[v.length]=y at *
  have O:=eX d;rw[e] at l O;rw[aZK] at l;rw[B] at F;have ec:IntKind.u32.wrap ((c:Nat):Int)=((c:Nat):Int):=by rw[cO,a0E Om]
  have N:IntKind.u32.wrap ((y:Int)+(c:Int))=(((y+c)%4294967296:Nat):Int):=by rw[show (y:Int)+(c:Int)=((y+c:Nat):Int) by omega,cO]
  have R:=i ((y+c)%4294967296);have H:Lim (P++[(y+c)%4294967296]):=d.app fun z K=>by simp at K; subst K; exact a0I _ (by decide)
  have J:=eX H;rw[aYU,aZB,e] at J;have hD:eA (v.length+1) (val W+val v)=P++[(y+c)%4294967296]:=by
   refine aHO H (by rw[aYU,aZB,e]) ?_;have:val W+val v=val (P++[(y+c)%4294967296])+4294967296 ^ (v.length+1)*((y+c)/4294967296):=by rw[jQ,e,a0L,aZP,a1D,← aZE,Nat.mod_add_div,aZE];omega
   rw[this,Nat.add_mul_mod_self_left,a0E J]
  have Q:W.drop (v.length+1)=[]:=a2L Om;simp only[go_sem,u,YO,e,w,E,ec,N,R];refine aZ (vs:=[]) (.inl rfl) (PH.nil.set o (.rows 1 (aL (A++(P++[(y+c)%4294967296]++W.drop (v.length+1))++Z)))) rfl (PH.aK a_ Sq) ⟨rfl,?_⟩;rw[hD,Q,a0M]
def anX (o n:Nat) (len:Nat):PF:=((PF.nil.set 0 (.osl o 1 0 len)).set 3 (.int .i64 n))
theorem X7 {C:Ctx} (xs:List Nat) (w:Lim xs) (A:xs.length≤35184372087808) (o:Nat):pT.wp C (aR GT.res (fun r H'=>r=.int .i64 (nl (val xs):Nat)∧H'=PH.nil.set o (.rows 1 (aL xs)))) (PF.args [.osl o 1 0 xs.length]) (PH.nil.set o (.rows 1 (aL xs))):=by
 simp only[go_sem,pT,LC,LD,GT];refine wp_loop (α:=Nat) (fun n=>anX o n xs.length) (fun _=>PH.nil.set o (.rows 1 (aL xs))) (fun n=>n≤xs.length∧∀ j x,n≤j→xs[j]?=some x→x=0) (fun n=>n) xs.length ⟨aYV _,fun j x h e=>by rw[a0H h] at e; cases e⟩ ?_ b_ ?_
 ·unfold anX;exact Lq
 rintro n ⟨u,p⟩;have out:(∀ x,0<n→xs[n-1]?=some x→x≠0)→nl (val xs)=n:=fun h=>agD w u p h;simp only[go_sem,KZ,LE,anX];by_cases i:(n:Int)>0
 ·have l:0<n:=Om;have hi:=bX xs (Om:n-1<xs.length);have hlt:((n-1:Nat):Int)<(xs.length:Nat):=Om;simp only[go_sem,i,wS (Om:n≤9223372036854775807) l,hi,hlt];by_cases d:xs[n-1]=0
  ·simp only[go_sem,bN (Om:((xs[n-1]:Nat):Int)=0),LF,wS (Om:n≤9223372036854775807) l];refine aD (n-1) ⟨by omega,fun j x y c=>?_⟩ Om ?_ b_
   ·rcases aZL j n with h | h
    ·have:j=n-1:=Om;subst this;rw[aZA Om] at c;cases c; exact d
    ·exact p j x h c
   ·exact Lq
  ·simp only[go_sem,bD (Om:((xs[n-1]:Nat):Int)≠0),tN];refine aZ (.inr rfl) _ rfl b_ ⟨?_,rfl⟩;rw[out fun x _ c=>by rw[aZA Om] at c; cases c; exact d];rfl
 ·simp only[go_sem,i,tN];refine aZ (.inr rfl) _ rfl b_ ⟨?_,rfl⟩;rw[out fun x h=>by omega];rfl
end Go.PM
namespace Go.Na
structure Kn (V W top next Vr head u2 Wr p:Nat):Prop where
 hV:V=top*(4294967296*p)+next*p+Vr
 hW:W=head*(4294967296*p)+u2*p+Wr
 hVr:Vr<p
 hWr:Wr<p
 htop:2147483648≤top
 aXY:next<4294967296
 hu2:u2<4294967296
 hlt:W<V*4294967296
section
variable {V W top next Vr head u2 Wr p:Nat}
theorem Kn.low (K:Kn V W top next Vr head u2 Wr p):next*p+Vr<4294967296*p∧u2*p+Wr<4294967296*p:=by
 have c:(next+1)*p≤4294967296*p:=aZY _ K.aXY;have d:(u2+1)*p≤4294967296*p:=aZY _ K.hu2;rw[aZX,Nat.one_mul] at c d;have:=K.hVr;have:=K.hWr;omega
theorem Kn.J4 (K:Kn V W top next Vr head u2 Wr p):0<V∧4294967296*p≤V∧0<p:=by
 have:=K.hVr;have h:1*(4294967296*p)≤top*(4294967296*p):=aZY _ (by have:=K.htop; omega);have:=K.hV;omega
theorem Kn.aOS (K:Kn V W top next Vr head u2 Wr p):W/V<4294967296:=by
 rw[a1T K.J4.1,aZT]; exact K.hlt
theorem Kn.g0 (K:Kn V W top next Vr head u2 Wr p):W/V≤head/top:=by
 have c:0<top:=by have:=K.htop; omega
 rw[Nat.le_div_iff_mul_le c];have d:W/V*V≤W:=Nat.div_mul_le_self W V;have e:W/V*(top*(4294967296*p))≤W/V*V:=a1F _ (by have:=K.hV; omega);have i:=K.low.2;have l:=K.hW;have h5:(W/V*top)*(4294967296*p)<(head+1)*(4294967296*p):=by rw[aZP,aZX,Nat.one_mul]; omega
 have:=Nat.lt_of_mul_lt_mul_right h5;omega
theorem Kn.g1 (K:Kn V W top next Vr head u2 Wr p) {g r:Nat} (i:g*top+r=head) (A:W/V≤g) (h:g≥4294967296∨g*next>r*4294967296+u2):1≤g∧W/V≤g-1:=by
 have u:=K.aOS;have c:=Nat.div_mul_le_self W V;generalize W/V=Q at *
 rcases h with h | h
 ·omega
 ·have l:Q≠g:=by
   intro e;have w:g*V≤W:=by rw[← e]; exact c
   have x:g*V=g*top*(4294967296*p)+g*next*p+g*Vr:=by rw[K.hV,aZE,aZE,aZP,aZP]
   have d:(r*4294967296+u2+1)*p≤g*next*p:=aZY _ h
   rw[aZX,aZX,Nat.one_mul,aZP r] at d;have y:g*top*(4294967296*p)+r*(4294967296*p)=head*(4294967296*p):=by rw[← aZX,i]
   have:=K.hW;have:=K.hWr;omega
  omega
theorem Kn.g2 (K:Kn V W top next Vr head u2 Wr p) {g r:Nat} (l:g*top+r=head) (u:g≤4294967296) (h:g*next≤r*4294967296+u2):g≤W/V+1:=by
 rcases a1B g with e | e
 ·rw[e]; exact aYS _
 have d:g*V=g*top*(4294967296*p)+g*next*p+g*Vr:=by rw[K.hV,aZE,aZE,aZP,aZP]
 have c:g*next*p≤(r*4294967296+u2)*p:=aZY _ h
 rw[aZX,aZP r] at c;have i:g*top*(4294967296*p)+r*(4294967296*p)=head*(4294967296*p):=by rw[← aZX,l]
 have h5:g*Vr≤4294967296*Vr:=aZY _ u;have w:4294967296*(Vr+1)≤4294967296*p:=a1F _ K.hVr;have hV:=K.J4;have hW:=K.hW;have h7:(g-1)*V≤W:=by
  have:g*V=(g-1)*V+V:=by obtain⟨k,rfl⟩:∃ k,g=k+1:=⟨g-1,by omega⟩;rw[aZX,Nat.one_mul]; rfl
  omega
 have:=(Nat.le_div_iff_mul_le hV.1).2 h7;generalize W/V=Q at *
 clear d c i h5 h7;omega
theorem Kn.g3 (K:Kn V W top next Vr head u2 Wr p) {g r:Nat} (l:g*top+r=head) (u:g≤4294967296) (w:4294967296≤r):g≤W/V+1:=by
 have c:=K.low.1;have hV:=K.J4;have d:g*V=g*top*(4294967296*p)+g*(next*p+Vr):=by rw[K.hV,a1D,aZE,aZP]
 have e:g*(next*p+Vr)≤4294967296*(4294967296*p):=a1U u Om;have i:g*top*(4294967296*p)+r*(4294967296*p)=head*(4294967296*p):=by rw[← aZX,l]
 have h5:4294967296*(4294967296*p)≤r*(4294967296*p):=aZY _ w;have hW:=K.hW;have h7:g*V≤W:=Om;have:=(Nat.le_div_iff_mul_le hV.1).2 h7;generalize W/V=Q at *
 clear d e i h5 h7;omega
theorem Kn.g4 (K:Kn V W top next Vr head u2 Wr p):head/top≤4294967296+1:=by
 have c:=K.low.1;have hV:=K.J4;have hW:=K.hW;have hlt:=K.hlt;have u:=K.htop;have i:head<(top+1)*4294967296:=by
  have d:V<(top+1)*(4294967296*p):=by rw[K.hV,aZX,Nat.one_mul]; omega
  have l:V*4294967296≤(top+1)*(4294967296*p)*4294967296:=aZY _ (Nat.le_of_lt d);have e:head*(4294967296*p)<(top+1)*4294967296*(4294967296*p):=by
   have:(top+1)*(4294967296*p)*4294967296=(top+1)*4294967296*(4294967296*p):=by rw[aZP,aZT (4294967296*p) 4294967296,← aZP]
   omega
  exact Nat.lt_of_mul_lt_mul_right e
 have h5:head/top<4294967296+2:=by rw[a1T Om];omega
 omega
end
theorem wI:∀ (k n:Nat),eA (k+1) n=eA k n++[n/4294967296 ^ k%4294967296]
 | 0,n=>by simp[eA]
 | k+1,n=>by show (n%4294967296)::eA (k+1) (n/4294967296)=(n%4294967296)::eA k (n/4294967296)++[n/4294967296 ^ (k+1)%4294967296];rw[wI k (n/4294967296),Nat.div_div_eq_div_mul,a0L,aZT 4294967296];rfl
theorem vI {xs:List Nat} (h:Lim xs):∀ {k:Nat},k≤xs.length→val (xs.drop k)=val xs/4294967296 ^ k:=by
 intro k c;have e:val xs=val (xs.take k)+4294967296 ^ k*val (xs.drop k):=by
  conv=>lhs; rw[← a1N k xs,gJ,aZH,a1E c]
 have d:=eX (h.take k);rw[aZH,a1E c] at d;rw[e,Nat.add_mul_div_left _ _ (a1K (by decide)),a2I d,aZM]
theorem ZE {R s i c d X:Nat} (u:s<32) (h:R/4294967296 ^ i=c+4294967296*(d+4294967296*X)):(R/2 ^ s)/4294967296 ^ i%4294967296=(4294967296*d+c)/2 ^ s%4294967296:=by
 rw[Nat.div_div_eq_div_mul,aZT (2 ^ s),← Nat.div_div_eq_div_mul,h];have l:4294967296*4294967296=2 ^ s*(2 ^ (32-s)*4294967296):=by rw[← aZP,← Nat.pow_add,show s+(32-s)=32 by omega]
 have e:c+4294967296*(d+4294967296*X)=(4294967296*d+c)+2 ^ s*(2 ^ (32-s)*X*4294967296):=by
  have:4294967296*(4294967296*X)=2 ^ s*(2 ^ (32-s)*X*4294967296):=by rw[← aZP,l,aZP,aZP,aZP,aZT 4294967296 X]
  rw[aZE,this]; omega
 rw[e,Nat.add_mul_div_left _ _ (a1K (by decide)),Nat.add_mul_mod_self_right]
end Go.Na
namespace Go.PM
open Go Go.Na
theorem aLI {A W Z:List Nat} {i:Nat} (hi:i<W.length):(aL (A++W++Z))[A.length+i]?=some [.int .u32 ((W[i]:Nat):Int)]:=by
 have c:A.length+i<(A++W++Z).length:=by simp; omega
 rw[bX _ c];congr 4;rw[List.getElem_append_left (by simp; omega),a2P Om];congr 1;omega
def dF (u v:PV) (n:Nat) (q:PV) (top next j s:Nat):PF:=((((((((PF.nil.set 8 (.int .u64 s)).set 9 (u)).set 10 (v)).set 11 (.int .i64 n)).set 12 (q)).set 13 (.int .u64 top)).set 14 (.int .u64 next)).set 15 (.int .i64 j))
def dG (u v:PV) (n:Nat) (q:PV) (top next j s g r:Nat):PF:=((((((((((PF.nil.set 8 (.int .u64 s)).set 9 (u)).set 10 (v)).set 11 (.int .i64 n)).set 12 (q)).set 13 (.int .u64 top)).set 14 (.int .u64 next)).set 15 (.int .i64 j)).set 17 (.int .u64 g)).set 18 (.int .u64 r))
theorem Iv {C:Ctx} {V y top next Z head e Wr p:Nat} (i:Kn V y top next Z head e Wr p) (htop:top<4294967296) (o l m j s:Nat) (v q:PV) (ζ:j+m+2<l) (η:l≤100000) (U:List Nat) (hU:(aL U)[j+m]?=some [.int .u32 (e:Nat)]) (K:bT) (F:PF) (H:PH)
  (hF:(dG (.osl o 1 0 l) v (m+2) q top next j s (head/top) (head%top)).le F) (hH:H o=some (.rows 1 (aL U)))
  (Y:∀ g r x,y/V≤g→g≤y/V+1→g≤4294967296→(dG (.osl o 1 0 l) v (m+2) q top next j s g r).le x→K .normal x H) :
  aC.wp C (.block 4 (.loop vW)) K F H:=by
 have X:0<top:=by have:=i.htop; omega
 have hn:=i.aXY;have hu2:=i.hu2;simp only[go_sem];refine wp_loop (α:=Nat × Nat) (fun t=>dG (.osl o 1 0 l) v (m+2) q top next j s t.1 t.2) (fun _=>H) (fun t=>t.1*top+t.2=head∧y/V≤t.1∧t.1≤4294967296+1∧t.2<4294967296) (fun t=>t.1) (head/top,head%top)
  ⟨by simp only; rw[aZT]; exact a2H head top,i.g0,i.g4,Nat.lt_trans (a0I _ X) htop⟩ hF b_ ?_
 rintro⟨g,r⟩ ⟨J,W,S,hr⟩;simp only at J W S hr;have e1:IntKind.i64.wrap ((j:Int)+((m+2:Nat):Int))=((j+(m+2):Nat):Int):=gT Om;have e2:IntKind.i64.wrap (((j+(m+2):Nat):Int)-2)=((j+m:Nat):Int):=by rw[wrap_i64 Om Om]; omega
 have hlt:((j+m:Nat):Int)<(l:Nat):=Om;have O:IntKind.u64.wrap ((e:Nat):Int)=((e:Nat):Int):=bF Om;have B:shift .shl .u64 (r:Int) 32=some (.int .u64 ((2 ^ 32*r:Nat):Int)):=NE (s:=32) Om Om;have N:(2:Nat) ^ 32=4294967296:=by decide
 have A:=orI (a:=2 ^ 32*r) (b:=e) (n:=2 ^ 32*r+e) Om Om (Nat.two_pow_add_eq_or_of_lt Om r).symm Om;rw[N] at B A;have more:(g≥4294967296∨g*next>r*4294967296+e)→∀ x:PF,(dG (.osl o 1 0 l) v (m+2) q top next j s g r).le x→aC.wp C (.block 5 (.seq (.region EE) (.seq (.region EF) (.seq (.region EG) (.cond (.tmp 136) (.exit 4) .skip)))))
   (fR (fun t:Nat × Nat=>dG (.osl o 1 0 l) v (m+2) q top next j s t.1 t.2) (fun _=>H) (fun t=>t.1*top+t.2=head∧y/V≤t.1∧t.1≤4294967296+1∧t.2<4294967296) (fun t=>t.1) g (fF 4 K)) x H:=by
  intro hc x d;obtain⟨g1,g2⟩:=i.g1 J W hc;have f8:=d 8 _ (by unfold dG; simp only[go_sem]; rfl);have f9:=d 9 _ (by unfold dG; simp only[go_sem]; rfl);have β:=d 10 _ (by unfold dG; simp only[go_sem]; rfl);have f11:=d 11 _ (by unfold dG; simp only[go_sem]; rfl);have γ:=d 12 _ (by unfold dG; simp only[go_sem]; rfl);have f13:=d 13 _ (by unfold dG; simp only[go_sem]; rfl);have f14:=d 14 _ (by unfold dG; simp only[go_sem]; rfl);have δ:=d 15 _ (by unfold dG; simp only[go_sem]; rfl);have Q:=d 17 _ (by unfold dG; simp only[go_sem]; rfl);have R:=d 18 _ (by unfold dG; simp only[go_sem]; rfl);have w1:IntKind.u64.wrap ((g:Int)-1)=((g-1:Nat):Int):=by rw[wrap_u64 Om Om]; omega
  have w2:IntKind.u64.wrap ((r:Int)+(top:Int))=((r+top:Nat):Int):=fJ Om;have E:(g-1)*top+(r+top)=head:=by obtain⟨k,rfl⟩:∃ k,g=k+1:=⟨g-1,by omega⟩;rw[aZX,Nat.one_mul] at J;simp only[Nat.add_sub_cancel];omega
  simp only[go_sem,EE,EF,EG,Q,R,f13,w1,w2];by_cases c:r+top≥4294967296
  ·have M:((r+top:Nat):Int)≥4294967296:=Om;simp only[go_sem,M];refine Y (g-1) (r+top) _ g2 (i.g3 E Om c) Om ?_;unfold dG;exact Lq
  ·have M:¬ ((r+top:Nat):Int)≥4294967296:=Om;simp only[go_sem,M];refine aD (g-1,r+top) ⟨E,g2,by simp only; omega,by simp only; omega⟩ (by simp only; omega) ?_ b_;unfold dG;exact Lq
 simp only[go_sem,vW,XY,dG];by_cases c1:g≥4294967296
 ·have u:(g:Int)≥4294967296:=Om;simp only[go_sem,u];have:=more (.inl c1);simp only[go_sem,dG] at this;refine this _ ?_;exact Lq
 ·have u:¬ (g:Int)≥4294967296:=Om;have ε:g*next≤4294967295*4294967295:=a1U Om Om
  have em:IntKind.u64.wrap ((g:Int)*(next:Int))=((g*next:Nat):Int):=by rw[show (g:Int)*(next:Int)=((g*next:Nat):Int) by simp];exact bF Om
  simp only[go_sem,u,em,B,e1,e2,hlt,hH,hU,O,A];by_cases c2:g*next>r*4294967296+e
  ·have w:((g*next:Nat):Int)>((4294967296*r+e:Nat):Int):=Om;simp only[go_sem,w];have:=more (.inr c2);simp only[go_sem,dG] at this;refine this _ ?_;exact Lq
  ·have w:¬ ((g*next:Nat):Int)>((4294967296*r+e:Nat):Int):=Om;simp only[go_sem,w];refine Y g r _ W (i.g2 J Om Om) Om ?_;unfold dG;exact Lq
end Go.PM
namespace Go.Na
theorem aRQ {W v:List Nat} {m:Nat} (hW:Lim W) (c:Lim v) (u:v.length=m+2) (p:W.length=m+3) (w:2147483648≤v[m+1]) (hlt:val W<val v*4294967296) :
  Kn (val v) (val W) (v[m+1]) (v[m]) (val (v.take m)) (W[m+2]*4294967296+W[m+1]) (W[m]) (val (W.take m)) (4294967296 ^ m):=by
 have i:val v=val (v.take m)+4294967296 ^ m*(v[m]+4294967296*v[m+1]):=by
  rw[sM v (Om:m<v.length)];congr 4;have:v.drop (m+1)=[v[m+1]]:=by rw[a0O Om,a2L Om]
  rw[this]; simp[val]
 have l:val W=val (W.take m)+4294967296 ^ m*(W[m]+4294967296*(W[m+1]+4294967296*W[m+2])):=by
  rw[sM W (Om:m<W.length)];congr 4;have:W.drop (m+1)=[W[m+1],W[m+2]]:=by rw[a0O Om,a0O Om,a2L Om]
  rw[this]; simp[val]
 have d:=eX (c.take m);have e:=eX (hW.take m);rw[aZH,a1E Om] at d e;refine⟨?_,?_,d,e,w,c _ (aYQ _),hW _ (aYQ _),hlt⟩
 ·rw[i,aZE,aZT (4294967296 ^ m) (v[m]),← aZP (4294967296 ^ m),aZT (4294967296 ^ m*4294967296),aZT (4294967296 ^ m) 4294967296];omega
 ·rw[l,aZE,aZT (4294967296 ^ m) (W[m]),← aZP (4294967296 ^ m),aZT (4294967296 ^ m*4294967296),aZT (4294967296 ^ m) 4294967296,aZT (W[m+2]),Nat.add_comm (4294967296*W[m+2])];omega
end Go.Na
namespace Go.PM
open Go Go.Na
structure I6 (C:Ctx):Prop where
 subtract:∀ (A W Z v:List Nat) (f o:Nat),Lim W→Lim v→W.length=v.length+1→A.length+v.length≤100000→f≤4294967296→val v*f≤val W+4294967296 ^ (v.length+1) →
  aH C 142 [.osl o 1 A.length (v.length+1),aJ v,.int .u64 f] (PH.nil.set o (.rows 1 (aL (A++W++Z)))) (fun r H'=>r=.bool (decide (val W<val v*f))∧H'=PH.nil.set o (.rows 1 (aL (A++eA (v.length+1) (NH (v.length+1) (val W) (val v*f))++Z))))
 restore:∀ (A W Z v:List Nat) (o:Nat),Lim W→Lim v→W.length=v.length+1→A.length+v.length≤100000 →
  aH C 139 [.osl o 1 A.length (v.length+1),aJ v] (PH.nil.set o (.rows 1 (aL (A++W++Z)))) (fun r H'=>r=.tup []∧H'=PH.nil.set o (.rows 1 (aL (A++eA (v.length+1) (val W+val v)++Z))))
theorem Lu (k n:Nat):eA k (n%4294967296 ^ k)=eA k n :=
 acK (mV _ _) (mV _ _) (by rw[lM,lM]) (by rw[BH,BH,Nat.mod_mod])
theorem Iu {C:Ctx} (D:I6 C) (A W Z v Q:List Nat) (m o N M s:Nat) (X:N≠o) (hW:Lim W) (hv:Lim v) (ν:v.length=m+2) (μ:W.length=m+3) (ht:2147483648≤v[m+1]) (hlt:val W<val v*4294967296)
  (n':M=A.length+(m+3)+Z.length) (i':M≤10000) (Ψ:A.length<Q.length) (K:bT) (F:PF) (H:PH) (O:(dF (.osl o 1 0 M) (aJ v) (m+2) (.osl N 1 0 Q.length) (v[m+1]) (v[m]) A.length s).le F)
  (hH:H o=some (.rows 1 (aL (A++W++Z)))) (θ:H N=some (.rows 1 (aL Q)))
  (hK:∀ F' H',(dF (.osl o 1 0 M) (aJ v) (m+2) (.osl N 1 0 Q.length) (v[m+1]) (v[m]) A.length s).le F'→H' o=some (.rows 1 (aL (A++eA (m+3) (val W%val v)++Z)))→H' N=some (.rows 1 (aL (Q.set A.length (val W/val v))))→K .normal F' H') :
  aC.wp C (.block 3 (.seq (.draw EC) (.seq (.draw ED) (.seq (.block 4 (.loop vW)) (.seq (.seq (.region EH) (.cond (.tmp 146) (.seq (.region EI) (.region EJ)) .skip)) (.region vX)))))) K F H:=by
 have Kk:=aRQ hW hv ν μ ht hlt;have l:∀ i (h:i<W.length),(aL (A++W++Z))[A.length+i]?=some [.int .u32 ((W[i]:Nat):Int)]:=fun i h=>aLI h;have g0:=l (m+2) Om;have g1:=l (m+1) Om;have g2:=l m Om;have hq:=Kk.aOS;have htop:v[m+1]<4294967296:=hv _ (aYQ _);have r':=hW _ (aYQ (Om:m+2<W.length));have s':=hW _ (aYQ (Om:m+1<W.length));have V:=Kk.J4.1;generalize q':v[m+1]=top at *
 generalize o':v[m]=next at *
 generalize t':W[m+2]=x at *
 generalize u':W[m+1]=Y at *
 generalize v':W[m]=u2 at *
 have f8:=O 8 _ (by unfold dF; simp only[go_sem]; rfl);have f9:=O 9 _ (by unfold dF; simp only[go_sem]; rfl);have Γ:=O 10 _ (by unfold dF; simp only[go_sem]; rfl);have f11:=O 11 _ (by unfold dF; simp only[go_sem]; rfl);have Δ:=O 12 _ (by unfold dF; simp only[go_sem]; rfl);have f13:=O 13 _ (by unfold dF; simp only[go_sem]; rfl);have f14:=O 14 _ (by unfold dF; simp only[go_sem]; rfl);have δ:=O 15 _ (by unfold dF; simp only[go_sem]; rfl);have e1:IntKind.i64.wrap ((A.length:Int)+((m+2:Nat):Int))=((A.length+(m+2):Nat):Int):=gT Om;have e2:IntKind.i64.wrap (((A.length+(m+2):Nat):Int)-1)=((A.length+(m+1):Nat):Int):=by rw[wrap_i64 Om Om]; omega
 have c0:((A.length+(m+2):Nat):Int)<(M:Nat):=Om;have c1:((A.length+(m+1):Nat):Int)<(M:Nat):=Om;have ψ:IntKind.u64.wrap ((x:Nat):Int)=((x:Nat):Int):=bF Om;have ω:IntKind.u64.wrap ((Y:Nat):Int)=((Y:Nat):Int):=bF Om;have γ:shift .shl .u64 (x:Int) 32=some (.int .u64 ((2 ^ 32*x:Nat):Int)):=NE (s:=32) Om Om;have χ:(2:Nat) ^ 32=4294967296:=by decide
 have S:=orI (a:=2 ^ 32*x) (b:=Y) (n:=2 ^ 32*x+Y) Om Om (Nat.two_pow_add_eq_or_of_lt Om x).symm Om;rw[χ] at γ S;have Λ:4294967296*x+Y=x*4294967296+Y:=Om;rw[Λ] at S;simp only[go_sem];refine bO H dT b_ ?_;simp only[go_sem,EC,f9,δ,f11,e1,e2,c0,c1,hH,g0,g1,ψ,ω,γ,S];refine bO H dT b_ ?_;have p':0<top:=Om;have c':¬ ((top:Nat):Int)=0:=Om;generalize m':x*4294967296+Y=head at *
 have α:IntKind.u64.wrap (a1A ((head:Nat):Int) ((top:Nat):Int))=((head/top:Nat):Int):=by rw[show a1A ((head:Nat):Int) ((top:Nat):Int)=((head/top:Nat):Int) from rfl];exact bF (by have:=Kk.g4; omega)
 have β:Int.tmod ((head:Nat):Int) ((top:Nat):Int)=((head%top:Nat):Int):=rfl;simp only[go_sem,ED,f13,c',α,β];have e:=Iv (C:=C) Kk htop o M m A.length s (aJ v) (.osl N 1 0 Q.length) Om Om (A++W++Z) g2;simp only[go_sem] at e;refine e _ _ H ?_ hH ?_
 ·unfold dG;refine d_ (d_ (d_ (d_ (d_ (d_ (d_ (d_ (d_ (d_ c_ ?_) ?_) ?_) ?_) ?_) ?_) ?_) ?_) ?_) ?_<;>simp only[go_sem,f8,f9,Γ,f11,Δ,f13,f14,δ]
 clear e;intro g r F' q1 q2 q3 c;have h8:=c 8 _ (by unfold dG; simp only[go_sem]; rfl);have h9:=c 9 _ (by unfold dG; simp only[go_sem]; rfl);have y:=c 10 _ (by unfold dG; simp only[go_sem]; rfl);have B:=c 11 _ (by unfold dG; simp only[go_sem]; rfl);have ε:=c 12 _ (by unfold dG; simp only[go_sem]; rfl);have ζ:=c 13 _ (by unfold dG; simp only[go_sem]; rfl);have η:=c 14 _ (by unfold dG; simp only[go_sem]; rfl);have E:=c 15 _ (by unfold dG; simp only[go_sem]; rfl);have U:=c 17 _ (by unfold dG; simp only[go_sem]; rfl);have e3:IntKind.i64.wrap (((A.length+(m+2):Nat):Int)+1)=((A.length+(m+3):Nat):Int):=by rw[wrap_i64 Om Om]; omega
 have c3:(A.length:Int)≤((A.length+(m+3):Nat):Int):=Om;have c4:((A.length+(m+3):Nat):Int)≤(M:Nat):=Om;have e4:A.length+(m+3)-A.length=v.length+1:=Om;have u:v.length+1=m+3:=Om;have l':val v*(val W/val v)+val W%val v=val W:=a2H _ _;have ι:=eX hW;rw[μ] at ι;have φ:val W%val v<val v:=a0I _ V;have σ:=eX hv;rw[ν] at σ;have ο:4294967296 ^ (m+3)=4294967296 ^ (m+2)*4294967296:=a0L _ _;generalize j':val W/val v=w at *
 generalize k':val W%val v=rd at *
 have R:∀ (p:PF) (H2:PH),p 8=some (.int .u64 s)→p 9=some (.osl o 1 0 M)→p 10=some (aJ v)→p 11=some (.int .i64 ((m+2:Nat):Int))→p 12=some (.osl N 1 0 Q.length)→p 13=some (.int .u64 top)→p 14=some (.int .u64 next)→p 15=some (.int .i64 A.length)→p 17=some (.int .u64 w) →
   H2 o=some (.rows 1 (aL (A++eA (m+3) rd++Z)))→H2 N=some (.rows 1 (aL Q))→aC.wp C (.region vX) (fF 3 K) p H2:=by
  intro p H2 k8 k9 d' e' τ f' g' υ h' kH kQ;have b':(aL Q)[A.length]?=some [.int .u32 ((Q[A.length]:Nat):Int)]:=bX Q Ψ;have a':(A.length:Int)<(Q.length:Nat):=Om;have eq:IntKind.u32.wrap ((w:Nat):Int)=((w:Nat):Int):=by rw[cO,a0E hq]
  have ρ:=fV Q A.length w;have ξ:¬ o=N:=fun h=>X h.symm;simp only[go_sem,vX,τ,υ,h',eq,a',kQ,b',ρ];refine hK _ _ ?_ (by simp only[go_sem,ξ,kH]) Sq;unfold dF;refine d_ (d_ (d_ (d_ (d_ (d_ (d_ (d_ c_ ?_) ?_) ?_) ?_) ?_) ?_) ?_) ?_<;>simp only[go_sem,k8,k9,d',e',τ,f',g',υ]
 have Ω:(PH.nil.set o (.rows 1 (aL (A++W++Z)))).le H:=PH.aK a_ hH;have κ:val v*g≤val W+4294967296 ^ (v.length+1):=by have:val v*g≤val v*(w+1):=a1F _ q2;rw[aZE,Nat.mul_one] at this;rw[u,ο]; omega
 simp only[go_sem,EH,h9,E,B,e1,e3,c3,c4,e4,y,U];refine lF (D.subtract A W Z v g o hW hv Om Om q3 κ) rfl Ω ?_;rintro rr H' ⟨rfl,rfl⟩ -;rw[PH.tP];by_cases Φ:g=w
 ·subst Φ;have d:¬ val W<val v*g:=Om;have hN:NH (v.length+1) (val W) (val v*g)=rd:=by unfold NH; rw[if_neg d]; omega
  rw[hN,u];simp only[go_sem,d];have:=R;simp only[go_sem] at this;refine this _ _ ?_ ?_ ?_ ?_ ?_ ?_ ?_ ?_ ?_ ?_ ?_<;>simp only[go_sem,h8,h9,y,B,ε,ζ,η,E,U,X,θ]
 ·have Ξ:g=w+1:=Om;subst Ξ;rw[aZE,Nat.mul_one];have d:val W<val v*w+val v:=Om;have hN:NH (v.length+1) (val W) (val v*w+val v)=rd+4294967296 ^ (m+3)-val v:=by unfold NH; rw[if_pos d,u]; omega
  rw[hN];have w1:IntKind.u64.wrap (((w+1:Nat):Int)-1)=((w:Nat):Int):=by rw[wrap_u64 Om Om]; omega
  simp only[go_sem,d,EI,U,w1,EJ,h9,E,B,e1,e3,c3,c4,e4,y];have Θ:val (eA (v.length+1) (rd+4294967296 ^ (m+3)-val v))=rd+4294967296 ^ (m+3)-val v:=oZ (by rw[u]; omega);refine lF (D.restore A (eA (v.length+1) (rd+4294967296 ^ (m+3)-val v)) Z v o (mV _ _) hv (lM _ _) Om) rfl (PH.aK a_ Sq) ?_;rintro rr H' ⟨rfl,rfl⟩ -;rw[PH.tP,PH.set_set,Θ];have J:eA (v.length+1) (rd+4294967296 ^ (m+3)-val v+val v)=eA (m+3) rd:=by rw[u,← Lu (m+3) (rd+4294967296 ^ (m+3)-val v+val v)];rw[show rd+4294967296 ^ (m+3)-val v+val v=rd+4294967296 ^ (m+3) by omega,Nat.add_mod_right,Lu]
  rw[J];simp only[go_sem];have:=R;simp only[go_sem] at this;refine this _ _ ?_ ?_ ?_ ?_ ?_ ?_ ?_ ?_ ?_ ?_ ?_<;>simp only[go_sem,h8,h9,y,B,ε,ζ,η,E,X,θ]
open Go
section
variable {C:Ctx} {K:bT} {F:PF} {H Hs:PH} {S:Spec}
theorem Zm {name:Nat} {vs:List PV} {R:PV→PH→Prop} {args:List aQ} {st:Bool} {d:Option Nat} {K:PF→PH→Prop} (p:S name vs=some ([],fun _=>R)) (h:aH C name vs .nil R) (c:aQ.evs F args=some vs)
  (e:∀ G:PH,∃ r H',R r H'∧mH G .nil H') (u:∀ r H',R r H'→mH H .nil H'→Hs.le (H.over .nil H')∧K (F.put d r) (H.over .nil H')):dOp C Hs S st (.call name args) d K F H:=by
 refine⟨vs,[],fun _=>R,c,p,fun o w=>by simp at w,by rw[LZ]; exact h,fun G=>?_,fun r H' y c=>?_⟩
 ·obtain⟨r,H',i,l⟩:=e G;exact⟨r,H',i,fun o x A B=>l o x A (by simp[PH.nil])⟩
 ·rw[LZ] at c ⊢;exact u r H' y c
theorem PH.over_self (c:PH) (h:c.le H):H.over c c=H:=PH.ext fun q=>by
 rw[hZ];cases e:c q with
 | none=>rfl
 | some x=>exact (h q x e).symm
theorem ef {o:Nat} {x:cF} (h:H o=some x):H.only [o]=PH.nil.set o x:=PH.ext fun q=>by
 rw[sJ,aT];by_cases e:q=o
 ·subst e; simp[h]
 ·simp[e,WG]
theorem ba {name o:Nat} {x:cF} {vs:List PV} {v:PV} {R:PH→PV→PH→Prop} {args:List aQ} {st:Bool} {d:Option Nat} {K:PF→PH→Prop} (B:S name vs=some ([o],R)) (w:H o=some x)
  (h:aH C name vs (PH.nil.set o x) (fun r H'=>r=v∧H'=PH.nil.set o x)) (c:R (PH.nil.set o x) v (PH.nil.set o x)) (l:∀ r H',R (PH.nil.set o x) r H'→r=v∧H'=PH.nil.set o x) (E:aQ.evs F args=some vs) (p:Hs.le H) (J:K (F.put d v) H) :
  dOp C Hs S st (.call name args) d K F H:=by
 have e:=ef w;refine⟨vs,[o],_,E,B,fun q A=>?_,?_,fun G=>⟨v,_,by rw[e]; exact c,fun q y M u=>?_⟩,fun r H' i _=>?_⟩
 ·simp at A; subst A; exact⟨x,w⟩
 ·rw[e];exact h.post fun r H' i=>⟨r,.refl _,by rw[i.1,i.2]; exact c⟩
 ·rw[e] at u; rw[M] at u; cases u
 ·rw[e] at i;obtain⟨rfl,rfl⟩:=l r H' i;rw[e,PH.over_self _ (by rw[← e]; exact WP H [o])];exact⟨p,J⟩
theorem Yz {c:aC} {α:Type} (d:α→PF) (Hs:α→PH) (e:α→Prop) (m:α→Nat) (i:α) (o:Nat) {s:Nat} {rs:List (List PV)} (x:H o=some (.rows s rs)) (l:e i) (p:(d i).le (F.frz o s rs)) (u:(Hs i).le (H.frz o s rs))
  (w:∀ a,e a→c.wp C (fR d Hs e m (m a) K) (d a) (Hs a)):aC.wp C (.loop c) K F H :=
 ⟨α,d,Hs,e,m,i,_,_,.step o x (.refl _ _),l,p,u,w⟩
@[go_sem] theorem uR (o s:Nat) (rs:List (List PV)) (q:Nat):(H.frz o s rs) q=if q=o then none else (H q).map (cF.frz o s rs):=(rfl)
theorem auZ {t u o1 o2 s1 s2 k1 k2:Nat} {rs1 rs2:List (List PV)} {R:PV→PH→Prop} {e:kW} (N:e=.normal∨e=.ret) (d:o1≠o2) (E:F t=some (.osl o1 s1 0 k1)) (J:F u=some (.osl o2 s2 0 k2)) (i:H o1=some (.rows s1 rs1)) (l:H o2=some (.rows s2 rs2))
  (O:k1≤rs1.length) (Q:k2≤rs2.length) (p:rs2.map (fun r=>r.map (PV.dK o1 s1 rs1))=rs2) (U:(rs1.take k1)=rs1.take k1) (M:R (.tup [.sl s1 (rs1.take k1),.sl s2 (rs2.take k2)]) .nil):aR [.tmp t,.tmp u] R e F H:=by
 have x:∃ vs,dS.evs F H [.tmp t,.tmp u]=some vs∧∃ y A H2,jJ (PF.nil.set 0 (bL vs)) H y A∧H2.le A∧∃ w,y 0=some w∧R w H2:=by
  have c:o2≠o1:=fun h=>d h.symm;have B:(H.frz o1 s1 rs1) o2=some (.rows s2 rs2):=by rw[uR,if_neg c,l]; simp only[aZZ,cF.frz,p]
  refine⟨[.osl o1 s1 0 k1,.osl o2 s2 0 k2],by rw[kS,nP,E,kS,nP,J,oX],_,_,.nil,.step o1 i (.step o2 B (.refl _ _)),a_,_,?_,M⟩;have a1:0+k1≤rs1.length:=Om;have a2:0+k2≤rs2.length:=Om;simp only[PF.frz,kM,if_true,bL,aZZ,PV.frz,PV.tC,PV.dK,a0D,a0X,true_and,if_pos a1,if_pos a2,a0B,if_neg c]
 rcases N with rfl | rfl<;>exact x
end
end Go.PM
namespace Go.Na
structure pL (U0 V n lu lq:Nat) (k:Nat) (U Q:List Nat):Prop where
 lu':U.length=lu
 lq':Q.length=lq
 limU:Lim U
 limQ:Lim Q
 v:val U+val Q*V=U0
 r:val (U.drop k)<V
 z:∀ i x,i<k→Q[i]?=some x→x=0
theorem Lw {J V n H u j:Nat} {U Q:List Nat} (h:pL J V n H u (j+1) U Q) (hV:V<4294967296 ^ n) (hj:j<u) (hl:H=u+n) :
  val ((U.drop j).take (n+1))<V*4294967296∧pL J V n H u j (U.take j++eA (n+1) (val ((U.drop j).take (n+1))%V)++U.drop (j+(n+1))) (Q.set j (val ((U.drop j).take (n+1))/V)):=by
 have S:=h.lu';have E:=h.lq';have c:0<V:=by have:=h.r; omega
 have e:j<U.length:=Om;have X:val (U.drop j)=U[j]+4294967296*val (U.drop (j+1)):=by rw[a0O e]; rfl
 have O:=h.limU _ (aYQ e);have hlt:val (U.drop j)<V*4294967296:=by have:=h.r; omega
 have B:((U.drop j).take (n+1)).length=n+1:=by rw[aZH,a0R]; omega
 have K:val (U.drop j)=val ((U.drop j).take (n+1))+4294967296 ^ (n+1)*val (U.drop (j+(n+1))):=by
  conv=>lhs; rw[← a1N (n+1) (U.drop j),gJ,B,List.drop_drop]
 have M:4294967296 ^ (n+1)=4294967296 ^ n*4294967296:=a0L _ _;have R:V*4294967296≤4294967296 ^ n*4294967296:=aZY _ (Nat.le_of_lt hV);have y:val (U.drop (j+(n+1)))=0:=by
  rcases a1B (val (U.drop (j+(n+1)))) with h0 | h0
  ·exact h0
  ·have:=a1F (4294967296 ^ (n+1)) h0;omega
 rw[y,Nat.mul_zero,a0S] at K;generalize hW:val ((U.drop j).take (n+1))=W at *
 have Y:val U=val (U.take j)+4294967296 ^ j*W:=by
  conv=>lhs; rw[← a1N j U,gJ,aZH,a1E Om,K]
 have p:W%V<V:=a0I _ c;have A:V*(W/V)+W%V=W:=a2H _ _;have F:W/V<4294967296:=by rw[a1T c,aZT]; omega
 have hD:val (eA (n+1) (W%V))=W%V:=oZ Om;have w:Q[j]=0:=h.z j _ Om (aZA Om);have d:=HD (Om:j<Q.length) (W/V);rw[w,Nat.mul_zero,a0S] at d;have l:(U.take j).length=j:=by rw[aZH]; omega
 refine⟨by omega,?_,?_,?_,?_,?_,?_,?_⟩
 ·simp only[aYU,lM,a0R,aZH]; omega
 ·rw[a0W]; exact E
 ·exact ((h.limU.take j).app (mV _ _)).app (h.limU.drop _)
 ·exact h.limQ.set _ F
 ·rw[a0A,gJ,gJ,l,hD,lM,y,Nat.mul_zero,a0S,d];have:=h.v;have h5:(val Q+4294967296 ^ j*(W/V))*V=val Q*V+4294967296 ^ j*(V*(W/V)):=by rw[aZX,aZP,aZT (W/V) V]
  have Z:4294967296 ^ j*W=4294967296 ^ j*(V*(W/V))+4294967296 ^ j*(W%V):=by rw[← aZE,A]
  omega
 ·rw[a0A,List.drop_append_of_le_length Om,a2L Om,a2G,gJ,hD,y,Nat.mul_zero,a0S];exact p
 ·intro i x hi N;rw[List.getElem?_set_ne Om] at N;exact h.z i x Om N
end Go.Na
namespace Go.PM
open Go Go.Na
def dI (u v:PV) (n:Nat) (q:PV) (top next s:Nat) (j:Int):PF:=((((((((PF.nil.set 8 (.int .u64 s)).set 9 (u)).set 10 (v)).set 11 (.int .i64 n)).set 12 (q)).set 13 (.int .u64 top)).set 14 (.int .u64 next)).set 15 (.int .i64 j))
theorem sG (o s:Nat) (rs:List (List PV)) (L:List Nat):(aL L).map (fun r=>r.map (PV.dK o s rs))=aL L:=by
 unfold aL;rw[List.map_map];rfl
theorem Rz {C:Ctx} (D:I6 C) (S m p e o o2 i s:Nat) (v c:List Nat) (h2:o2≠o) (h3:i≠o) (h4:i≠o2) (hv:Lim v) (M:v.length=m+2) (ψ:(aL c).take (m+2)=aL v) (ω:m+2≤c.length) (ht:2147483648≤v[m+1])
  (χ:p=e+(m+2)) (N:p≤10000) (U:List Nat) (x:pL S (val v) (m+2) p e e U (aYR e 0)) (K:bT) (F:PF) (H:PH)
  (w:(dI (.osl o 1 0 p) (.osl o2 1 0 (m+2)) (m+2) (.osl i 1 0 e) (v[m+1]) (v[m]) s ((e:Int)-1)).le F) (hH:H o=some (.rows 1 (aL U))) (ι:H o2=some (.rows 1 (aL c))) (θ:H i=some (.rows 1 (aL (aYR e 0))))
  (hK:∀ U' Q' R,pL S (val v) (m+2) p e 0 U' Q'→(dI (.osl o 1 0 p) (aJ v) (m+2) (.osl i 1 0 e) (v[m+1]) (v[m]) s (-1)).le R→K .normal R ((PH.nil.set o (.rows 1 (aL U'))).set i (.rows 1 (aL Q')))) :
  aC.wp C (.block 2 (.loop EA)) K F H:=by
 have f8:=w 8 _ (by unfold dI; simp only[go_sem]; rfl);have f9:=w 9 _ (by unfold dI; simp only[go_sem]; rfl);have W:=w 10 _ (by unfold dI; simp only[go_sem]; rfl);have f11:=w 11 _ (by unfold dI; simp only[go_sem]; rfl);have X:=w 12 _ (by unfold dI; simp only[go_sem]; rfl);have f13:=w 13 _ (by unfold dI; simp only[go_sem]; rfl);have f14:=w 14 _ (by unfold dI; simp only[go_sem]; rfl);have Y:=w 15 _ (by unfold dI; simp only[go_sem]; rfl);have y:¬ o=o2:=fun h=>h2 h.symm;have A:¬ i=o2:=h4;have O:¬ o=i:=fun h=>h3 h.symm;have ρ:∀ (k:IntKind) (n:Int),PV.frz o2 1 (aL c) (.int k n)=.int k n:=fun _ _=>rfl;have τ:∀ l,PV.frz o2 1 (aL c) (.osl o 1 0 l)=.osl o 1 0 l:=fun l=>by simp only[PV.frz,PV.tC,PV.dK,if_neg y]
 have σ:∀ l,PV.frz o2 1 (aL c) (.osl i 1 0 l)=.osl i 1 0 l:=fun l=>by simp only[PV.frz,PV.tC,PV.dK,if_neg A]
 have υ:PV.frz o2 1 (aL c) (.osl o2 1 0 (m+2))=aJ v:=by
  have:0+(m+2)≤(aL c).length:=by rw[cC]; omega
  simp only[PV.frz,PV.tC,PV.dK,if_true,true_and,if_pos this,a0B,ψ]
 simp only[go_sem];refine Yz (α:=Nat × List Nat × List Nat) (fun t=>dI (.osl o 1 0 p) (aJ v) (m+2) (.osl i 1 0 e) (v[m+1]) (v[m]) s ((t.1:Int)-1)) (fun t=>(PH.nil.set o (.rows 1 (aL t.2.1))).set i (.rows 1 (aL t.2.2)))
  (fun t=>t.1≤e∧pL S (val v) (m+2) p e t.1 t.2.1 t.2.2) (fun t=>t.1) (e,U,aYR e 0) o2 ι ⟨aYV _,x⟩ ?_ ?_ ?_
 ·unfold dI;refine d_ (d_ (d_ (d_ (d_ (d_ (d_ (d_ c_ ?_) ?_) ?_) ?_) ?_) ?_) ?_) ?_<;>simp only[go_sem,f8,f9,W,f11,X,f13,f14,Y,ρ,τ,σ,υ]
 ·refine PH.aK (PH.aK a_ ?_) ?_
  ·simp only[go_sem,y,hH,cF.frz,sG]
  ·simp only[go_sem,A,θ,cF.frz,sG]
 rintro⟨k,U,Q⟩ ⟨hk,x⟩;simp only at hk x;simp only[go_sem,EA,XW,dI];by_cases h0:0<k
 ·obtain⟨j,rfl⟩:∃ j,k=j+1:=⟨k-1,by omega⟩;have hz:((j+1:Nat):Int)-1=(j:Int):=Om;have φ:(j:Int)≥0:=Om;have J:val v<4294967296 ^ (m+2):=by have:=eX hv; rw[M] at this; exact this
  obtain⟨hlt,κ⟩:=Lw x J Om χ;have ν:=x.lu';have μ:=x.lq';have hA:(U.take j).length=j:=by rw[aZH]; omega
  have ξ:((U.drop j).take (m+3)).length=m+3:=by rw[aZH,a0R]; omega
  have u:U.take j++(U.drop j).take (m+3)++U.drop (j+(m+3))=U:=by rw[a0A,← List.drop_drop,a1N,a1N]
  have ο:(U.drop (j+(m+3))).length=p-(j+(m+3)):=by rw[a0R,ν]
  have B:=Iu (C:=C) D (U.take j) ((U.drop j).take (m+3)) (U.drop (j+(m+3))) v Q m o i p s h3 ((x.limU.drop _).take _) hv M ξ ht hlt (by rw[hA,ο]; omega) N (by rw[hA]; omega);rw[hA,u,μ] at B;have V:IntKind.i64.wrap ((j:Int)-1)=(j:Int)-1:=wrap_i64 Om Om;simp only[go_sem,hz,φ];simp only[go_sem] at B;refine B _ _ _ ?_ (by simp only[go_sem,O]) Sq ?_
  ·unfold dF;exact Lq
  ·intro R H' d η E;have g8:=d 8 _ (by unfold dF; simp only[go_sem]; rfl);have g9:=d 9 _ (by unfold dF; simp only[go_sem]; rfl);have Z:=d 10 _ (by unfold dF; simp only[go_sem]; rfl);have β:=d 11 _ (by unfold dF; simp only[go_sem]; rfl);have γ:=d 12 _ (by unfold dF; simp only[go_sem]; rfl);have δ:=d 13 _ (by unfold dF; simp only[go_sem]; rfl);have ε:=d 14 _ (by unfold dF; simp only[go_sem]; rfl);have ζ:=d 15 _ (by unfold dF; simp only[go_sem]; rfl);simp only[go_sem,XZ,ζ,V];refine aD (j,_,_) ⟨by simp only; omega,κ⟩ (by simp only; omega) ?_ (PH.aK (PH.aK a_ η) E);refine d_ (d_ (d_ (d_ (d_ (d_ (d_ (d_ c_ ?_) ?_) ?_) ?_) ?_) ?_) ?_) ?_<;>simp only[go_sem,g8,g9,Z,β,γ,δ,ε]
 ·have:k=0:=Om;subst this;have hz:¬ ((0:Nat):Int)-1≥0:=by decide
  simp only[go_sem,hz];refine hK U Q _ x ?_;unfold dI
  (repeat' (first|exact c_|refine d_ ?_ ?_))<;>first|(simp only[go_sem,show ((0:Nat):Int)-1=-1 from rfl]<;>rfl)|rfl
open Go Go.Na
def rFr (o d e c or n s i:Nat):PF:=((((((PF.nil.set 8 (.int .u64 s)).set 9 (.osl o 1 0 d)).set 12 (.osl e 1 0 c)).set 19 (.osl or 1 0 n)).set 166 (.int .i64 n)).set 167 (.int .i64 i))
theorem aPC {x s:Nat} (c:s≤64):shift .shr .u64 (x:Int) (s:Int)=some (.int .u64 ((x/2 ^ s:Nat):Int)):=by
 unfold shift;rw[if_neg Om];simp only;have:min (Int.toNat (s:Int)) IntKind.u64.bits=s:=by rw[show IntKind.u64.bits=64 from rfl]; omega
 rw[this,Int.fdiv_eq_ediv_of_nonneg _ (by exact_mod_cast aYS _)]
 norm_cast
theorem R0 {C:Ctx} (o l c lq n s:Nat) (U Q:List Nat) (hs:s<32) (h3:c≠o) (W:Lim U) (hl:U.length=l) (hn:n<l) (β:l≤10000) (K:bT) (F:PF)
  (f8:F 8=some (.int .u64 s)) (f9:F 9=some (.osl o 1 0 l)) (f11:F 11=some (.int .i64 n)) (γ:F 12=some (.osl c 1 0 lq))
  (hK:∀ or F' H',or≠o→or≠c→(rFr o l c lq or n s n).le F'→H' c=some (.rows 1 (aL Q))→H' or=some (.rows 1 (aL (eA n (val U/2 ^ s))))→K .normal F' H') :
  aC.wp C (.seq (.region EK) (.seq (.region EL) (.block 6 (.loop EB)))) K F ((PH.nil.set o (.rows 1 (aL U))).set c (.rows 1 (aL Q))):=by
 have Y:((n:Nat):Int)*((4:Nat):Int)≤140737488355328:=Om;have Z:((n:Nat):Int)≤9223372036854775807:=Om;have hz:aYR n [PV.int .u32 0]=aL ([]++aYR n 0):=by simp[aL]
 simp only[go_sem,EK,f11,Y,Z,hz];refine aN fun or J=>?_;have n1:¬ or=c:=(jD.1 J).1;have n2:¬ or=o:=(jD.1 (jD.1 J).2).1;have u:¬ c=or:=fun h=>n1 h.symm;have w:¬ o=or:=fun h=>n2 h.symm;have n3:¬ c=o:=h3;have y:¬ o=c:=fun h=>n3 h.symm;simp only[go_sem,EL];refine wp_loop (α:=List Nat) (fun P=>rFr o l c lq or n s P.length) (fun P=>((PH.nil.set o (.rows 1 (aL U))).set c (.rows 1 (aL Q))).set or (.rows 1 (aL (P++aYR (n-P.length) 0)))) (fun P=>P.length≤n∧P=eA P.length (val U/2 ^ s)) (fun P=>n-P.length) []
  ⟨by simp,rfl⟩ ?_ ?_ ?_
 ·unfold rFr;exact Lq
 ·refine PH.aK (PH.aK (PH.aK a_ ?_) ?_) ?_<;>simp only[go_sem,n1,u,n2,w,n3,y,a1H]
 rintro P ⟨hP,hD⟩;simp only[go_sem,EB,YA,rFr];by_cases c1:P.length<n
 ·have i:(P.length:Int)<(n:Nat):=Om;obtain⟨k,hk⟩:∃ k,n-P.length=k+1:=⟨n-P.length-1,by omega⟩;have X:(aL (P++aYR (k+1) 0))[P.length]?=some [.int .u32 ((0:Nat):Int)]:=by rw[bX _ (by simp)]; simp
  have O:P.length<U.length:=Om;have a1:P.length+1<U.length:=Om;have b0:(P.length:Int)<(l:Nat):=Om;have b1:((P.length+1:Nat):Int)<(l:Nat):=Om;have δ:=W _ (aYQ O);have ε:=W _ (aYQ a1);have e:val U/4294967296 ^ P.length=U[P.length]+4294967296*(U[P.length+1]+4294967296*val (U.drop (P.length+2))):=by rw[← vI W Om,a0O O,a0O a1];rfl
  have H:=ZE hs e;have g0:=bX U O;have g1:=bX U a1;generalize ζ:U[P.length]=p at *
  generalize η:U[P.length+1]=d at *
  have e1:IntKind.i64.wrap ((P.length:Int)+1)=((P.length+1:Nat):Int):=dC Om;have S:IntKind.u64.wrap ((p:Nat):Int)=((p:Nat):Int):=bF Om;have V:IntKind.u64.wrap ((d:Nat):Int)=((d:Nat):Int):=bF Om;have B:shift .shl .u64 (d:Int) 32=some (.int .u64 ((2 ^ 32*d:Nat):Int)):=NE (s:=32) Om Om;have R:(2:Nat) ^ 32=4294967296:=by decide
  have A:=orI (a:=2 ^ 32*d) (b:=p) (n:=2 ^ 32*d+p) Om Om (Nat.two_pow_add_eq_or_of_lt Om d).symm Om;rw[R] at B A;have E:=aPC (x:=4294967296*d+p) (s:=s) Om;have N:(aL (P++aYR (k+1) 0)).set P.length [.int .u32 (((4294967296*d+p)/2 ^ s%4294967296:Nat):Int)]=aL ((P++[(4294967296*d+p)/2 ^ s%4294967296])++aYR k 0):=by rw[fV,zR]
  simp only[go_sem,i,YB];refine bO .nil dT a_ ?_;simp only[go_sem,YC,i,e1,b0,b1,w,y,g0,g1,S,V,B,A,E,cO,hk,X,N];refine⟨a_,?_⟩;simp only[go_sem,YD,e1];refine aD (P++[(4294967296*d+p)/2 ^ s%4294967296]) ⟨by simp; omega,?_⟩ (by simp; omega) ?_ (PH.aK (PH.aK (PH.aK a_ ?_) ?_) ?_)
  ·rw[aYU,aZB,wI,← hD,H]
  ·rw[aYU,aZB];exact Lq
  ·simp only[go_sem,w,y]
  ·simp only[go_sem,u]
  ·rw[aYU,aZB,show n-(P.length+1)=k by omega];simp only[go_sem]
 ·have e:P.length=n:=Om;have i:¬ (P.length:Int)<(n:Nat):=Om;have M:aYR (n-P.length) 0=[]:=by rw[show n-P.length=0 by omega]; rfl
  rw[e] at hD;simp only[go_sem,i,M,a0M];refine hK or _ _ n2 n1 ?_ (by simp only[go_sem,u]) (by simp only[go_sem]; rw[← hD]);unfold rFr;rw[e];exact Lq
structure Jy (C:Ctx):Prop where
 L:rJ C
 D:I6 C
 up:∀ (a:List Nat) (s:Nat),Lim a→s<32→a.length≤1000→aH C 143 [aJ a,.int .u64 s] .nil (upR a s)
 short:∀ (a:List Nat) (d:Nat),Lim a→0<d→d<4294967296→a.length≤1000→aH C 140 [aJ a,.int .u32 d] .nil (aF (.tup [aJ (aI (val a/d)),.int .u32 ((val a%d:Nat):Int)]))
 lengthO:∀ (xs:List Nat) (o:Nat),Lim xs→xs.length≤35184372087808→aH C 138 [.osl o 1 0 xs.length] (PH.nil.set o (.rows 1 (aL xs))) (fun r H'=>r=.int .i64 (nl (val xs):Nat)∧H'=PH.nil.set o (.rows 1 (aL xs)))
def azN:Spec:=fun name vs=>match name,vs with
 | 143,[x,.int _ s]=>some ([],fun _=>upR (jK x) s.toNat)
 | 138,[.osl q _ _ _]=>some ([q],fun c r H'=>H'=c∧∀ xs,Lim xs→c q=some (.rows 1 (aL xs))→r=.int .i64 (nl (val xs):Nat))
 | _,_=>none
theorem Zn (a:List Nat) (s:Nat):azN 143 [aJ a,.int .u64 s]=some ([],fun _=>upR a s):=by
 show some _=_; rw[eO,a0J]
theorem Vs (a:List Nat) (s:Nat):∀ G:PH,∃ r H',upR a s r H'∧mH G .nil H':=fun G=>by
 obtain⟨o,d⟩:=G.fresh;refine⟨_,_,⟨o,rfl,rfl⟩,fun q x c _=>?_⟩;rw[aT] at c;split at c
 ·rename_i e; subst e; exact d
 ·cases c
theorem SU {xs ys:List Nat} (h:aL xs=aL ys):xs=ys:=by
 have:=congrArg jK (show aJ xs=aJ ys by show PV.sl 1 (aL xs)=PV.sl 1 (aL ys); rw[h])
 rwa [eO,eO] at this
theorem Ei (q:Nat) (L:List Nat):(PH.nil.set q (.rows 1 (aL L)))=(PH.nil.set q (.rows 1 (aL L)))∧∀ xs,Lim xs→(PH.nil.set q (.rows 1 (aL L))) q=some (.rows 1 (aL xs))→(PV.int .i64 (nl (val L):Nat))=.int .i64 (nl (val xs):Nat):=by
 refine⟨rfl,fun xs c e=>?_⟩;rw[cR] at e;have:aL L=aL xs:=(cF.rows.inj (a0Y.inj e)).2;rw[SU this]
def qX (A B:Nat):PV:=.tup [aJ (aI (A/B)),aJ (aI (A%B))]
def anR (a b:List Nat) (s:Nat):PF:=(((PF.nil.set 0 (aJ a)).set 1 (aJ b)).set 8 (.int .u64 s))
theorem aLL {x s:Nat} (c:s≤31) (h:x*2 ^ s<4294967296):shift .shl .u32 (x:Int) (s:Int)=some (.int .u32 ((x*2 ^ s:Nat):Int)):=by
 unfold shift;rw[if_neg Om];simp only;have:min (Int.toNat (s:Int)) IntKind.u32.bits=s:=by rw[show IntKind.u32.bits=32 from rfl]; omega
 rw[this,show (x:Int)*2 ^ s=((x*2 ^ s:Nat):Int) by simp,cO,a0E h]
theorem W5 {n i x:Nat} (c:(aYR n 0)[i]?=some x):x=0:=by
 have:=a1C c;rw[List.mem_replicate] at this;exact this.2
theorem anT {C:Ctx} (F:Jy C) (A B:Nat) (hB:B≠0) (hA:nl A≤900) (i':nl B≤900) :
  AU.wp C (aR xj.res (cA (qX A B))) (PF.args [aJ (aI A),aJ (aI B)]) .nil:=by
 have LA:=aV A;have Y:=aV B;have vA:=aS A;have vB:=aS B;have lA:(aI A).length=nl A:=rfl;have lB:(aI B).length=nl B:=rfl;simp only[go_sem,AU,nr,nt,xj];refine aA (F.L.cmp _ _ LA Y Om Om) rfl ?_;rw[vA,vB];by_cases c1:A<B
 ·have hc:dJ A B<0:=by simp[dJ,c1]
  simp only[go_sem,hc,nu];refine aA (F.L.trim _ LA Om) rfl ?_;rw[vA];simp only[go_sem];refine aZ (vs:=[.aB,aJ (aI A)]) (.inr rfl) .nil rfl a_ ⟨?_,rfl⟩;rw[qX,a2I c1,a0E c1,dW];refine .tup rfl fun j p q hp hq=>?_
  match j with
  | 0=>simp at hp hq; subst hp; subst hq; exact .nil 1
  | 1=>simp at hp hq; subst hp; subst hq; exact .refl _
  | j+2=>simp at hp
 have hc:¬ dJ A B<0:=by unfold dJ;rw[if_neg c1];split<;>decide
 have Q:0<B:=a1G hB;have l':nl B≠0:=fun h=>hB (gU.1 h);simp only[go_sem,hc,nv];by_cases c2:nl B=1
 ·have γ:B<4294967296:=by have:=(hC B 1).1 Om; simpa using this
  have Ξ:aI B=[B]:=oV hB γ;have X:A%B<B:=a0I _ Q;have ew:IntKind.u64.wrap ((A%B:Nat):Int)=((A%B:Nat):Int):=bF Om;rw[Ξ];have ξ:=F.short (aI A) B LA Q γ Om;rw[vA] at ξ;simp only[go_sem,show (((1:Nat):Int)==1)=true from rfl,nw];refine aA ξ rfl ?_;simp only[go_sem,ny,ew];refine aA (F.L.make (A%B) Om) rfl ?_;simp only[go_sem];exact aZ (vs:=[aJ (aI (A/B)),aJ (aI (A%B))]) (.inr rfl) .nil rfl a_ ⟨.refl _,rfl⟩
 obtain⟨m,hm⟩:∃ m,nl B=m+2:=⟨nl B-2,by omega⟩;have h':nl B≤nl A:=fQ Om;obtain⟨bt,u,e'⟩:=Us Y (n:=m+1) (by rw[vB]; exact hm);have K:m+1<(aI B).length:=Om;have ι:bt<4294967296:=Y bt (a1C u);have j':B=val ((aI B).take (m+1))+4294967296 ^ (m+1)*bt:=by have e:=cH (aI B) K;rw[aZJ Om,vB] at e;rw[aZA K] at u;rw[a0Y.inj u] at e;exact e
 have S:=eX (Y.take (m+1));rw[aZH,a1E Om] at S;have ν:(aL (aI B))[m+1]?=some [.int .u32 ((bt:Nat):Int)]:=by rw[bX _ K];rw[aZA K] at u;rw[a0Y.inj u]
 have i1:IntKind.i64.wrap ((((aI B).length:Nat):Int)-1)=((m+1:Nat):Int):=by rw[wrap_i64 Om Om]; omega
 have κ:¬ (((aI B).length:Nat):Int)=1:=Om;simp only[go_sem,bD κ,nz];refine wp_loop (α:=Nat) (fun s=>anR (aI A) (aI B) s) (fun _=>.nil) (fun s=>s≤31∧bt*2 ^ s<4294967296) (fun s=>32-s) 0 ⟨by omega,by simpa using ι⟩ ?_ a_ ?_
 ·unfold anR;exact Lq
 rintro s ⟨hs,Θ⟩;have υ:=aLL hs Θ;simp only[go_sem,np,n0,anR,i1,ν,υ];refine azD ?_ ?_
 ·intro c3;have τ:=of_decide_eq_true c3;have f':s<31:=by
   rcases aZL s 31 with h | h
   ·exact h
   ·exfalso;have e:2147483648≤2 ^ s:=a1P (show 0<2 by decide) h;have H:1*2 ^ s≤bt*2 ^ s:=aZY _ Om;omega
  have es:IntKind.u64.wrap ((s:Int)+1)=((s+1:Nat):Int):=by rw[wrap_u64 Om Om]; omega
  simp only[go_sem,n6,es];refine aD (s+1) ⟨by omega,by rw[a0L,← aZP]; omega⟩ Om ?_ a_;exact Lq
 intro c3;have τ:=of_decide_eq_false c3;have y:s<32:=Om;have w:0<2 ^ s:=a1K (by decide);have O:2147483648*4294967296 ^ (m+1)≤B*2 ^ s:=by
  have e:2147483648*4294967296 ^ (m+1)≤(bt*2 ^ s)*4294967296 ^ (m+1):=aZY _ Om;have H:(4294967296 ^ (m+1)*bt)*2 ^ s≤B*2 ^ s:=aZY _ Om;have h3:(4294967296 ^ (m+1)*bt)*2 ^ s=(bt*2 ^ s)*4294967296 ^ (m+1):=by rw[aZP,aZT]
  omega
 have θ:B*2 ^ s<4294967296 ^ (m+2):=by
  have h0:(bt+1)*2 ^ s≤4294967296:=by
   have g':(4294967296:Nat)=2 ^ (32-s)*2 ^ s:=by rw[← Nat.pow_add,show 32-s+s=32 by omega]
   have:bt<2 ^ (32-s):=by
    rcases aZL bt (2 ^ (32-s)) with h | h
    ·exact h
    ·have:=aZY (2 ^ s) h;omega
   have:=aZY (2 ^ s) (show bt+1≤2 ^ (32-s) from this);omega
  have e:B<(bt+1)*4294967296 ^ (m+1):=by rw[aZX,Nat.one_mul,aZT bt]; omega
  have H:B*2 ^ s<(bt+1)*4294967296 ^ (m+1)*2 ^ s:=Nat.mul_lt_mul_of_pos_right e w;have h3:(bt+1)*4294967296 ^ (m+1)*2 ^ s=(bt+1)*2 ^ s*4294967296 ^ (m+1):=Nat.mul_right_comm _ _ _;have h4:(bt+1)*2 ^ s*4294967296 ^ (m+1)≤4294967296*4294967296 ^ (m+1):=aZY _ h0;have h5:4294967296 ^ (m+2)=4294967296*4294967296 ^ (m+1):=by rw[a0L,aZT]
  omega
 have N:A<4294967296 ^ nl A:=(hC A _).1 (aYV _);simp only[go_sem];refine bO .nil azN a_ ?_;simp only[go_sem,XR];have ua:=F.up (aI A) s LA y Om;have ub:=F.up (aI B) s Y y Om;refine Zm (Zn (aI A) s) ua rfl (Vs _ _) ?_;rintro r H' ⟨o,rfl,rfl⟩ -;rw[PH.pU,lA,vA];refine⟨a_,?_⟩;simp only[go_sem];refine Zm (Zn (aI B) s) ub rfl (Vs _ _) ?_;rintro r H' ⟨o2,rfl,rfl⟩ Δ;rw[PH.pU,lB,vB,hm];refine⟨a_,?_⟩;have Λ:=Δ o2 _ (by rw[aT,if_pos rfl]) (by rfl);have ρ:¬ o2=o:=(jD.1 Λ).1;have c':¬ o=o2:=fun h=>ρ h.symm;have k1:((m+2:Nat):Int)≤((m+2+1:Nat):Int):=Om;have k2:IntKind.i64.wrap (((nl A+1:Nat):Int)-((m+2:Nat):Int))=((nl A+1-(m+2):Nat):Int):=by rw[wrap_i64 Om Om]; omega
 obtain⟨c,Φ⟩:∃ c,nl A+1-(m+2)=c:=⟨_,rfl⟩;have Ψ:nl A+1=c+(m+2):=Om;rw[Φ] at k2;have k3:((c:Nat):Int)*((4:Nat):Int)≤140737488355328:=Om;have k4:((c:Nat):Int)≤9223372036854775807:=Om;have hz:aYR c [PV.int .u32 0]=aL (aYR c 0):=by simp[aL]
 have k5:m+2-0=m+2:=Om;simp only[go_sem,lB,hm,k1,k5,XS,XT,k2,k3,k4,hz];refine aN fun E μ=>?_;have q2:¬ E=o2:=(jD.1 μ).1;have q1:¬ E=o:=(jD.1 (jD.1 μ).2).1;have σ:¬ o2=E:=fun h=>q2 h.symm;have d':¬ o=E:=fun h=>q1 h.symm;have Ω:eA (m+2+1) (B*2 ^ s)=eA (m+2) (B*2 ^ s)++[B*2 ^ s/4294967296 ^ (m+2)%4294967296]:=wI _ _;have Lv:=mV (m+2) (B*2 ^ s);have lv:=lM (m+2) (B*2 ^ s);have vv:val (eA (m+2) (B*2 ^ s))=B*2 ^ s:=oZ θ;have ο:(aL (eA (m+2+1) (B*2 ^ s))).take (m+2)=aL (eA (m+2) (B*2 ^ s)):=by unfold aL;rw[← List.map_take,Ω,List.take_append_of_le_length Om,aZJ Om]
 generalize o':eA (m+2) (B*2 ^ s)=v at *
 have p':(eA (m+2+1) (B*2 ^ s)).length=m+2+1:=lM _ _;have M:∀ i (h:i<v.length),(aL (eA (m+2+1) (B*2 ^ s)))[i]?=some [.int .u32 ((v[i]:Nat):Int)]:=by intro i h;have e:(aL v)[i]?=some [.int .u32 ((v[i]:Nat):Int)]:=bX v h;rw[← ο,List.getElem?_take_of_lt Om] at e;exact e
 have g1:=M (m+1) Om;have g0:=M m Om;have htop:2147483648≤v[m+1]:=by
  have e:=cH v (Om:m+1<v.length);rw[aZJ Om,vv] at e;have H:=eX (Lv.take (m+1));rw[aZH,a1E Om] at H;rcases aZL v[m+1] 2147483648 with h | h
  ·exfalso;have h3:4294967296 ^ (m+1)*(v[m+1]+1)≤4294967296 ^ (m+1)*2147483648:=a1F _ h;rw[aZE,Nat.mul_one] at h3;rw[aZT 2147483648] at O;omega
  ·exact h
 have n':=Lv _ (aYQ (Om:m+1<v.length));have m':=Lv _ (aYQ (Om:m<v.length));have w1:IntKind.u64.wrap ((v[m+1]:Nat):Int)=((v[m+1]:Nat):Int):=bF Om;have w0:IntKind.u64.wrap ((v[m]:Nat):Int)=((v[m]:Nat):Int):=bF Om;have j1:IntKind.i64.wrap (((m+2:Nat):Int)-1)=((m+1:Nat):Int):=by rw[wrap_i64 Om Om]; omega
 have j0:IntKind.i64.wrap (((m+2:Nat):Int)-2)=((m:Nat):Int):=by rw[wrap_i64 Om Om]; omega
 have d1:((m+1:Nat):Int)<((m+2:Nat):Int):=Om;have d0:((m:Nat):Int)<((m+2:Nat):Int):=Om;have jq:IntKind.i64.wrap ((c:Int)-1)=(c:Int)-1:=wrap_i64 Om Om;simp only[go_sem];refine bO .nil dT a_ ?_;simp only[go_sem,XU,j1,j0,d1,d0,σ,g1,g0,w1,w0,XV,jq];have η:A*2 ^ s<4294967296 ^ (nl A+1):=by
  have h0:2 ^ s≤4294967296:=by have:(2:Nat) ^ s≤2 ^ 32:=a1P (by decide) Om;simpa using this
  have e:A*2 ^ s<4294967296 ^ nl A*2 ^ s:=Nat.mul_lt_mul_of_pos_right N w;have H:4294967296 ^ nl A*2 ^ s≤4294967296 ^ nl A*4294967296:=a1F _ h0;rw[a0L]; omega
 have LU:=mV (nl A+1) (A*2 ^ s);have lU:=lM (nl A+1) (A*2 ^ s);have vU:val (eA (nl A+1) (A*2 ^ s))=A*2 ^ s:=oZ η;have hI:pL (A*2 ^ s) (val v) (m+2) (nl A+1) c c (eA (nl A+1) (A*2 ^ s)) (aYR c 0):=by
  refine⟨lU,List.length_replicate,LU,wL _,by rw[vU,sO]; omega,?_,fun i x _ hx=>W5 hx⟩
  ·rw[vI LU Om,vU,vv,a1T (a1K (by decide))];have e:A*2 ^ s<4294967296 ^ nl A*2 ^ s:=Nat.mul_lt_mul_of_pos_right N w;have hx:nl A=m+1+c:=Om;have H:4294967296 ^ nl A=4294967296 ^ (m+1)*4294967296 ^ c:=by rw[hx,Nat.pow_add]
   have h3:2 ^ s≤2147483648:=by have:(2:Nat) ^ s≤2 ^ 31:=a1P (by decide) hs;simpa using this
   have h4:4294967296 ^ nl A*2 ^ s≤(2147483648*4294967296 ^ (m+1))*4294967296 ^ c:=by rw[H,aZT (4294967296 ^ (m+1)*4294967296 ^ c),← aZP];exact aZY _ (aZY _ h3)
   have h5:(2147483648*4294967296 ^ (m+1))*4294967296 ^ c≤B*2 ^ s*4294967296 ^ c:=aZY _ O;omega
 have W:=Rz (C:=C) F.D (A*2 ^ s) m (nl A+1) c o o2 E s v (eA (m+2+1) (B*2 ^ s)) ρ q1 q2 Lv lv ο Om htop Ψ Om _ hI;simp only[go_sem] at W;refine W _ _ _ ?_ (by simp only[go_sem,c',d']) (by simp only[go_sem,σ]) Sq ?_
 ·unfold dI;exact Lq
 clear W;intro U' l F' d J;have hu:val U'<val v:=by have:=d.r; rwa [a0B] at this
 have V:=d.v;rw[vv] at hu V;have Γ:0<B*2 ^ s:=Om;have ψ:val l=A/B:=by
  have:A*2 ^ s/(B*2 ^ s)=val l:=by rw[← V,Nat.add_mul_div_right _ _ Γ,a2I hu,aZM]
  rw[← this,Nat.mul_div_mul_right _ _ w]
 have ω:val U'/2 ^ s=A%B:=by
  have:A*2 ^ s%(B*2 ^ s)=val U':=by rw[← V,Nat.add_mul_mod_self_right,a0E hu]
  rw[← this,Nat.mul_mod_mul_right,Nat.mul_div_cancel _ w]
 have g8:=J 8 _ (by unfold dI; simp only[go_sem]; rfl);have g9:=J 9 _ (by unfold dI; simp only[go_sem]; rfl);have φ:=J 11 _ (by unfold dI; simp only[go_sem]; rfl);have χ:=J 12 _ (by unfold dI; simp only[go_sem]; rfl);have rest:=R0 (C:=C) o (nl A+1) E c (m+2) s U' l y q1 d.limU d.lu' Om Om;simp only[go_sem] at rest;simp only[go_sem];refine rest _ _ g8 g9 φ χ ?_;clear rest;intro or F2 H2 r1 r2 δ ε U;rw[ω] at U;have a':=δ 12 _ (by unfold rFr; simp only[go_sem]; rfl);have b':=δ 19 _ (by unfold rFr; simp only[go_sem]; rfl);have ζ:A%B<4294967296 ^ (m+2):=by have e:A%B<B:=a0I _ Q;have H:B<4294967296 ^ nl B:=(hC B _).1 (aYV _);rw[hm] at H; omega
 have LR:=mV (m+2) (A%B);have lR:=lM (m+2) (A%B);have vR:val (eA (m+2) (A%B))=A%B:=oZ ζ;have nQ:=fU d.limQ;have nR:=fU LR;have e1:=d.lq';generalize k':eA (m+2) (A%B)=R at *
 simp only[go_sem];refine bO .nil azN a_ ?_;simp only[go_sem,YE,a'];have Z:=F.lengthO l E d.limQ Om;rw[e1] at Z;have β:=F.lengthO R or LR Om;rw[lR] at β;refine ba (o:=E) (x:=.rows 1 (aL l)) (v:=.int .i64 (nl (val l):Nat)) rfl ε Z (Ei E l) (fun r H' X=>⟨X.2 l d.limQ (by rw[cR]),X.1⟩) rfl a_ ?_;have c4:((nl (val l):Nat):Int)≤(c:Nat):=Om;simp only[go_sem,c4,b',Nat.sub_zero];refine ba (o:=or) (x:=.rows 1 (aL R)) (v:=.int .i64 (nl (val R):Nat)) rfl U β (Ei or R) (fun r H' X=>⟨X.2 R LR (by rw[cR]),X.1⟩) rfl a_ ?_;have c5:((nl (val R):Nat):Int)≤((m+2:Nat):Int):=Om;simp only[go_sem,c5];refine auZ (o1:=E) (o2:=or) (s1:=1) (s2:=1) (k1:=nl (val l)) (k2:=nl (val R)) (rs1:=aL l) (rs2:=aL R) (.inr rfl) (fun h=>r2 h.symm) rfl rfl ε U (by rw[cC]; exact nQ) (by rw[cC]; exact nR) (sG _ _ _ _) rfl ⟨?_,rfl⟩;have t1:(aL l).take (nl (val l))=aL (aI (A/B)):=by have:=jN d.limQ;rw[ψ] at this ⊢;exact this
 have t2:(aL R).take (nl (val R))=aL (aI (A%B)):=by have:=jN LR;rw[vR] at this ⊢;exact this
 rw[t1,t2];exact .refl _
def aAX (a b:Nat):PF:=((PF.nil.set 0 (aJ (aI a))).set 1 (aJ (aI b)))
theorem aKK {C:Ctx} (L:rJ C) (c:∀ A B:Nat,B≠0→nl A≤900→nl B≤900→aH C 136 [aJ (aI A),aJ (aI B)] .nil (aF (qX A B))) (a b:List Nat) (p:Lim a) (u:Lim b) (E:a.length≤35184372087808) (F:b.length≤35184372087808) :
  SR.wp C (aR aCW.res (cA (if eG (val a) (val b) then .tup [aJ [],.int .i64 2] else .tup [aJ (aI (aYP (val a) (val b))),.int .i64 0]))) (PF.args [aJ a,aJ b]) .nil:=by
 simp only[go_sem,SR,aeG,aeH,aCW];refine aA (L.large a p E) rfl ?_;by_cases d:nl (val a)>512
 ·simp only[go_sem,d,xk];rw[if_pos (by simp[eG,d])];exact eZ rfl
 simp only[go_sem,d];refine aA (L.large b u F) rfl ?_;by_cases e:nl (val b)>512
 ·simp only[go_sem,e,xk];rw[if_pos (by simp[eG,e])];exact eZ rfl
 rw[if_neg (by simp[eG,d,e])];simp only[go_sem,e,aeI];refine aA (L.trim a p E) rfl ?_;simp only[go_sem];refine aA (L.trim b u F) rfl ?_;simp only[go_sem];refine wp_loop (α:=Nat × Nat) (fun t=>aAX t.1 t.2) (fun _=>.nil) (fun t=>aYP t.1 t.2=aYP (val a) (val b)∧nl t.1≤512∧nl t.2≤512) (fun t=>t.2) (val a,val b) ⟨rfl,by simp only; omega,by simp only; omega⟩ ?_ a_ ?_
 ·unfold aAX;exact Lq
 rintro⟨x,y⟩ ⟨l,H,w⟩;simp only at l H w;simp only[go_sem,aeF,aeJ,aAX,aW];by_cases i:y=0
 ·subst i;have:¬ ((nl 0:Nat):Int)>0:=by rw[zM]; decide
  simp only[go_sem,this,aeM];refine aZ (vs:=[aJ (aI x),.int .i64 0]) (.inr rfl) .nil rfl a_ ⟨?_,rfl⟩;rw[← l,Nat.gcd_zero_right];exact .refl _
 ·have J:nl y≠0:=fun h=>i (gU.1 h);have:((nl y:Nat):Int)>0:=Om;simp only[go_sem,this,aeK];refine aA (c x y i Om Om) rfl ?_;simp only[go_sem,qX,aeL];have hlt:x%y<y:=a0I _ (a1G i);refine aD (y,x%y) ⟨?_,w,?_⟩ hlt ?_ a_
  ·simp only;rw[← l,Nat.gcd_comm y,← Nat.gcd_rec y x,Nat.gcd_comm]
  ·have:=fQ (Nat.le_of_lt hlt);simp only; omega
  ·exact Lq
def nB (A B:Nat):PV:=if eG A B then .tup [aJ [],aJ [],.int .i64 2] else if B=0 then .tup [aJ [],aJ [],.int .i64 3] else .tup [aJ (aI (A/B)),aJ (aI (A%B)),.int .i64 0]
def anS:Spec:=fun name vs=>match name,vs with
 | 138,[x]=>some ([],fun _=>aF (.int .i64 (nl (val (jK x)):Nat)))
 | 136,[x,y]=>some ([],fun _=>aF (qX (val (jK x)) (val (jK y))))
 | _,_=>none
theorem SO (xs:List Nat):anS 138 [aJ xs]=some ([],fun _=>aF (.int .i64 (nl (val xs):Nat))):=by
 show some _=_; rw[eO]
theorem Ry (A B:Nat):anS 136 [aJ (aI A),aJ (aI B)]=some ([],fun _=>aF (qX A B)):=by
 show some _=_; rw[eO,eO,aS,aS]
theorem sI {res:List dS} {F:PF} {H:PH} {e:Int} (h:dS.evs F H res=some [.aB,.aB,.int .i64 e]):aR res (cA (.tup [aJ [],aJ [],.int .i64 e])) .ret F H:=by
 refine aZ (.inr rfl) .nil h a_ ⟨?_,rfl⟩;refine .tup rfl fun j p q c d=>?_
 match j with
 | 0=>simp at c d; subst c; subst d; exact .nil 1
 | 1=>simp at c d; subst c; subst d; exact .nil 1
 | 2=>simp at c d; subst c; subst d; exact .refl _
 | j+3=>simp at c
theorem aKG {C:Ctx} (L:rJ C) (i:∀ A B:Nat,B≠0→nl A≤900→nl B≤900→aH C 136 [aJ (aI A),aJ (aI B)] .nil (aF (qX A B))) (a b:List Nat) (p:Lim a) (e:Lim b) (y:a.length≤35184372087808) (x:b.length≤35184372087808) :
  SP.wp C (aR aCV.res (cA (nB (val a) (val b)))) (PF.args [aJ a,aJ b]) .nil:=by
 simp only[go_sem,SP,adZ,aeA,aCV];refine aA (L.large a p y) rfl ?_;by_cases c:nl (val a)>512
 ·simp only[go_sem,c,xi];rw[show nB (val a) (val b)=.tup [aJ [],aJ [],.int .i64 2] by simp[nB,eG,c]];exact sI rfl
 simp only[go_sem,c];refine aA (L.large b e x) rfl ?_;by_cases l:nl (val b)>512
 ·simp only[go_sem,l,xi];rw[show nB (val a) (val b)=.tup [aJ [],aJ [],.int .i64 2] by simp[nB,eG,l]];exact sI rfl
 simp only[go_sem,l,aeB];refine aA (L.length b e x) rfl ?_;by_cases d:val b=0
 ·have:((nl (val b):Nat):Int)=0:=by rw[d,zM]; rfl
  simp only[go_sem,bN this,aeC];rw[show nB (val a) (val b)=.tup [aJ [],aJ [],.int .i64 3] by simp[nB,eG,c,d,zM]];exact sI rfl
 have E:nl (val b)≠0:=fun h=>d (gU.1 h);rw[show nB (val a) (val b)=.tup [aJ (aI (val a/val b)),aJ (aI (val a%val b)),.int .i64 0] by simp[nB,eG,c,l,d]];simp only[go_sem,bD (show ((nl (val b):Nat):Int)≠0 by omega)];refine bO .nil anS a_ ?_;simp only[go_sem,aeD];have F:=fU p;have H:=fU e;have u:((nl (val a):Nat):Int)≤(a.length:Nat):=Om;have w:((nl (val b):Nat):Int)≤(b.length:Nat):=Om;refine bP (SO a) (L.length a p y) rfl a_ ?_;simp only[go_sem,u,or_true,a0B,jN p];refine bP (SO b) (L.length b e x) rfl a_ ?_;simp only[go_sem,w,or_true,a0B,jN e];refine bP (Ry (val a) (val b)) (i _ _ d Om Om) rfl a_ ?_;simp only[go_sem,qX,aeE];exact aZ (.inr rfl) .nil rfl a_ ⟨.refl _,rfl⟩
def kz:Rg:=[iA 6 (.alloc [zB,.aB,.aB]),iI 7 0]
def k6:Rg:=[iM 11 1,iM 12 2,iK2 13 131 11 12,iM 10 13,iE 14 10 0,iE 15 10 1,iM 8 14,iM 9 15]
def k7:Rg:=[iM 16 8,iK 17 128 16,iC 18 .gtr 17 1]
def la:Rg:=[iM 20 1,iM 21 8,iK2 22 130 20 21,iM 19 22,iE 23 19 0,iE 24 19 1,iE 25 19 2,iM 1 23]
def lf:Rg:=[iM 27 2,iM 28 8,iK2 29 130 27 28,iM 26 29,iE 30 26 0,iE 31 26 1,iE 32 26 2,iM 2 30]
def IW:Rg:=[iM 33 1,iK 34 128 33,iC 35 .gtr 34 4096,iM 36 35,gM 37 2 36 false,gK 38 128 37 36 false,gC 39 .gtr 38 4096 36 false,iQ 40 36 39]
def xR:Rg:=[iA 41 (.build [zB,.aB,.aB] []),iS 3 6 41,iI 7 2]
def IX:Rg:=[iM 42 0,iM 43 42,gM 44 1 43 true,gK 45 128 44 43 true,gC 46 .gtr 45 0 43 true,iP 47 43 46,iM 48 1,iK 49 135 48,iM 50 2,iK 51 135 50,iA 52 (.build [zB,.aB,.aB] [(0,1,(Tm 47)),(1,1,(Tm 49)),(2,1,(Tm 51))]),iS 3 6 52,iI 7 0]
def AJ:aC:=(sq kz (.seq (sq k6 (sq k7 (.cond (Tm 18) (sq la (.region lf)) .skip))) (.seq (sq IW (.cond (Tm 40) (sq xR .ret) .skip)) (sq IX .ret))))
def alV:List Nat:=[]
def uK:aX:=⟨3,53,AJ,[.cell 6 (some 3),.tmp 7]⟩
def Bm:Rg:=[iZ 4]
def Bn:Rg:=[iM 8 0,iM 9 1,iK2 10 133 8 9,iM 7 10,iE 11 7 0,iE 12 7 1,iM 5 11,iM 6 12]
def Bo:Rg:=[iM 13 5,iM 4 13]
def DP:aC:=(sq Bm (sq Bn (sq Bo .ret)))
def asI:List Nat:=[]
def M6:aX:=⟨2,14,DP,[.tmp 4]⟩
def M8:Rg:=[iA 1 (.box true (Tm 0)),iT 2 false]
def M9:Rg:=[iF 3 1 1,iL 4 3,iK 5 128 4,iC 6 .eql 5 0,iM 2 6]
def JA:aC:=(sq M8 (sq M9 .ret))
def aAQ:List Nat:=[1]
def amB:aX:=⟨1,7,JA,[.tmp 2]⟩
def Mx:Rg:=[iA 4 (.alloc [zB,.aB,.aB]),iI 5 0]
def My:Rg:=[iM 6 1,iC 7 .eql 6 0]
def Mz:Rg:=[iA 8 (.build [zB,.aB,.aB] []),iS 3 4 8,iI 5 3]
def M0:Rg:=[iM 9 0,iC 10 .lss 9 0,iM 11 1,iC 12 .lss 11 0,iA 13 (.eqb true (Tm 10) (Tm 12)),iM 14 0,iK 15 119 14,iM 16 1,iK 17 119 16,iA 18 (.call 120 [(Tm 13),(Tm 15),(Tm 17)]),iE 19 18 0,iE 20 18 1,iS 3 4 19,iM 5 20]
def IY:aC:=(sq Mx (.seq (sq My (.cond (Tm 7) (sq Mz .ret) .skip)) (sq M0 .ret)))
def aAM:List Nat:=[]
def Ja:aX:=⟨2,21,IY,[.cell 4 (some 3),.tmp 5]⟩
def Z3:Rg:=[iZ 2]
def Z4:Rg:=[iM 3 0,iC 4 .lss 3 0]
def Z5:Rg:=[iM 5 0,iA 6 (.conv .u64 (Tm 5)),iA 7 (.un .neg (Tm 6)),iK 8 132 7,iM 2 8]
def Z6:Rg:=[iM 9 0,iA 10 (.conv .u64 (Tm 9)),iK 11 132 10,iM 2 11]
def RI:aC:=(sq Z3 (.seq (sq Z4 (.cond (Tm 4) (sq Z5 .ret) .skip)) (sq Z6 .ret)))
def aIA:List Nat:=[]
def aAI:aX:=⟨1,12,RI,[.tmp 2]⟩
def Bp:Rg:=[iA 1 (.box true (Tm 0)),iT 2 false]
def Bq:Rg:=[iF 4 2 1,iL 5 4,iK 6 128 5,iM 3 6]
def CE:Rg:=[iM 7 3,iC 8 .gtr 7 0,iM 9 8,gM 10 3 9 true,gC 11 .leq 10 4096 9 true,iP 12 9 11,iM 13 12,gF 14 1 1 13 true,gL 15 14 13 true,gK 16 128 15 13 true,gC 17 .leq 16 4096 13 true,iP 18 13 17,iM 2 18]
def DQ:aC:=(sq Bp (sq Bq (sq CE .ret)))
def asK:List Nat:=[1]
def M7:aX:=⟨1,19,DQ,[.tmp 2]⟩
def lj:Rg:=[iA 1 (.box true (Tm 0)),iA 2 (.alloc [zB,.aB,.aB]),iI 3 0]
def lk:Rg:=[iO 4 3 1,iK 5 118 4,iA 6 (.un .not (Tm 5))]
def ll:Rg:=[iA 7 (.build [zB,.aB,.aB] []),iS 3 2 7,iI 3 1]
def lm:Rg:=[iF 8 0 1,iL 9 8,iF 10 1 1,iL 11 10,iF 12 2 1,iL 13 12,iA 14 (.call 120 [(Tm 9),(Tm 11),(Tm 13)]),iE 15 14 0,iE 16 14 1,iS 3 2 15,iM 3 16]
def AK:aC:=(sq lj (.seq (sq lk (.cond (Tm 6) (sq ll .ret) .skip)) (sq lm .ret)))
def alY:List Nat:=[1]
def WC:aX:=⟨1,17,AK,[.cell 2 (some 3),.tmp 3]⟩
def aaG:Rg:=[iA 2 (.box true (Tm 0)),iA 3 (.box true (Tm 1)),iI 4 0,iI 5 0]
def aaH:Rg:=[iO 9 3 2,iK 10 118 9,iA 11 (.un .not (Tm 10)),iM 12 11,gO 13 3 3 12 false,gK 14 118 13 12 false,iG 15 (.un .not (Tm 14)) 12 false,iQ 16 12 15]
def wa:Rg:=[iI 4 0,iI 5 1]
def aaI:Rd:=[(iF 17 1 2,false),(iL 18 17,false),(iF 19 2 3,false),(iL 20 19,false),(iK2 21 121 18 20,true),(iF 22 1 3,true),(iL 23 22,true),(iF 24 2 2,true),(iL 25 24,true),(iK2 26 121 23 25,true),(iK2 27 129 21 26,true),(iM 6 27,false)]
def aaJ:Rd:=[(iF 28 0 2,false),(iL 29 28,false),(iM 30 29,false),(gO 31 3 2 30 true,false),(gK 32 122 31 30 true,true),(iG 33 (.un .not (Tm 32)) 30 true,true),(iP 34 30 33,true),(iF 35 0 3,true),(iL 36 35,true),(iM 37 36,false),(gO 38 3 3 37 true,false),(gK 39 122 38 37 true,true),(iG 40 (.un .not (Tm 39)) 37 true,false),(iP 41 37 40,false),(iM 7 34,false),(iM 8 41,false)]
def yY:Rg:=[iM 43 7,iM 44 43,gM 45 8 44 true,iP 46 44 45,iM 42 46]
def wc:Rg:=[iM 47 6,iA 48 (.un .neg (Tm 47)),iM 4 48,iI 5 0]
def GN:Rg:=[iM 50 7,iM 49 50]
def wd:Rg:=[iI 4 (-1),iI 5 0]
def WA:Rg:=[iM 52 8,iM 51 52]
def bc:Rg:=[iI 4 1,iI 5 0]
def bd:Rg:=[iM 53 6,iM 4 53,iI 5 0]
def RK:aC:=(sq aaG (.seq (sq aaH (.cond (Tm 16) (sq wa .ret) .skip)) (dq aaI (dq aaJ (.seq (.block 0 (sq yY (.cond (Tm 42) (sq wc .ret) (sq GN (.cond (Tm 49) (sq wd .ret) (sq WA (.cond (Tm 51) (sq bc .ret) .skip))))))) (sq bd .ret))))))
def aIE:List Nat:=[2,3]
def aAJ:aX:=⟨2,54,RK,[.tmp 4,.tmp 5]⟩
def Z7:Rg:=[iA 2 (.box true (Tm 0)),iA 3 (.box true (Tm 1)),iA 4 (.alloc [zB,.aB,.aB]),iI 5 0]
def Z8:Rg:=[iO 15 3 2,iK 16 118 15,iA 17 (.un .not (Tm 16)),iM 18 17,gO 19 3 3 18 false,gK 20 118 19 18 false,iG 21 (.un .not (Tm 20)) 18 false,iQ 22 18 21]
def v8:Rg:=[iA 23 (.build [zB,.aB,.aB] []),iS 3 4 23,iI 5 1]
def Z9:Rd:=[(iF 24 1 2,false),(iL 25 24,false),(iF 26 2 3,false),(iL 27 26,false),(iK2 28 121 25 27,true),(iF 29 1 3,true),(iL 30 29,true),(iF 31 2 2,true),(iL 32 31,true),(iK2 33 121 30 32,true),(iF 34 2 2,true),(iL 35 34,true),(iF 36 2 3,true),(iL 37 36,true),(iK2 38 121 35 37,true),(iM 6 28,false),(iM 7 33,false),(iM 8 38,false)]
def aaA:Rg:=[iF 39 0 2,iL 40 39,iF 41 0 3,iL 42 41,iA 43 (.eqb false (Tm 40) (Tm 42))]
def aaB:Rg:=[iM 45 6,iM 46 7,iK2 47 127 45 46,iM 44 47,iE 48 44 0,iE 49 44 1,iM 9 48,iM 10 49]
def aaC:Rg:=[iF 50 0 2,iL 51 50,iM 52 9,iM 53 8,iA 54 (.call 120 [(Tm 51),(Tm 52),(Tm 53)]),iE 55 54 0,iE 56 54 1,iS 3 4 55,iM 5 56]
def aaD:Rg:=[iM 57 6,iM 58 7,iK2 59 129 57 58,iC 60 .geq 59 0]
def aaE:Rg:=[iM 62 6,iM 63 7,iK2 64 134 62 63,iM 61 64,iE 65 61 0,iE 66 61 1,iM 11 65,iM 12 66]
def aaF:Rg:=[iF 67 0 2,iL 68 67,iM 69 11,iM 70 8,iA 71 (.call 120 [(Tm 68),(Tm 69),(Tm 70)]),iE 72 71 0,iE 73 71 1,iS 3 4 72,iM 5 73]
def Mo:Rg:=[iM 75 7,iM 76 6,iK2 77 134 75 76,iM 74 77,iE 78 74 0,iE 79 74 1,iM 13 78,iM 14 79]
def Mp:Rg:=[iF 80 0 3,iL 81 80,iM 82 13,iM 83 8,iA 84 (.call 120 [(Tm 81),(Tm 82),(Tm 83)]),iE 85 84 0,iE 86 84 1,iS 3 4 85,iM 5 86]
def RJ:aC:=(sq Z7 (.seq (sq Z8 (.cond (Tm 22) (sq v8 .ret) .skip)) (dq Z9 (.seq (sq aaA (.cond (Tm 43) (sq aaB (sq aaC .ret)) .skip)) (.seq (sq aaD (.cond (Tm 60) (sq aaE (sq aaF .ret)) .skip)) (sq Mo (sq Mp .ret)))))))
def aIC:List Nat:=[2,3]
def v7:aX:=⟨2,87,RJ,[.cell 4 (some 3),.tmp 5]⟩
def aaP:Rg:=[iA 2 (.alloc [zB,.aB,.aB]),iI 3 0]
def aaQ:Rg:=[iA 9 (.call 132 [(.const (.int .u64 1))]),iA 10 (.build [zB,.aB,.aB] [(2,1,(Tm 9))]),iA 4 (.alloc [zB,.aB,.aB]),iS 3 4 10]
def aaR:Rg:=[iM 11 0,iN 12 11,iI 13 0]
def aaS:Rg:=[iB 14 .lss 13 12]
def aaT:Rg:=[iX 15 3 11 13,iO 16 3 15,iA 6 (.alloc [zB,.aB,.aB]),iS 3 6 16]
def aaU:Rg:=[iO 18 3 4,iO 19 3 6,iK2 20 113 18 19,iM 17 20,iE 21 17 0,iE 22 17 1,iA 7 (.alloc [zB,.aB,.aB]),iS 3 7 21,iM 8 22]
def wg:Rg:=[iM 23 8,iC 24 .neq 23 0]
def aaV:Rg:=[iA 25 (.build [zB,.aB,.aB] []),iM 26 8,iS 3 2 25,iM 3 26]
def aaW:Rg:=[iO 27 3 7,iS 3 4 27]
def aaX:Rg:=[iC 28 .add 13 1,iM 13 28]
def M5:aC:=(sq aaS (.seq (.cond (Tm 14) .skip (.exit 0)) (.seq (.block 1 (sq aaT (sq aaU (.seq (sq wg (.cond (Tm 24) (sq aaV .ret) .skip)) (.region aaW))))) (.region aaX))))
def bg:Rg:=[iO 29 3 4,iS 3 2 29,iI 3 0]
def RQ:aC:=(sq aaP (sq aaQ (.seq (sq aaR (.block 0 (.loop M5))) (sq bg .ret))))
def aIP:List Nat:=[]
def M4:aX:=⟨1,30,RQ,[.cell 2 (some 3),.tmp 3]⟩
theorem CoL.nil:CoL [] []:=.refl _
theorem CoL.cons {p q:PV} {ps i:List PV} (h:Co p q) (e:CoL ps i):CoL (p::ps) (q::i) :=
 ⟨by simp[e.len],fun j a b c d=>by
  cases j with
  | zero=>simp at c d; subst c; subst d; exact h
  | succ j=>exact e.at_ j a b (by simpa using c) (by simpa using d)⟩
theorem CoL.agg {ps c:List PV} (h:CoL ps c):Co (.agg ps) (.agg c):=.agg h.len h.at_
theorem CoL.tup {ps c:List PV} (h:CoL ps c):Co (.tup ps) (.tup c):=.tup h.len h.at_
structure sU (C:Ctx):Prop extends rJ C where
 bits:∀ xs,Lim xs→xs.length≤35184372087808→aH C 128 [aJ xs] .nil (aF (.int .i64 (cL (val xs):Nat)))
 add:∀ xs ys,Lim xs→Lim ys→xs.length≤35184372087808→ys.length≤35184372087808→aH C 127 [aJ xs,aJ ys] .nil (aF (opV (eG (val xs) (val ys)) (val xs+val ys)))
 sub:∀ xs ys,Lim xs→Lim ys→xs.length≤35184372087808→ys.length≤35184372087808→aH C 134 [aJ xs,aJ ys] .nil (aF (sB (val xs) (val ys)))
 mul:∀ xs ys,Lim xs→Lim ys→xs.length≤35184372087808→ys.length≤35184372087808→aH C 133 [aJ xs,aJ ys] .nil (aF (opV (eG (val xs) (val ys)) (val xs*val ys)))
 gcd:∀ xs ys,Lim xs→Lim ys→xs.length≤35184372087808→ys.length≤35184372087808→aH C 131 [aJ xs,aJ ys] .nil (aF (if eG (val xs) (val ys) then .tup [aJ [],.int .i64 2] else .tup [aJ (aI (aYP (val xs) (val ys))),.int .i64 0]))
 div:∀ xs ys,Lim xs→Lim ys→xs.length≤35184372087808→ys.length≤35184372087808→aH C 130 [aJ xs,aJ ys] .nil (aF (nB (val xs) (val ys)))
theorem iW {a b:Nat} (c:nl a≤512) (d:nl b≤512):eG a b=false:=by
 simp[eG]; omega
theorem jY {a b m n:Nat} (c:nl a≤m) (d:nl b≤n):nl (a*b)≤m+n:=by
 rw[hC] at c d ⊢;rw[Nat.pow_add];by_cases h:b=0
 ·subst h; exact Nat.mul_pos (a1K (by decide)) (a1K (by decide))
 ·calc a*b<4294967296 ^ m*b:=Nat.mul_lt_mul_of_pos_right c (a1G h)
   _≤4294967296 ^ m*4294967296 ^ n:=a1F _ (Nat.le_of_lt d)
theorem BE {n:Nat} (h:nl n≤512):szV n=.tup [aJ (aI n),.int .i64 0]:=by
 have:¬ nl n>512:=Om;simp[szV,szL,szE,this]
theorem asH {C:Ctx} (L:sU C) (a b:List Nat) (c:Lim a) (d:Lim b) (e:a.length≤35184372087808) (i:b.length≤35184372087808) (l:nl (val a)≤256) (p:nl (val b)≤256) :
  DP.wp C (aR M6.res (aF (aJ (aI (val a*val b))))) (PF.args [aJ a,aJ b]) .nil:=by
 simp only[go_sem,DP,Bm,Bn,M6];refine aA (L.mul a b c d e i) rfl ?_;have:=jY l p;rw[iW Om Om,opV,BE Om];simp only[go_sem,Bo];refine aO (.inr rfl) rfl ?_;rfl
abbrev dY (neg:Bool) (a b:List Nat):List PV:=[.bool neg,aJ a,aJ b]
theorem aAP {C:Ctx} (L:sU C) (neg:Bool) (a b:List Nat) (d:Lim a) (e:a.length≤35184372087808) :
  JA.wp C (aR amB.res (aF (.bool (decide (val a=0))))) (PF.args [.agg (dY neg a b)]) .nil:=by
 simp only[go_sem,JA,M8,M9,amB];refine aA (L.bits a d e) rfl ?_;simp only[go_sem];refine aO (.inr rfl) rfl ?_;have:=@kD (val a);by_cases c:val a=0
 ·rw[bN Om,decide_eq_true c]; rfl
 ·rw[bD Om,decide_eq_false c]; rfl
def cJ (a b:Nat):Bool:=decide (0<cL b)&&decide (cL b≤4096)&&decide (cL a≤4096)
theorem asJ {C:Ctx} (L:sU C) (neg:Bool) (a b:List Nat) (l:Lim a) (p:Lim b) (u:a.length≤35184372087808) (w:b.length≤35184372087808) :
  DQ.wp C (aR M7.res (aF (.bool (cJ (val a) (val b))))) (PF.args [.agg (dY neg a b)]) .nil:=by
 simp only[go_sem,DQ,Bp,Bq,M7];refine aA (L.bits b p w) rfl ?_;by_cases e:0<cL (val b)
 ·have c:((cL (val b):Nat):Int)>0:=Om;by_cases i:cL (val b)≤4096
  ·have d:((cL (val b):Nat):Int)≤4096:=Om;simp only[go_sem,CE,c,d];refine aA (L.bits a l u) rfl ?_;simp only[go_sem];refine aO (.inr rfl) rfl ?_;show PV.bool (decide _)=_;rw[cJ,decide_eq_true e,decide_eq_true i,aYZ,aYZ];congr 1;rw[decide_eq_decide];omega
  ·have d:¬ ((cL (val b):Nat):Int)≤4096:=Om;simp only[go_sem,CE,c,d];refine aO (.inr rfl) rfl ?_;show PV.bool _=_;simp[cJ,e,i]
 ·have c:¬ ((cL (val b):Nat):Int)>0:=Om;simp only[go_sem,CE,c];refine aO (.inr rfl) rfl ?_;show PV.bool _=_;simp[cJ,e]
theorem aHZ {C:Ctx} (L:sU C) (v:Int) (d:-9223372036854775808≤v) (i:v≤9223372036854775807) :
  RI.wp C (aR aAI.res (aF (aJ (aI v.natAbs)))) (PF.args [.int .i64 v]) .nil:=by
 simp only[go_sem,RI,Z3,Z4,aAI];by_cases c:v<0
 ·have e:IntKind.u64.wrap (0-IntKind.u64.wrap v)=(v.natAbs:Int):=by rw[gG,gG]; omega
  simp only[go_sem,c,Z5,e];refine aA (L.make v.natAbs Om) rfl ?_;simp only[go_sem];refine aO (.inr rfl) rfl ?_;rfl
 ·have e:IntKind.u64.wrap v=(v.natAbs:Int):=by rw[gG]; omega
  simp only[go_sem,c,Z6,e];refine aA (L.make v.natAbs Om) rfl ?_;simp only[go_sem];refine aO (.inr rfl) rfl ?_;rfl
abbrev CD (e:Int):PV:=.tup [.agg (dY false [] []),.int .i64 e]
abbrev alZ (neg:Bool) (a b:Nat):PV:=.tup [.agg (dY neg (aI a) (aI b)),.int .i64 0]
def KB (neg:Bool) (a b:Nat):PV :=
 if cL (a/aYP a b)>4096∨cL (b/aYP a b)>4096 then CD 2 else alZ (neg&&decide (a/aYP a b≠0)) (a/aYP a b) (b/aYP a b)
theorem iY {res:List dS} {F:PF} {H:PH} {e:Int} (h:dS.evs F H res=some [.agg [.bool false,.aB,.aB],.int .i64 e]):aR res (cA (CD e)) .ret F H :=
 aZ (.inr rfl) .nil h a_ ⟨CoL.tup (.cons (CoL.agg (.cons (.refl _) (.cons (.nil 1) (.cons (.nil 1) .nil)))) (.cons (.refl _) .nil)),rfl⟩
theorem Kf {n:Nat}:cL n>1↔n>1:=by
 have:=mF n 1;omega
theorem rF {a n:Nat} (g:Nat) (h:nl a≤n):nl (a/g)≤n:=aZS (fQ (a1O _ _)) h
theorem RM {C:Ctx} (L:sU C) (neg:Bool) (a b:List Nat) (l:Lim a) (u:Lim b) (p:a.length≤35184372087808) (w:b.length≤35184372087808) (o:Nat) (F:PF) (H:PH)
  (f0:F 0=some (.bool neg)) (f1:F 1=some (aJ a)) (f2:F 2=some (aJ b)) (f6:F 6=some (.ptr o 3 0 0)) (f7:F 7=some (.int .i64 0)) (c:H o=some (.rows 3 [[.bool false,.aB,.aB]])) :
  aC.wp C (.seq (.seq (.region IW) (.cond (.tmp 40) (.seq (.region xR) .ret) .skip)) (.seq (.region IX) .ret)) (aR uK.res (cA (if cL (val a)>4096∨cL (val b)>4096 then CD 2 else alZ (neg&&decide (val a≠0)) (val a) (val b)))) F H:=by
 have fin:∀ (r:List (List PV)) F H,F 6=some (.ptr o 3 0 0)→F 7=some (.int .i64 2)→H o=some (.rows 3 [[.bool false,.aB,.aB]])→aR uK.res (cA (CD 2)) .ret F H:=by intro r F H A h7 h;refine iY ?_;simp only[go_sem,uK,A,h7,h]
 simp only[go_sem,IW,f1];refine aA (L.bits a l p) rfl ?_;by_cases x:cL (val a)>4096
 ·have d:((cL (val a):Nat):Int)>4096:=Om;rw[if_pos (.inl x)];simp only[go_sem,d,xR,f6,c];exact fin [] _ _ (by simp only[go_sem,f6]) rfl Sq
 ·have d:¬ ((cL (val a):Nat):Int)>4096:=Om;simp only[go_sem,d,f2];refine aA (L.bits b u w) rfl ?_;by_cases y:cL (val b)>4096
  ·have i:((cL (val b):Nat):Int)>4096:=Om;rw[if_pos (.inr y)];simp only[go_sem,i,xR,f6,c];exact fin [] _ _ (by simp only[go_sem,f6]) rfl Sq
  ·have i:¬ ((cL (val b):Nat):Int)>4096:=Om;rw[if_neg Om];have last:∀ F:PF,F 1=some (aJ a)→F 2=some (aJ b)→F 6=some (.ptr o 3 0 0)→∀ (q:Bool),q=(neg&&decide (val a≠0))→F 47=some (.bool q) →
     True:=fun _ _ _ _ _ _ _=>trivial
   simp only[go_sem,i,IX,f0,f1,f2,f6,c];cases neg with
   | false =>simp only[go_sem,f0,f1,f2,f6,c];refine aA (L.trim a l p) rfl ?_;simp only[go_sem,f0,f1,f2,f6,c];refine aA (L.trim b u w) rfl ?_;simp only[go_sem,f0,f1,f2,f6,c,aYW];refine aZ (.inr rfl) .nil (vs:=[.agg (dY false (aI (val a)) (aI (val b))),.int .i64 0]) ?_ a_ ⟨.refl _,rfl⟩;simp only[go_sem,uK,f6,c]
   | true =>
    simp only[go_sem,f0,f1,f2,f6,c];refine aA (L.bits a l p) rfl ?_;have e:decide (((cL (val a):Nat):Int)>0)=decide (val a≠0):=by have:=@kD (val a);rw[decide_eq_decide]; omega
    simp only[go_sem,f0,f1,f2,f6,c,e];refine aA (L.trim a l p) rfl ?_;simp only[go_sem,f0,f1,f2,f6,c];refine aA (L.trim b u w) rfl ?_;simp only[go_sem,f0,f1,f2,f6,c,aYZ];refine aZ (.inr rfl) .nil (vs:=[.agg (dY (decide (val a≠0)) (aI (val a)) (aI (val b))),.int .i64 0]) ?_ a_ ⟨.refl _,rfl⟩;simp only[go_sem,uK,f6,c]
theorem alU {C:Ctx} (L:sU C) (neg:Bool) (a b:List Nat) (u:Lim a) (w:Lim b) (x:a.length≤35184372087808) (y:b.length≤35184372087808) (A:nl (val a)≤512) (l:nl (val b)≤512) (B:val b≠0) :
  AJ.wp C (aR uK.res (cA (KB neg (val a) (val b)))) (PF.args [.bool neg,aJ a,aJ b]) .nil:=by
 simp only[go_sem,AJ,kz,k6];refine aN fun o J=>?_;simp only[go_sem];refine aA (L.gcd a b u w x y) rfl ?_;rw[iW A l];simp only[go_sem,k7];have e:aYP (val a) (val b)≠0:=by intro h; exact B (Nat.gcd_eq_zero_iff.1 h).2
 have i:nl (aYP (val a) (val b))≤512:=aZS (fQ (Nat.gcd_le_right _ (a1G B))) l;have d:(aI (aYP (val a) (val b))).length≤35184372087808:=by rw[aW]; omega
 refine aA (L.bits _ (aV _) d) rfl ?_;rw[aS];by_cases c:aYP (val a) (val b)>1
 ·have p:((cL (aYP (val a) (val b)):Nat):Int)>1:=by have:=Kf.2 c; omega
  simp only[go_sem,p,la];refine aA (L.div a _ u (aV _) x d) rfl ?_;rw[aS,nB,iW A i,if_neg (by decide),if_neg e];simp only[go_sem,lf];refine aA (L.div b _ w (aV _) y d) rfl ?_;rw[aS,nB,iW l i,if_neg (by decide),if_neg e];simp only[go_sem];have:=RM L neg (aI (val a/aYP (val a) (val b))) (aI (val b/aYP (val a) (val b))) (aV _) (aV _) (by rw[aW]; have:=rF (aYP (val a) (val b)) A; omega) (by rw[aW]; have:=rF (aYP (val a) (val b)) l; omega) o;rw[aS,aS] at this;have:=fun F H=>this F H;simp only[aC.wp,go_sem] at this;exact this _ _ rfl rfl rfl rfl rfl Sq
 ·have p:¬ ((cL (aYP (val a) (val b)):Nat):Int)>1:=by have:=(@Kf (aYP (val a) (val b))); omega
  have E:aYP (val a) (val b)=1:=Om;simp only[go_sem,p];rw[KB,E,Nat.div_one,Nat.div_one];have:=RM L neg a b u w x y o;simp only[aC.wp,go_sem] at this;exact this _ _ rfl rfl rfl rfl rfl Sq
structure HH (C:Ctx):Prop extends sU C where
 times:∀ a b,Lim a→Lim b→a.length≤35184372087808→b.length≤35184372087808→nl (val a)≤256→nl (val b)≤256→aH C 121 [aJ a,aJ b] .nil (aF (aJ (aI (val a*val b))))
 zero:∀ neg a b,Lim a→a.length≤35184372087808→aH C 122 [.agg (dY neg a b)] .nil (aF (.bool (decide (val a=0))))
 valid:∀ neg a b,Lim a→Lim b→a.length≤35184372087808→b.length≤35184372087808→aH C 118 [.agg (dY neg a b)] .nil (aF (.bool (cJ (val a) (val b))))
 abs:∀ v:Int,-9223372036854775808≤v→v≤9223372036854775807→aH C 119 [.int .i64 v] .nil (aF (aJ (aI v.natAbs)))
 lowest:∀ neg a b,Lim a→Lim b→a.length≤35184372087808→b.length≤35184372087808→nl (val a)≤512→nl (val b)≤512→val b≠0→aH C 120 [.bool neg,aJ a,aJ b] .nil (aF (KB neg (val a) (val b)))
def KC (n d:Int):PV:=if d=0 then CD 3 else KB (decide (n<0) != decide (d<0)) n.natAbs d.natAbs
theorem jZ {n k:Nat} (h:n<4294967296 ^ k):nl n≤k:=(hC _ _).2 h
theorem P7 (neg:Bool) (a b:Nat):∃ c x y e,KB neg a b=.tup [.agg (dY c x y),.int .i64 e]:=by
 unfold KB;split
 ·exact⟨_,_,_,_,rfl⟩
 ·exact⟨_,_,_,_,rfl⟩
theorem aAL {C:Ctx} (L:HH C) (n d:Int) (l:-9223372036854775808≤n) (p:n≤9223372036854775807) (u:-9223372036854775808≤d) (w:d≤9223372036854775807) :
  IY.wp C (aR Ja.res (cA (KC n d))) (PF.args [.int .i64 n,.int .i64 d]) .nil:=by
 simp only[go_sem,IY,Mx,My];refine aN fun o B=>?_;unfold KC;by_cases c:d=0
 ·subst c;simp only[go_sem,Mz];refine iY ?_;simp only[go_sem,Ja]
 ·rw[if_neg c];simp only[go_sem,bD c,M0];refine aA (L.abs n l p) rfl ?_;simp only[go_sem];refine aA (L.abs d u w) rfl ?_;simp only[go_sem];have E:nl n.natAbs≤2:=jZ Om;have F:nl d.natAbs≤2:=jZ Om;have low:=L.lowest (decide (n<0) != decide (d<0)) (aI n.natAbs) (aI d.natAbs) (aV _) (aV _) (by rw[aW]; omega) (by rw[aW]; omega);rw[aS,aS] at low;have low:=low Om Om Om;refine aA low rfl ?_;obtain⟨i,x,y,e,A⟩:=P7 (decide (n<0) != decide (d<0)) n.natAbs d.natAbs;rw[A];simp only[go_sem];exact aZ (.inr rfl) .nil (vs:=[.agg (dY i x y),.int .i64 e]) (by simp only[go_sem,Ja]) a_ ⟨.refl _,rfl⟩
theorem dZ {a b:Nat}:cJ a b=true↔b≠0∧nl b≤128∧nl a≤128:=by
 have c:=hL b 128;have d:=hL a 128;have e:=@kD b;simp only[cJ,aZD,decide_eq_true_eq];omega
def WT (neg:Bool) (a b:Nat):PV:=if cJ a b then KB neg a b else CD 1
theorem alX {C:Ctx} (L:HH C) (neg:Bool) (a b:List Nat) (d:Lim a) (i:Lim b) (l:a.length≤35184372087808) (p:b.length≤35184372087808) :
  AK.wp C (aR WC.res (cA (WT neg (val a) (val b)))) (PF.args [.agg (dY neg a b)]) .nil:=by
 simp only[go_sem,AK,lj,lk];refine aN fun o B=>?_;simp only[go_sem];refine aA (L.valid neg a b d i l p) rfl ?_;unfold WT;cases w:cJ (val a) (val b) with
 | false =>simp only[go_sem,ll,aZF];refine iY ?_;simp only[go_sem,WC]
 | true =>obtain⟨A,E,F⟩:=dZ.1 w;simp only[go_sem,lm,aYT];refine aA (L.lowest neg a b d i l p Om Om A) rfl ?_;obtain⟨c,x,y,e,u⟩:=P7 neg (val a) (val b);rw[u];simp only[go_sem];exact aZ (.inr rfl) .nil (vs:=[.agg (dY c x y),.int .i64 e]) (by simp only[go_sem,WC]) a_ ⟨.refl _,rfl⟩
def oL (c:Bool) (a1 b1:Nat) (d:Bool) (a2 b2:Nat):Int :=
 match c&&decide (a1≠0),d&&decide (a2≠0) with
 | true,true=>- dJ (a1*b2) (a2*b1)
 | true,false=>-1
 | false,true=>1
 | false,false=>dJ (a1*b2) (a2*b1)
def xQ (c:Bool) (a1 b1:Nat) (d:Bool) (a2 b2:Nat):PV :=
 if cJ a1 b1&&cJ a2 b2 then .tup [.int .i64 (oL c a1 b1 d a2 b2),.int .i64 0] else .tup [.int .i64 0,.int .i64 1]
def fr1:PV→List Nat
 | .agg [_,a,_]=>jK a
 | _=>[]
def frS:Spec:=fun name vs=>match name,vs with
 | 121,[x,y]=>some ([],fun _=>aF (aJ (aI (val (jK x)*val (jK y)))))
 | 129,[x,y]=>some ([],fun _=>aF (.int .i64 (dJ (val (jK x)) (val (jK y)))))
 | 122,[x]=>some ([],fun _=>aF (.bool (decide (val (fr1 x)=0))))
 | _,_=>none
theorem wJ (a b:List Nat):frS 121 [aJ a,aJ b]=some ([],fun _=>aF (aJ (aI (val a*val b)))):=by
 show some _=_; rw[eO,eO]
theorem aII (a b:List Nat):frS 129 [aJ a,aJ b]=some ([],fun _=>aF (.int .i64 (dJ (val a) (val b)))):=by
 show some _=_; rw[eO,eO]
theorem be (neg:Bool) (a b:List Nat):frS 122 [.agg (dY neg a b)]=some ([],fun _=>aF (.bool (decide (val a=0)))):=by
 show some _=_; rw[fr1,eO]
theorem azA (a b:Nat):IntKind.i64.wrap (0-dJ a b)=- dJ a b:=by
 unfold dJ; split
 ·rfl
 ·split<;>rfl
theorem aID {C:Ctx} (L:HH C) (p l:Bool) (a1 b1 a2 b2:List Nat) (e:Lim a1) (u:Lim b1) (c:Lim a2) (w:Lim b2)
  (i:a1.length≤35184372087808) (x:b1.length≤35184372087808) (d:a2.length≤35184372087808) (y:b2.length≤35184372087808) :
  RK.wp C (aR aAJ.res (cA (xQ p (val a1) (val b1) l (val a2) (val b2)))) (PF.args [.agg (dY p a1 b1),.agg (dY l a2 b2)]) .nil:=by
 simp only[go_sem,RK,aaG,aaH];refine aA (L.valid p a1 b1 e u i x) rfl ?_;unfold xQ;cases N:cJ (val a1) (val b1) with
 | false =>simp only[go_sem,aZF,wa,aYW];exact aZ (.inr rfl) .nil (vs:=[.int .i64 0,.int .i64 1]) rfl a_ ⟨.refl _,rfl⟩
 | true =>
  obtain⟨Y,Q,R⟩:=dZ.1 N;simp only[go_sem,aYT];refine aA (L.valid l a2 b2 c w d y) rfl ?_;cases O:cJ (val a2) (val b2) with
  | false =>simp only[go_sem,aZF,wa,aZV];exact aZ (.inr rfl) .nil (vs:=[.int .i64 0,.int .i64 1]) rfl a_ ⟨.refl _,rfl⟩
  | true =>
   obtain⟨Z,S,U⟩:=dZ.1 O;simp only[go_sem,aYT,a0T];refine bO .nil frS a_ ?_;simp only[go_sem,aaI];refine bP (wJ a1 b2) (L.times a1 b2 e w i y Om Om) rfl a_ ?_;simp only[go_sem];refine bP (wJ a2 b1) (L.times a2 b1 c u d x Om Om) rfl a_ ?_;simp only[go_sem];have W:=jY R S;have X:=jY U Q;have H:=L.cmp (aI (val a1*val b2)) (aI (val a2*val b1)) (aV _) (aV _) (by rw[aW]; omega) (by rw[aW]; omega);have J:=aII (aI (val a1*val b2)) (aI (val a2*val b1));rw[aS,aS] at H J;refine bP J H rfl a_ ?_;simp only[go_sem];refine bO .nil frS a_ ?_;have V:(!decide (val a1=0))=decide (val a1≠0):=by by_cases h:val a1=0<;>simp[h]
   have K:(!decide (val a2=0))=decide (val a2≠0):=by by_cases h:val a2=0<;>simp[h]
   have fin:∀ (F:PF) (A B:Bool),F 6=some (.int .i64 (dJ (val a1*val b2) (val a2*val b1)))→F 7=some (.bool A)→F 8=some (.bool B)→A=(p&&decide (val a1≠0))→B=(l&&decide (val a2≠0)) →
     aC.wp C (.seq (.block 0 (.seq (.region yY) (.cond (.tmp 42) (.seq (.region wc) .ret) (.seq (.region GN) (.cond (.tmp 49) (.seq (.region wd) .ret) (.seq (.region WA) (.cond (.tmp 51) (.seq (.region bc) .ret) .skip))))))) (.seq (.region bd) .ret)) (aR aAJ.res (cA (.tup [.int .i64 (oL p (val a1) (val b1) l (val a2) (val b2)),.int .i64 0]))) F .nil:=by
    intro F A B f6 f7 E M hB;rw[oL,← M,← hB];cases A<;>cases B
    ·simp only[go_sem,yY,GN,WA,bd,f6,f7,E];exact aZ (.inr rfl) .nil rfl a_ ⟨.refl _,rfl⟩
    ·simp only[go_sem,yY,GN,WA,bc,f6,f7,E];exact aZ (.inr rfl) .nil rfl a_ ⟨.refl _,rfl⟩
    ·simp only[go_sem,yY,GN,wd,f6,f7,E];exact aZ (.inr rfl) .nil rfl a_ ⟨.refl _,rfl⟩
    ·simp only[go_sem,yY,wc,f6,f7,E,azA];exact aZ (.inr rfl) .nil rfl a_ ⟨.refl _,rfl⟩
   simp only[aC.wp,go_sem] at fin;simp only[go_sem,aaJ];cases p with
   | false =>
    simp only[go_sem];cases l with
    | false =>simp only[go_sem];exact fin _ false false rfl rfl rfl rfl rfl
    | true =>simp only[go_sem];refine bP (be true a2 b2) (L.zero true a2 b2 c d) rfl a_ ?_;simp only[go_sem,K];exact fin _ false (decide (val a2≠0)) rfl rfl rfl rfl (by rw[aYZ])
   | true =>
    simp only[go_sem];refine bP (be true a1 b1) (L.zero true a1 b1 e i) rfl a_ ?_;simp only[go_sem,V];cases l with
    | false =>simp only[go_sem];exact fin _ (decide (val a1≠0)) false rfl rfl rfl (by rw[aYZ]) rfl
    | true =>simp only[go_sem];refine bP (be true a2 b2) (L.zero true a2 b2 c d) rfl a_ ?_;simp only[go_sem,K];exact fin _ (decide (val a1≠0)) (decide (val a2≠0)) rfl rfl rfl (by rw[aYZ]) (by rw[aYZ])
abbrev FV:=Bool × Nat × Nat
abbrev FR:=Except Int FV
def gR (neg:Bool) (a b:Nat):FR :=
 if cL (a/aYP a b)>4096∨cL (b/aYP a b)>4096 then .error 2 else .ok (neg&&decide (a/aYP a b≠0),a/aYP a b,b/aYP a b)
def frV:FR→PV
 | .ok (n,a,b)=>alZ n a b
 | .error e=>CD e
theorem WL (neg:Bool) (a b:Nat):KB neg a b=frV (gR neg a b):=by
 unfold KB gR;split<;>rfl
def fW:FV→FV→FR
 | (c,a1,b1),(d,a2,b2)=>if cJ a1 b1&&cJ a2 b2 then
   (if c=d then gR c (a1*b2+a2*b1) (b1*b2) else if a2*b1≤a1*b2 then gR c (a1*b2-a2*b1) (b1*b2) else gR d (a2*b1-a1*b2) (b1*b2))
  else .error 1
theorem n8 {a b m:Nat} (c:nl a≤m) (d:nl b≤m):nl (a+b)≤m+1:=by
 rw[hC] at c d ⊢;rw[a0L]; omega
theorem VX (a b:Nat):(dJ a b≥0)↔b≤a:=by
 unfold dJ;split
 ·constructor
  ·intro h; exact absurd h (by decide)
  ·intro h; omega
 ·split
  ·constructor
   ·intro h; omega
   ·intro h; decide
  ·constructor
   ·intro h; omega
   ·intro h; decide
theorem uL (r:FR):∃ c x y e,frV r=.tup [.agg (dY c x y),.int .i64 e]:=by
 rcases r with e | ⟨n,a,b⟩
 ·exact⟨_,_,_,_,rfl⟩
 ·exact⟨_,_,_,_,rfl⟩
theorem aIB {C:Ctx} (L:HH C) (i p:Bool) (a1 b1 a2 b2:List Nat) (N:Lim a1) (E:Lim b1) (O:Lim a2) (J:Lim b2)
  (Q:a1.length≤35184372087808) (K:b1.length≤35184372087808) (R:a2.length≤35184372087808) (M:b2.length≤35184372087808) :
  RJ.wp C (aR v7.res (cA (frV (fW (i,val a1,val b1) (p,val a2,val b2))))) (PF.args [.agg (dY i a1 b1),.agg (dY p a2 b2)]) .nil:=by
 simp only[go_sem,RJ,Z7];refine aN fun o ho=>?_;simp only[go_sem,Z8];refine aA (L.valid i a1 b1 N E Q K) rfl ?_;simp only[fW];cases hv:cJ (val a1) (val b1) with
 | false =>simp only[go_sem,aZF,v8,aYW];refine iY ?_;simp only[go_sem,v7]
 | true =>
  obtain⟨v1,v2,v3⟩:=dZ.1 hv;simp only[go_sem,aYT];refine aA (L.valid p a2 b2 O J R M) rfl ?_;cases hw:cJ (val a2) (val b2) with
  | false =>simp only[go_sem,aZF,v8,aZV];refine iY ?_;simp only[go_sem,v7]
  | true =>
   obtain⟨w1,w2,w3⟩:=dZ.1 hw;simp only[go_sem,aYT,a0T];refine bO .nil frS a_ ?_;simp only[go_sem,Z9];refine bP (wJ a1 b2) (L.times a1 b2 N J Q M Om Om) rfl a_ ?_;simp only[go_sem];refine bP (wJ a2 b1) (L.times a2 b1 O E R K Om Om) rfl a_ ?_;simp only[go_sem];refine bP (wJ b1 b2) (L.times b1 b2 E J K M Om Om) rfl a_ ?_;simp only[go_sem];have m1:=jY v3 w2;have m2:=jY w3 v2;have m3:=jY v2 w2;have d0:val b1*val b2≠0:=Nat.mul_ne_zero v1 w1;generalize hA:val a1*val b2=A at *
   generalize hB:val a2*val b1=B at *
   generalize hD:val b1*val b2=D at *
   have fin:∀ (F:PF) (H:PH) (r:FR),(∃ d x y e,frV r=.tup [.agg (dY d x y),.int .i64 e]∧F 4=some (.ptr o 3 0 0)∧F 5=some (.int .i64 e)∧H o=some (.rows 3 [dY d x y]))→aR v7.res (cA (frV r)) .ret F H:=by rintro F H r ⟨d,x,y,e,he,f4,f5,hH⟩;rw[he];exact aZ (.inr rfl) .nil (vs:=[.agg (dY d x y),.int .i64 e]) (by simp only[go_sem,v7,f4,f5,hH]) a_ ⟨.refl _,rfl⟩
   have V:(i==p)=decide (i=p):=by cases i<;>cases p<;>rfl
   have low:∀ neg x,nl x≤257→aH C 120 [.bool neg,aJ (aI x),aJ (aI D)] .nil (aF (frV (gR neg x D))):=by
    intro neg x hx;have W:(aI x).length≤35184372087808:=by rw[aW]; omega
    have Z:(aI D).length≤35184372087808:=by rw[aW]; omega
    have:=L.lowest neg (aI x) (aI D) (aV _) (aV _) W Z;rw[aS,aS,WL] at this;exact this Om Om d0
   have lA:(aI A).length≤35184372087808:=by rw[aW]; omega
   have lB:(aI B).length≤35184372087808:=by rw[aW]; omega
   simp only[go_sem,aaA];by_cases c:i=p
   ·rw[if_pos c];have S:(i==p)=true:=by rw[V,decide_eq_true c]
    simp only[go_sem,S,aaB];have u:=L.add (aI A) (aI B) (aV _) (aV _) lA lB;have α:=n8 m1 m2;rw[aS,aS,iW Om Om,opV,BE Om] at u;refine aA u rfl ?_;simp only[go_sem,aaC];refine aA (low i _ Om) rfl ?_;obtain⟨d,x,y,e,l⟩:=uL (gR i (A+B) D);rw[l];simp only[go_sem];rw[← l];exact fin _ _ _ ⟨d,x,y,e,l,by simp only[go_sem],by simp only[go_sem],by simp only[go_sem]⟩
   ·rw[if_neg c];have S:(i==p)=false:=by rw[V,decide_eq_false c]
    simp only[go_sem,S,aaD];have hc:=L.cmp (aI A) (aI B) (aV _) (aV _) lA lB;rw[aS,aS] at hc;refine aA hc rfl ?_;have w:∀ X Y:Nat,nl X≤256→nl Y≤256→Y≤X→aH C 134 [aJ (aI X),aJ (aI Y)] .nil (aF (.tup [aJ (aI (X-Y)),.int .i64 0])):=by intro X Y W Z h;have:=L.sub (aI X) (aI Y) (aV _) (aV _) (by rw[aW]; omega) (by rw[aW]; omega);have h3:=fQ (Om:X-Y≤X);rw[aS,aS,sB,iW Om Om,if_neg (by decide),if_neg Om,BE Om] at this;exact this
    by_cases g:B≤A
    ·have U:dJ A B≥0:=(VX A B).2 g;rw[if_pos g];simp only[go_sem,U,aaE];refine aA (w A B Om Om g) rfl ?_;simp only[go_sem,aaF];have h3:=fQ (Om:A-B≤A);refine aA (low i (A-B) Om) rfl ?_;obtain⟨d,x,y,e,l⟩:=uL (gR i (A-B) D);rw[l];simp only[go_sem];rw[← l];exact fin _ _ _ ⟨d,x,y,e,l,by simp only[go_sem],by simp only[go_sem],by simp only[go_sem]⟩
    ·have U:¬ dJ A B≥0:=fun h=>g ((VX A B).1 h);rw[if_neg g];simp only[go_sem,U,Mo];refine aA (w B A Om Om Om) rfl ?_;simp only[go_sem,Mp];have h3:=fQ (Om:B-A≤B);refine aA (low p (B-A) Om) rfl ?_;obtain⟨d,x,y,e,l⟩:=uL (gR p (B-A) D);rw[l];simp only[go_sem];rw[← l];exact fin _ _ _ ⟨d,x,y,e,l,by simp only[go_sem],by simp only[go_sem],by simp only[go_sem]⟩
structure RF where
 neg:Bool
 num:List Nat
 den:List Nat
abbrev RF.cells (x:RF):List PV:=dY x.neg x.num x.den
def RF.Ok (x:RF):Prop:=Lim x.num∧Lim x.den∧x.num.length≤35184372087808∧x.den.length≤35184372087808
def RF.v (x:RF):FV:=(x.neg,val x.num,val x.den)
abbrev frs (l:List RF):PV:=.sl 3 (l.map RF.cells)
def FV.rf:FV→RF
 | (n,a,b)=>⟨n,aI a,aI b⟩
def FV.Small:FV→Prop
 | (_,a,b)=>nl a≤900000∧nl b≤900000
theorem FV.Tn (x:FV):x.rf.v=x:=by
 obtain⟨n,a,b⟩:=x;show (n,val (aI a),val (aI b))=_;rw[aS,aS]
def nU (l:List FV):FR:=l.foldlM fW (false,0,1)
theorem tH {neg:Bool} {a b:Nat} {r:FV} (h:gR neg a b=.ok r):r.Small∧r.rf.Ok:=by
 unfold gR at h;split at h
 ·cases h
 ·rename_i e;have c:=(hL (a/aYP a b) 128).1 Om;have d:=(hL (b/aYP a b) 128).1 Om;injection h with h
  subst h;refine⟨⟨by omega,by omega⟩,aV _,aV _,?_,?_⟩
  ·show (aI _).length≤_;rw[aW]; omega
  ·show (aI _).length≤_;rw[aW]; omega
theorem vm {x y r:FV} (h:fW x y=.ok r):r.rf.Ok:=by
 obtain⟨c,a1,b1⟩:=x;obtain⟨d,a2,b2⟩:=y;simp only[fW] at h;split at h
 ·split at h
  ·exact (tH h).2
  ·split at h
   ·exact (tH h).2
   ·exact (tH h).2
 ·cases h
theorem XJ {α β:Type} {f:β→α→Except Int β} (l:List α) (b:β) {k:Nat} (h:k<l.length):(l.take (k+1)).foldlM f b=((l.take k).foldlM f b).bind fun x=>f x l[k]:=by
 rw[aZW h,List.foldlM_append];cases (l.take k).foldlM f b with
 | error e=>rfl
 | ok x =>show ([l[k]]:List α).foldlM f x=f x l[k];rw[List.foldlM_cons];cases f x l[k]<;>rfl
theorem lg {α β:Type} {f:β→α→Except Int β} (l:List α) (b:β) {k:Nat} {e:Int} (h:(l.take k).foldlM f b=.error e):l.foldlM f b=.error e:=by
 conv=>lhs; rw[← a1N k l,List.foldlM_append,h]
 rfl
def aEL (l:List RF) (o2 o4:Nat) (k:Nat):PF:=((((((PF.nil.set 2 (.ptr o2 3 0 0)).set 3 (.int .i64 0)).set 4 (.ptr o4 3 0 0)).set 11 (frs l)).set 12 (.int .i64 (l.length:Nat))).set 13 (.int .i64 k))
def fy (o2 o4:Nat) (c:List PV):PH:=(PH.nil.set o2 (.rows 3 [[.bool false,.aB,.aB]])).set o4 (.rows 3 [c])
theorem aIO {C:Ctx} (L:HH C) (Q:∀ x y:RF,x.Ok→y.Ok→aH C 113 [.agg x.cells,.agg y.cells] .nil (aF (frV (fW x.v y.v)))) (l:List RF) (hl:∀ x∈l,x.Ok) (Y:l.length≤9223372036854775807) :
  RQ.wp C (aR M4.res (cA (frV (nU (l.map RF.v))))) (PF.args [frs l]) .nil:=by
 simp only[go_sem,RQ,aaP];refine aN fun o2 β=>?_;simp only[go_sem,aaQ];refine aA (L.make 1 (by decide)) rfl ?_;simp only[go_sem];refine aN fun o4 R=>?_;have i:o4≠o2:=by rintro rfl; simp only[aT,if_true] at R; cases R
 have c:o2≠o4:=Ne.symm i;simp only[go_sem,aaR];refine wp_loop (α:=Nat × FV × PV) (fun t=>aEL l o2 o4 t.1) (fun t=>fy o2 o4 [.bool t.2.1.1,t.2.2,aJ (aI t.2.1.2.2)]) (fun t=>t.1≤l.length∧((l.map RF.v).take t.1).foldlM fW (false,0,1)=.ok t.2.1∧(t.2.2=.aB∧t.2.1.2.1=0∨t.2.2=aJ (aI t.2.1.2.1))∧(FV.rf t.2.1).Ok) (fun t=>l.length-t.1)
  (0,(false,0,1),.aB) ⟨aYS _,rfl,.inl ⟨rfl,rfl⟩,⟨aV _,aV _,?_,?_⟩⟩ ?_ ?_ ?_
 ·show (aI 0).length≤_;rw[dW]; simp
 ·show (aI 1).length≤_;rw[oV (by decide) (by decide)]; simp
 ·unfold aEL
  (repeat' (first|exact c_|refine d_ ?_ ?_))<;>first|(simp only[go_sem,aYN]<;>rfl)|rfl
 ·unfold fy;exact PH.aK (PH.aK a_ (by simp only[go_sem,c,i])) (by simp only[go_sem,c,i])
 rintro⟨k,⟨O,S,N⟩,X⟩ ⟨hk,V,M,H⟩;simp only at hk V M H ⊢;have J:CoL [.bool O,X,aJ (aI N)] (FV.rf (O,S,N)).cells:=by
  refine .cons (.refl _) (.cons ?_ (.cons (.refl _) .nil));rcases M with ⟨rfl,rfl⟩ | rfl
  ·show Co .aB (aJ (aI 0));rw[dW]; exact .nil 1
  ·exact .refl _
 simp only[go_sem,M5,aaS,aEL];by_cases hlt:k<l.length
 ·have w:(k:Int)<(l.length:Nat):=Om;have hr:(l.map RF.cells)[k]?=some (l[k]).cells:=by simp[hlt]
  simp only[go_sem,w,aaT,hr];refine aN fun o6 E=>?_;have A:o4≠o6:=by rintro rfl; simp only[fy,aT,if_true] at E; cases E
  have u:o2≠o6:=by rintro rfl; simp only[fy,aT,if_true,if_neg c] at E; cases E
  simp only[go_sem,aaU,fy,A,u,i,c];refine aA ((Q (FV.rf (O,S,N)) l[k] H (hl _ (aYQ hlt))).args (.cons (CoL.agg J) (.cons (.refl _) .nil))) rfl ?_;rw[FV.Tn];have d:=XJ (f:=fW) (l.map RF.v) (false,0,1) (k:=k) (by simpa using hlt);rw[V] at d;simp only[Except.bind,a0K] at d;cases U:fW (O,S,N) (l[k]).v with
  | error e =>
   simp only[go_sem,frV];refine aN fun o7 p=>?_;have W:e≠0:=by
    revert U;obtain⟨n2,a2,b2⟩:=(l[k]).v;simp only[fW,gR]
    repeat' split
    all_goals (intro h; first | (injection h with h; subst h; decide) | cases h)
   have B:o2≠o7:=by rintro rfl; simp only[aT,u,c,if_true,if_false] at p; cases p
   simp only[go_sem,wg,cT W,aaV,B,u,c];rw[U] at d;rw[nU,lg _ _ d];refine iY ?_;simp only[go_sem,M4]
  | ok r =>
   obtain⟨rn,Z,rb⟩:=r;simp only[go_sem,frV];refine aN fun o7 p=>?_;have F:o4≠o7:=by rintro rfl; simp only[aT,A,if_true,if_false] at p; cases p
   have B:o2≠o7:=by rintro rfl; simp only[aT,u,c,if_true,if_false] at p; cases p
   simp only[go_sem,wg,aaW,F,B,A,u,i,c,Ne.symm F,aaX,wZz k];rw[U] at d;refine aD (k+1,(rn,Z,rb),aJ (aI Z)) ⟨hlt,d,.inr rfl,vm U⟩ (by simp only; omega) ?_ ?_
   ·exact Lq
   ·refine PH.aK (PH.aK a_ ?_) ?_
    ·simp only[go_sem,c,i,F,B,A,u]
    ·simp only[go_sem,c,i,F,B,A,u]
 ·have w:¬ (k:Int)<(l.length:Nat):=Om;have:k=l.length:=Om;subst this;rw[aZJ (by simp)] at V;rw[nU,V];have K:cA (frV (.ok (O,S,N))) (bL [.agg [.bool O,X,aJ (aI N)],.int .i64 0]) .nil:=⟨CoL.tup (.cons (CoL.agg J) (.cons (.refl _) .nil)),rfl⟩;rcases M with ⟨rfl,rfl⟩ | rfl
  ·simp only[go_sem,w,bg,fy,i,c];refine aZ (.inr rfl) .nil ?_ a_ K;simp only[go_sem,M4,i,c]
  ·simp only[go_sem,w,bg,fy,i,c];refine aZ (.inr rfl) .nil ?_ a_ K;simp only[go_sem,M4,i,c]
def qJ:Rg:=[iT 2 false]
def qK:Rg:=[iM 3 0,iA 4 (.bin .geq (Tm 3) (.const (.int .u8 97))),iM 5 4,gM 6 0 5 true,iG 7 (.bin .leq (Tm 6) (.const (.int .u8 122))) 5 true,iP 8 5 7,iM 9 8,gM 10 0 9 false,iG 11 (.bin .geq (Tm 10) (.const (.int .u8 65))) 9 false,gM 12 11 9 false,gM 13 0 12 true,iG 14 (.bin .leq (Tm 13) (.const (.int .u8 90))) 12 true,iG 15 (.pick (Tm 12) (Tm 14) (.const zB)) 9 false,iQ 16 9 15,iM 2 16]
def lP:aC:=(sq qJ (sq qK .ret))
def anE:List Nat:=[]
def WK:aX:=⟨1,17,lP,[.tmp 2]⟩
def CJ:Rg:=[iT 2 false]
def CK:Rg:=[iM 3 0,iA 4 (.bin .geq (Tm 3) (.const (.int .u8 48))),iM 5 4,gM 6 0 5 true,iG 7 (.bin .leq (Tm 6) (.const (.int .u8 57))) 5 true,iP 8 5 7,iM 2 8]
def rE:aC:=(sq CJ (sq CK .ret))
def asV:List Nat:=[]
def ma:aX:=⟨1,9,rE,[.tmp 2]⟩
def Cc:Rg:=[iT 2 false]
def Cd:Rg:=[iM 3 0,iK 4 126 3,iM 5 4,gM 6 0 5 false,gK 7 124 6 5 false,iQ 8 5 7,iM 9 8,gM 10 0 9 false,iG 11 (.bin .eql (Tm 10) (.const (.int .u8 45))) 9 false,iQ 12 9 11,iM 13 12,gM 14 0 13 false,iG 15 (.bin .eql (Tm 14) (.const (.int .u8 46))) 13 false,iQ 16 13 15,iM 2 16]
def DU:aC:=(sq Cc (sq Cd .ret))
def atA:List Nat:=[]
def mb:aX:=⟨1,17,DU,[.tmp 2]⟩
def JU:Rg:=[iT 2 false]
def JV:Rg:=[iM 4 0,iA 5 (.bin .eql (Tm 4) (.const (.str []))),iM 6 5,gM 7 0 6 false,iG 8 (.aYC (Tm 7)) 6 false,gC 9 .gtr 8 16 6 false,iQ 10 6 9,iM 11 10,gM 12 0 11 false,iG 13 (.aYD (Tm 12) (Ci 0)) 11 false,gK 14 126 13 11 false,iG 15 (.un .not (Tm 14)) 11 false,iQ 16 11 15]
def JW:Rg:=[iT 2 false]
def Py:Rg:=[iI 3 0]
def Pz:Rg:=[iM 17 3,iM 18 0,iA 19 (.aYC (Tm 18)),iB 20 .lss 17 19]
def P0:Rg:=[iM 23 0,iM 24 3,iA 25 (.aYD (Tm 23) (Tm 24)),iK 26 125 25,iA 27 (.un .not (Tm 26))]
def P1:Rg:=[iT 2 false]
def P2:Rg:=[iM 21 3,iC 22 .add 21 1,iM 3 22]
def Px:aC:=(.seq (sq Pz (.cond (Tm 20) .skip (.exit 0))) (.seq (.block 1 (sq P0 (.cond (Tm 27) (sq P1 .ret) .skip))) (.region P2)))
def P3:Rg:=[iT 2 true]
def tG:aC:=(sq JU (.seq (sq JV (.cond (Tm 16) (sq JW .ret) .skip)) (.seq (sq Py (.block 0 (.loop Px))) (sq P3 .ret))))
def aBX:List Nat:=[]
def Jb:aX:=⟨1,28,tG,[.tmp 2]⟩
def lz:Rg:=[iT 6 false]
def l2:Rg:=[iM 7 0,iM 8 1,iB 9 .geq 7 8,iM 10 9,gM 11 0 10 true,gM 12 2 10 true,gB 13 .leq 11 12 10 true,iP 14 10 13,iM 6 14]
def AL:aC:=(sq lz (sq l2 .ret))
def aNZ:List Nat:=[]
def gin:aX:=⟨3,15,AL,[.tmp 6]⟩
def Br:Rg:=[iA 1 (.box true (Tm 0)),iT 2 false]
def Bs:Rg:=[iF 3 1 1,iL 4 3,iK 5 128 4,iC 6 .gtr 5 0,iM 2 6]
def DR:aC:=(sq Br (sq Bs .ret))
def asM:List Nat:=[1]
def Nb:aX:=⟨1,7,DR,[.tmp 2]⟩
def abM:Rg:=[iA 1 (.box true (Tm 0)),iT 2 false]
def abN:Rg:=[iO 6 3 1,iK 7 116 6,iM 5 7,iE 8 5 0,iE 9 5 1,iA 3 (.alloc [zB,.aB,.aB]),iS 3 3 8,iM 4 9]
def WE:Rg:=[iM 10 4,iC 11 .eql 10 0,iM 12 11,gF 13 0 3 12 true,gL 14 13 12 true,iG 15 (.un .not (Tm 14)) 12 true,iP 16 12 15,iM 17 16,gF 18 1 3 17 true,gL 19 18 17 true,gK 20 128 19 17 true,gC 21 .leq 20 32 17 true,iP 22 17 21,iM 23 22,gF 24 2 3 23 true,gL 25 24 23 true,gK 26 128 25 23 true,gC 27 .leq 26 32 23 true,iP 28 23 27,iM 2 28]
def RU:aC:=(sq abM (sq abN (sq WE .ret)))
def aIV:List Nat:=[1]
def aBB:aX:=⟨1,29,RU,[.tmp 2]⟩
def abR:Rg:=[iA 1 (.box true (Tm 0)),iT 2 false]
def abS:Rg:=[iA 8 (.call 115 [(Ci 1),(Ci 1)]),iM 7 8,iE 9 7 0,iE 10 7 1,iA 3 (.alloc [zB,.aB,.aB]),iS 3 3 9,iM 4 10]
def abT:Rg:=[iO 12 3 1,iO 13 3 3,iK2 14 114 12 13,iM 11 14,iE 15 11 0,iE 16 11 1,iM 5 15,iM 6 16]
def wm:Rg:=[iM 17 6,iC 18 .eql 17 0,iM 19 18,gM 20 5 19 true,gC 21 .leq 20 0 19 true,iP 22 19 21,iM 2 22]
def RW:aC:=(sq abR (sq abS (sq abT (sq wm .ret))))
def aIZ:List Nat:=[1]
def gone:aX:=⟨1,23,RW,[.tmp 2]⟩
def Nn:Rg:=[iT 4 false]
def No:Rg:=[iM 7 0,iN 8 7,iI 9 0]
def Np:Rg:=[iB 10 .lss 9 8]
def Nq:Rg:=[iX 11 3 7 9,iO 12 3 11,iA 6 (.alloc [zB,.aB,.aB]),iS 3 6 12]
def Nr:Rg:=[iM 13 1,iO 14 3 6,iA 15 (.aYE (Tm 13) [(Tm 14)]),iA 16 (.un .not (Tm 15))]
def Ns:Rg:=[iT 4 false]
def Nt:Rg:=[iC 17 .add 9 1,iM 9 17]
def Nm:aC:=(sq Np (.seq (.cond (Tm 10) .skip (.exit 0)) (.seq (.block 1 (sq Nq (sq Nr (.cond (Tm 16) (sq Ns .ret) .skip)))) (.region Nt))))
def Nu:Rg:=[iT 4 true]
def JC:aC:=(sq Nn (.seq (sq No (.block 0 (.loop Nm))) (sq Nu .ret)))
def aAU:List Nat:=[]
def amE:aX:=⟨2,18,JC,[.tmp 4]⟩
def Nw:Rg:=[iT 4 false]
def Nx:Rg:=[iM 7 0,iN 8 7,iI 9 0]
def Ny:Rg:=[iB 10 .lss 9 8]
def Nz:Rg:=[iX 11 1 7 9,iL 12 11,iM 6 12]
def N0:Rg:=[iM 13 1,iM 14 6,iA 15 (.aYE (Tm 13) [(Tm 14)]),iA 16 (.un .not (Tm 15))]
def N1:Rg:=[iT 4 false]
def N2:Rg:=[iC 17 .add 9 1,iM 9 17]
def Nv:aC:=(sq Ny (.seq (.cond (Tm 10) .skip (.exit 0)) (.seq (.block 1 (sq Nz (sq N0 (.cond (Tm 16) (sq N1 .ret) .skip)))) (.region N2))))
def N3:Rg:=[iT 4 true]
def JD:aC:=(sq Nw (.seq (sq Nx (.block 0 (.loop Nv))) (sq N3 .ret)))
def aAW:List Nat:=[]
def amF:aX:=⟨2,18,JD,[.tmp 4]⟩
def Nd:Rg:=[iT 4 false]
def Nf:Rg:=[iM 7 0,iN 8 7,iI 9 0]
def Ng:Rg:=[iB 10 .lss 9 8]
def Nh:Rg:=[iX 11 1 7 9,iL 12 11,iM 6 12]
def Ni:Rg:=[iM 13 1,iM 14 6,iA 15 (.aYE (Tm 13) [(Tm 14)]),iA 16 (.un .not (Tm 15))]
def Nj:Rg:=[iT 4 false]
def Nk:Rg:=[iC 17 .add 9 1,iM 9 17]
def Nc:aC:=(sq Ng (.seq (.cond (Tm 10) .skip (.exit 0)) (.seq (.block 1 (sq Nh (sq Ni (.cond (Tm 16) (sq Nj .ret) .skip)))) (.region Nk))))
def Nl:Rg:=[iT 4 true]
def JB:aC:=(sq Nd (.seq (sq Nf (.block 0 (.loop Nc))) (sq Nl .ret)))
def aAS:List Nat:=[]
def amD:aX:=⟨2,18,JB,[.tmp 4]⟩
def Bt:Rg:=[iT 2 false]
def Bu:Rg:=[iM 3 0,iM 2 3]
def DS:aC:=(sq Bt (sq Bu .ret))
def asO:List Nat:=[]
def N7:aX:=⟨1,4,DS,[.tmp 2]⟩
def N8:Rg:=[iA 1 (.box true (Tm 0)),iT 2 false]
def N9:Rg:=[iF 8 3 1,iL 9 8,iN 10 9,iA 11 (.aXK 1 1 [zB] (Tm 10) (Tm 10)),iM 3 11]
def Oa:Rg:=[iI 4 0]
def Ob:Rg:=[iM 12 4,iM 13 3,iN 14 13,iB 15 .leq 12 14]
def Oc:Rg:=[iM 18 3,iN 19 18,iI 20 0]
def bi:Rg:=[iB 21 .lss 20 19]
def Od:Rg:=[iM 22 20,iM 5 22]
def bj:Rg:=[iM 23 3,iM 24 5,iM 25 3,iM 26 5,iX 27 1 25 26,iL 28 27,iM 29 28,gF 30 3 1 29 false,gL 31 30 29 false,gM 32 5 29 false,iG 33 (.aXT 3 (Tm 31) (Tm 32)) 29 false,gO 34 3 33 29 false,gK 35 97 34 29 false,iQ 36 29 35,iX 37 1 23 24,iS 1 37 36]
def bk:Rg:=[iF 38 2 1,iL 39 38,iM 40 5,iX 41 1 39 40,iL 42 41,iN 43 42,iI 44 0]
def Oe:Rg:=[iB 45 .lss 44 43]
def Bw:Rg:=[iM 46 44,iX 47 3 42 44,iO 48 3 47,iA 7 (.alloc [zB,.aB,.aB]),iM 6 46,iS 3 7 48]
def RR:Rg:=[iM 49 3,iM 50 5,iM 51 3,iM 52 5,iX 53 1 51 52,iL 54 53,iM 55 54,gO 56 3 7 55 false,gK 57 97 56 55 false,gM 58 57 55 false,gM 59 3 58 true,gM 60 6 58 true,iG 61 (.aXT 1 (Tm 59) (Tm 60)) 58 true,gL 62 61 58 true,iG 63 (.pick (Tm 58) (Tm 62) (.const zB)) 55 false,iQ 64 55 63,iX 65 1 49 50,iS 1 65 64]
def CI:Rg:=[iC 66 .add 44 1,iM 44 66]
def CG:aC:=(sq Oe (.seq (.cond (Tm 45) .skip (.exit 4)) (.seq (.block 5 (sq Bw (.region RR))) (.region CI))))
def RS:Rg:=[iC 67 .add 20 1,iM 20 67]
def CH:aC:=(sq bi (.seq (.cond (Tm 21) .skip (.exit 2)) (.seq (.block 3 (sq Od (sq bj (sq bk (.block 4 (.loop CG)))))) (.region RS))))
def Bx:Rg:=[iM 16 4,iC 17 .add 16 1,iM 4 17]
def Bv:aC:=(.seq (sq Ob (.cond (Tm 15) .skip (.exit 0))) (.seq (.block 1 (sq Oc (.block 2 (.loop CH)))) (.region Bx)))
def By:Rg:=[iM 68 3,iA 69 (.call 98 [(Tm 68),(.const (.fn 103 []))]),iM 2 69]
def JE:aC:=(sq N8 (sq N9 (.seq (sq Oa (.block 0 (.loop Bv))) (sq By .ret))))
def aAZ:List Nat:=[1]
def amJ:aX:=⟨1,70,JE,[.tmp 2]⟩
def abE:Rg:=[iA 1 (.box true (Tm 0)),iT 2 false]
def abF:Rg:=[iF 12 1 1,iL 13 12,iN 14 13,iM 3 14]
def abG:Rg:=[iM 15 3,iA 16 (.call 104 [(Tm 15),(Ci 1),(Ci 4)]),iA 17 (.un .not (Tm 16)),iM 18 17,gF 19 3 1 18 false,gL 20 19 18 false,gN 21 20 18 false,gM 22 3 18 false,gB 23 .neq 21 22 18 false,iQ 24 18 23,iM 25 24,gF 26 2 1 25 false,gL 27 26 25 false,gN 28 27 25 false,gM 29 3 25 false,gB 30 .neq 28 29 25 false,iQ 31 25 30,iM 32 31,gF 33 1 1 32 false,gL 34 33 32 false,iG 35 (.call 99 [(Tm 34),(.const (.fn 105 []))]) 32 false,iG 36 (.un .not (Tm 35)) 32 false,iQ 37 32 36,iM 38 37,gF 39 3 1 38 false,gL 40 39 38 false,iG 41 (.call 99 [(Tm 40),(.const (.fn 105 []))]) 38 false,iG 42 (.un .not (Tm 41)) 38 false,iQ 43 38 42]
def zE:Rg:=[iT 2 false]
def abH:Rg:=[iF 44 2 1,iL 45 44,iN 46 45,iI 47 0]
def abI:Rg:=[iB 48 .lss 47 46]
def abJ:Rg:=[iM 49 47,iX 50 1 45 47,iL 51 50,iM 4 49,iM 5 51]
def abK:Rg:=[iM 52 5,iN 53 52,iM 54 3,iB 55 .neq 53 54,iM 56 55,gM 57 5 56 false,iG 58 (.call 99 [(Tm 57),(.const (.fn 105 []))]) 56 false,iG 59 (.un .not (Tm 58)) 56 false,iQ 60 56 59,iM 61 60,gM 62 5 61 false,gM 63 4 61 false,iG 64 (.aXT 3 (Tm 62) (Tm 63)) 61 false,gO 65 3 64 61 false,gK 66 97 65 61 false,iQ 67 61 66]
def WD:Rg:=[iT 2 false]
def abL:Rg:=[iC 68 .add 47 1,iM 47 68]
def Of:aC:=(sq abI (.seq (.cond (Tm 48) .skip (.exit 0)) (.seq (.block 1 (sq abJ (sq abK (.cond (Tm 67) (sq WD .ret) .skip)))) (.region abL))))
def bn:Rg:=[iF 70 1 1,iL 71 70,iK 72 117 71,iM 69 72,iE 73 69 0,iE 74 69 1,iA 6 (.alloc [zB,.aB,.aB]),iS 3 6 73,iM 7 74]
def JF:Rg:=[iA 76 (.call 115 [(Ci 1),(Ci 1)]),iM 75 76,iE 77 75 0,iE 78 75 1,iA 8 (.alloc [zB,.aB,.aB]),iS 3 8 77,iM 9 78]
def JG:Rg:=[iO 80 3 6,iO 81 3 8,iK2 82 114 80 81,iM 79 82,iE 83 79 0,iE 84 79 1,iM 10 83,iM 11 84]
def uP:Rg:=[iM 85 7,iC 86 .eql 85 0,iM 87 86,gM 88 10 87 true,gC 89 .eql 88 0 87 true,iP 90 87 89,iM 91 90,gO 92 4 1 91 true,gK 93 102 92 91 true,iP 94 91 93,iM 2 94]
def RT:aC:=(sq abE (sq abF (.seq (sq abG (.cond (Tm 43) (sq zE .ret) .skip)) (.seq (sq abH (.block 0 (.loop Of))) (sq bn (sq JF (sq JG (sq uP .ret))))))))
def aIT:List Nat:=[1]
def aBA:aX:=⟨1,95,RT,[.tmp 2]⟩
def Ox:Rg:=[iT 2 false]
def Oy:Rg:=[iA 6 (.aYI (false,[.str])),iM 3 6]
def Oz:Rg:=[iM 7 0,iN 8 7,iI 9 0]
def O0:Rg:=[iB 10 .lss 9 8]
def O1:Rg:=[iX 11 1 7 9,iL 12 11,iM 5 12]
def O2:Rg:=[iM 13 5,iK 14 123 13,iA 15 (.un .not (Tm 14)),iM 16 15,gM 17 3 16 false,gM 18 5 16 false,iG 19 (.lookup (false,[.str]) zB (Tm 17) (Tm 18) false) 16 false,iQ 20 16 19]
def bv:Rg:=[iT 2 false]
def O3:Rg:=[iM 21 3,iM 22 5,⟨none,.aXU (false,[.str]) (Tm 21) (Tm 22) (.const (.bool true)),none⟩]
def O4:Rg:=[iC 23 .add 9 1,iM 9 23]
def Ow:aC:=(sq O0 (.seq (.cond (Tm 10) .skip (.exit 0)) (.seq (.block 1 (sq O1 (.seq (sq O2 (.cond (Tm 20) (sq bv .ret) .skip)) (.region O3)))) (.region O4))))
def B5:Rg:=[iT 2 true]
def JJ:aC:=(sq Ox (sq Oy (.seq (sq Oz (.block 0 (.loop Ow))) (sq B5 .ret))))
def aBK:List Nat:=[]
def amO:aX:=⟨1,24,JJ,[.tmp 2]⟩
def wh:Rg:=[iA 1 (.box true (Tm 0)),iT 2 false]
def wj:Rg:=[iF 6 3 1,iL 7 6,iN 8 7,iC 9 .eql 8 0]
def aaY:Rg:=[iT 2 false]
def aaZ:Rg:=[iF 10 3 1,iL 11 10,iA 12 (.aXT 7 (Tm 11) (Ci 0)),iO 13 7 12,iA 3 (.alloc [(.str []),zI,zI,zI,zB,.aB,.aB]),iS 7 3 13]
def zD:Rg:=[iF 14 0 3,iL 15 14,iA 16 (.bin .neq (Tm 15) (.const (.str []))),iM 17 16,gF 18 1 3 17 false,gL 19 18 17 false,gC 20 .neq 19 0 17 false,iQ 21 17 20,iM 22 21,gF 23 2 3 22 false,gL 24 23 22 false,gC 25 .neq 24 (-1) 22 false,iQ 26 22 25,iM 27 26,gF 28 3 3 27 false,gL 29 28 27 false,gC 30 .neq 29 0 27 false,iQ 31 27 30,iM 32 31,gF 33 4 3 32 false,gO 34 3 33 32 false,gK 35 105 34 32 false,iG 36 (.un .not (Tm 35)) 32 false,iQ 37 32 36,iM 38 37,gF 39 4 3 38 false,gO 40 3 39 38 false,gK 41 97 40 38 false,iQ 42 38 41]
def uO:Rg:=[iT 2 false]
def abA:Rg:=[iF 43 3 1,iL 44 43,iA 45 (.slice 7 (Tm 44) (some (Ci 1)) none none),iN 46 45,iI 47 0]
def abB:Rg:=[iB 48 .lss 47 46]
def abC:Rg:=[iM 49 47,iX 50 7 45 47,iO 51 7 50,iA 5 (.alloc [(.str []),zI,zI,zI,zB,.aB,.aB]),iM 4 49,iS 7 5 51]
def abD:Rd:=[(iF 52 2 5,false),(iL 53 52,false),(iM 54 4,false),(iA 55 (.call 104 [(Tm 53),(Ci 0),(Tm 54)]),true),(iA 56 (.un .not (Tm 55)),false),(iM 57 56,false),(gF 58 3 1 57 false,false),(gL 59 58 57 false,false),(gF 60 2 5 57 false,false),(gL 61 60 57 false,false),(iG 62 (.aXT 7 (Tm 59) (Tm 61)) 57 false,false),(gF 63 1 62 57 false,false),(gL 64 63 57 false,false),(gF 65 1 5 57 false,false),(gL 66 65 57 false,false),(gC 67 .sub 66 1 57 false,false),(gB 68 .neq 64 67 57 false,false),(iQ 69 57 68,false),(iM 70 69,false),(gF 71 1 5 70 false,false),(gL 72 71 70 false,false),(iG 73 (.call 104 [(Tm 72),(Ci 1),(Ci 4)]) 70 false,true),(iG 74 (.un .not (Tm 73)) 70 false,false),(iQ 75 70 74,false),(iM 76 75,false),(gF 77 3 5 76 false,false),(gL 78 77 76 false,false),(iG 79 (.call 104 [(Tm 78),(Ci 1),(Ci 64)]) 76 false,true),(iG 80 (.un .not (Tm 79)) 76 false,false),(iQ 81 76 80,false),(iM 82 81,false),(gF 83 4 5 82 false,false),(gO 84 3 83 82 false,false),(gK 85 105 84 82 false,true),(iG 86 (.un .not (Tm 85)) 82 false,false),(iQ 87 82 86,false)]
def uN:Rg:=[iT 2 false]
def N5:Rg:=[iC 88 .add 47 1,iM 47 88]
def N4:aC:=(sq abB (.seq (.cond (Tm 48) .skip (.exit 0)) (.seq (.block 1 (sq abC (dq abD (.cond (Tm 87) (sq uN .ret) .skip)))) (.region N5))))
def N6:Rg:=[iT 2 true]
def CF:aC:=(sq wh (.seq (sq wj (.cond (Tm 9) (sq aaY .ret) .skip)) (sq aaZ (.seq (sq zD (.cond (Tm 42) (sq uO .ret) .skip)) (.seq (sq abA (.block 0 (.loop N4))) (sq N6 .ret))))))
def aIR:List Nat:=[1]
def amH:aX:=⟨1,89,CF,[.tmp 2]⟩
def Og:Rg:=[iT 2 false]
def Oh:Rg:=[iM 3 0,iA 4 (.call 104 [(Tm 3),(Ci 0),(Ci 8)]),iM 2 4]
def JH:aC:=(sq Og (sq Oh .ret))
def aBE:List Nat:=[]
def amK:aX:=⟨1,5,JH,[.tmp 2]⟩
def abO:Rg:=[iA 7 (.box true (Tm 3)),iT 8 false]
def abP:Rg:=[iM 9 0,iA 10 (.call 104 [(Tm 9),(Ci 1),(Ci 6)]),iA 11 (.un .not (Tm 10)),iM 12 11,gM 13 1 12 false,iG 14 (.call 104 [(Tm 13),(Ci 0),(Ci 4)]) 12 false,iG 15 (.un .not (Tm 14)) 12 false,iQ 16 12 15,iM 17 16,gM 18 0 17 false,gM 19 1 17 false,gB 20 .add 18 19 17 false,gC 21 .gtr 20 8 17 false,iQ 22 17 21,iM 23 22,gM 24 2 23 false,gM 25 0 23 false,gM 26 0 23 false,gM 27 1 23 false,gB 28 .add 26 27 23 false,iG 29 (.call 104 [(Tm 24),(Tm 25),(Tm 28)]) 23 false,iG 30 (.un .not (Tm 29)) 23 false,iQ 31 23 30,iM 32 31,iG 33 (.idxA 5 1 (Tm 7) (Ci 0)) 32 false,gL 34 33 32 false,gC 35 .neq 34 0 32 false,iQ 36 32 35]
def zF:Rg:=[iT 8 false]
def abQ:Rg:=[iA 37 (.sliceA 5 1 (Tm 7) none none none),iA 38 (.call 100 [(Tm 37),(.const (.fn 107 []))]),iM 8 38]
def RV:aC:=(sq abO (.seq (sq abP (.cond (Tm 36) (sq zF .ret) .skip)) (sq abQ .ret)))
def aIX:List Nat:=[7]
def aBC:aX:=⟨4,39,RV,[.tmp 8]⟩
def Bz:Rg:=[iA 1 (.box true (Tm 0)),iT 2 false]
def B0:Rg:=[iO 3 3 1,iK 4 105 3,iM 5 4,gO 6 3 1 5 true,gK 7 97 6 5 true,iP 8 5 7,iM 2 8]
def DT:aC:=(sq Bz (sq B0 .ret))
def asR:List Nat:=[1]
def On:aX:=⟨1,9,DT,[.tmp 2]⟩
def Oo:Rg:=[iA 6 (.box true (Tm 2)),iA 7 (.box true (Tm 3)),iT 8 false]
def Oq:Rg:=[iM 9 1,iN 10 9,iM 11 0,iA 12 (.aXX true (Tm 11) (Ci 1)),iB 13 .eql 10 12,iM 14 13,gM 15 1 14 true,iG 16 (.call 99 [(Tm 15),(.const (.fn 109 []))]) 14 true,iP 17 14 16,iM 18 17,gO 19 3 6 18 true,gK 20 105 19 18 true,iP 21 18 20,iM 22 21,gO 23 3 6 22 true,gK 24 101 23 22 true,iP 25 22 24,iM 26 25,gO 27 3 7 26 true,gK 28 105 27 26 true,iP 29 26 28,iM 8 29]
def JI:aC:=(sq Oo (sq Oq .ret))
def aBH:List Nat:=[6,7]
def amL:aX:=⟨4,30,JI,[.tmp 8]⟩
def abU:Rg:=[iA 2 (.box true (Tm 0)),iT 4 false]
def abV:Rg:=[iF 8 1 2,iL 9 8,iF 10 2 2,iL 11 10,iF 12 3 2,iL 13 12,iF 14 4 2,iO 15 5 14,iA 16 (.call 106 [(Tm 9),(Tm 11),(Tm 13),(Tm 15)]),iA 17 (.un .not (Tm 16)),iM 18 17,gF 19 9 2 18 false,gL 20 19 18 false,gN 21 20 18 false,gC 22 .eql 21 0 18 false,iQ 23 18 22,iM 24 23,gF 25 2 2 24 false,gL 26 25 24 false,gF 27 10 2 24 false,gL 28 27 24 false,gF 29 11 2 24 false,gO 30 3 29 24 false,gF 31 14 2 24 false,gO 32 3 31 24 false,iG 33 (.call 108 [(Tm 26),(Tm 28),(Tm 30),(Tm 32)]) 24 false,iG 34 (.un .not (Tm 33)) 24 false,iQ 35 24 34]
def WF:Rg:=[iT 4 false]
def abW:Rg:=[iM 36 1,iA 37 (.aXK 1 1 [zB] (Tm 36) (Tm 36)),iM 5 37]
def abX:Rg:=[iF 38 9 2,iL 39 38,iN 40 39,iI 41 0]
def abY:Rg:=[iB 42 .lss 41 40]
def abZ:Rg:=[iX 43 1 39 41,iL 44 43,iM 7 44]
def acA:Rg:=[iM 45 7,iM 46 1,iC 47 .sub 46 1,iA 48 (.call 104 [(Tm 45),(Ci 0),(Tm 47)]),iA 49 (.un .not (Tm 48)),iM 50 49,gM 51 5 50 false,gM 52 7 50 false,iG 53 (.aXT 1 (Tm 51) (Tm 52)) 50 false,gL 54 53 50 false,iQ 55 50 54]
def wn:Rg:=[iT 4 false]
def acB:Rg:=[iM 56 5,iM 57 7,iX 58 1 56 57,⟨none,.store 1 (Tm 58) (.const (.bool true)),none⟩]
def Oj:Rg:=[iC 59 .add 41 1,iM 41 59]
def Oi:aC:=(sq abY (.seq (.cond (Tm 42) .skip (.exit 0)) (.seq (.block 1 (sq abZ (.seq (sq acA (.cond (Tm 55) (sq wn .ret) .skip)) (.region acB)))) (.region Oj))))
def Ol:Rg:=[iT 4 true]
def RX:aC:=(sq abU (.seq (sq abV (.cond (Tm 35) (sq WF .ret) .skip)) (sq abW (.seq (sq abX (.block 0 (.loop Oi))) (sq Ol .ret)))))
def aJB:List Nat:=[2]
def aBF:aX:=⟨2,60,RX,[.tmp 4]⟩
def acC:Rg:=[iA 1 (.box true (Tm 0)),iI 2 0]
def acD:Rg:=[iF 21 0 1,iL 22 21,iA 23 (.call 104 [(Tm 22),(Ci 1),(Ci 4)]),iA 24 (.un .not (Tm 23)),iM 25 24,gF 26 1 1 25 false,gL 27 26 25 false,gN 28 27 25 false,gC 29 .gtr 28 4 25 false,iQ 30 25 29,iM 31 30,gF 32 2 1 31 false,gL 33 32 31 false,gN 34 33 31 false,gC 35 .gtr 34 4 31 false,iQ 36 31 35,iM 37 36,gF 38 3 1 37 false,gL 39 38 37 false,gN 40 39 37 false,gC 41 .gtr 40 40 37 false,iQ 42 37 41,iM 43 42,gF 44 4 1 43 false,gL 45 44 43 false,gN 46 45 43 false,gC 47 .gtr 46 24 43 false,iQ 48 43 47,iM 49 48,gF 50 5 1 49 false,gL 51 50 49 false,gN 52 51 49 false,gC 53 .gtr 52 4 49 false,iQ 54 49 53,iM 55 54,gF 56 6 1 55 false,gL 57 56 55 false,gN 58 57 55 false,gC 59 .gtr 58 12 55 false,iQ 60 55 59,iM 61 60,gO 62 7 1 61 false,gK 63 111 62 61 false,iG 64 (.un .not (Tm 63)) 61 false,iQ 65 61 64]
def qH:Rg:=[iI 2 1]
def acE:Rg:=[iZ 3,iZ 4,iZ 5,iZ 6,iZ 7]
def acF:Rg:=[iT 8 true]
def wq:Rg:=[iF 66 1 1,iL 67 66,iN 68 67,iI 69 0]
def acG:Rg:=[iB 70 .lss 69 68]
def acH:Rg:=[iX 71 4 67 69,iO 72 4 71,iA 10 (.alloc [(.str []),.aB,.aB,.aB]),iS 4 10 72]
def acI:Rg:=[iM 73 3,iF 74 0 10,iL 75 74,iA 76 (.aXI true 1 1 [(.str [])] [(0,(Tm 75))]),iA 77 (.append 1 16 (Tm 73) (Tm 76)),iM 3 77]
def wr:Rg:=[iM 78 8,iM 79 78,gO 80 4 10 79 true,gK 81 95 80 79 true,iP 82 79 81,iM 8 82]
def bw:Rg:=[iC 83 .add 69 1,iM 69 83]
def JK:aC:=(sq acG (.seq (.cond (Tm 70) .skip (.exit 0)) (.seq (.block 1 (sq acH (sq acI (.region wr)))) (.region bw))))
def bx:Rg:=[iF 84 2 1,iL 85 84,iN 86 85,iI 87 0]
def O5:Rg:=[iB 88 .lss 87 86]
def O6:Rg:=[iX 89 4 85 87,iO 90 4 89,iA 12 (.alloc [(.str []),zI,zI,zI]),iS 4 12 90]
def O7:Rg:=[iM 91 4,iF 92 0 12,iL 93 92,iA 94 (.aXI true 1 1 [(.str [])] [(0,(Tm 93))]),iA 95 (.append 1 16 (Tm 91) (Tm 94)),iM 4 95]
def bz:Rg:=[iM 96 8,iM 97 96,gF 98 1 12 97 true,gL 99 98 97 true,iG 100 (.call 104 [(Tm 99),(Ci 1),(Ci 16)]) 97 true,iP 101 97 100,iM 102 101,gF 103 2 12 102 true,gL 104 103 102 true,iG 105 (.call 104 [(Tm 104),(Ci 1),(Ci 64)]) 102 true,iP 106 102 105,iM 107 106,gF 108 3 12 107 true,gL 109 108 107 true,gF 110 1 1 107 true,gL 111 110 107 true,gN 112 111 107 true,gC 113 .sub 112 1 107 true,iG 114 (.call 104 [(Tm 109),(Ci 0),(Tm 113)]) 107 true,iP 115 107 114,iM 8 115]
def AO:Rg:=[iC 116 .add 87 1,iM 87 116]
def JL:aC:=(sq O5 (.seq (.cond (Tm 88) .skip (.exit 2)) (.seq (.block 3 (sq O6 (sq O7 (.region bz)))) (.region AO))))
def b8:Rg:=[iF 117 3 1,iL 118 117,iA 119 (.slice 7 (Tm 118) (some (Ci 1)) none none),iN 120 119,iI 121 0]
def O8:Rg:=[iB 122 .lss 121 120]
def O9:Rg:=[iX 123 7 119 121,iO 124 7 123,iA 14 (.alloc [(.str []),zI,zI,zI,zB,.aB,.aB]),iS 7 14 124]
def Pa:Rg:=[iM 125 5,iF 126 0 14,iL 127 126,iA 128 (.aXI true 1 1 [(.str [])] [(0,(Tm 127))]),iA 129 (.append 1 16 (Tm 125) (Tm 128)),iM 5 129]
def Pb:Rg:=[iC 130 .add 121 1,iM 121 130]
def JM:aC:=(sq O8 (.seq (.cond (Tm 122) .skip (.exit 4)) (.seq (.block 5 (sq O9 (.region Pa))) (.region Pb))))
def b9:Rg:=[iF 131 4 1,iL 132 131,iN 133 132,iI 134 0]
def Pc:Rg:=[iB 135 .lss 134 133]
def Pd:Rg:=[iX 136 3 132 134,iO 137 3 136,iA 16 (.alloc [(.str []),zI,zI]),iS 3 16 137]
def Pe:Rg:=[iM 138 5,iF 139 0 16,iL 140 139,iA 141 (.aXI true 1 1 [(.str [])] [(0,(Tm 140))]),iA 142 (.append 1 16 (Tm 138) (Tm 141)),iM 5 142]
def ca:Rg:=[iM 143 8,iM 144 143,gF 145 1 16 144 true,gL 146 145 144 true,gF 147 2 1 144 true,gL 148 147 144 true,gN 149 148 144 true,gC 150 .sub 149 1 144 true,iG 151 (.call 104 [(Tm 146),(Ci 0),(Tm 150)]) 144 true,iP 152 144 151,iM 153 152,gF 154 2 16 153 true,gL 155 154 153 true,gF 156 3 1 153 true,gL 157 156 153 true,gN 158 157 153 true,gC 159 .sub 158 1 153 true,iG 160 (.call 104 [(Tm 155),(Ci 0),(Tm 159)]) 153 true,iP 161 153 160,iM 162 161,gF 163 3 1 162 true,gL 164 163 162 true,gF 165 2 16 162 true,gL 166 165 162 true,iG 167 (.aXT 7 (Tm 164) (Tm 166)) 162 true,gF 168 1 167 162 true,gL 169 168 162 true,gC 170 .eql 169 4 162 true,iP 171 162 170,iM 8 171]
def uQ:Rg:=[iC 172 .add 134 1,iM 134 172]
def JN:aC:=(sq Pc (.seq (.cond (Tm 135) .skip (.exit 6)) (.seq (.block 7 (sq Pd (sq Pe (.region ca)))) (.region uQ))))
def cb:Rg:=[iF 173 5 1,iL 174 173,iN 175 174,iI 176 0]
def Pf:Rg:=[iB 177 .lss 176 175]
def Pg:Rg:=[iX 178 17 174 176,iO 179 17 178,iA 18 (.alloc [(.str []),zI,zI,zI,zI,zI,zI,zI,zI,.aB,.aB,zB,.aB,.aB,zB,.aB,.aB]),iS 17 18 179]
def Ph:Rg:=[iM 180 6,iF 181 0 18,iL 182 181,iA 183 (.aXI true 1 1 [(.str [])] [(0,(Tm 182))]),iA 184 (.append 1 16 (Tm 180) (Tm 183)),iM 6 184]
def cd:Rg:=[iM 185 8,iM 186 185,gO 187 17 18 186 true,gF 188 2 1 186 true,gL 189 188 186 true,gN 190 189 186 true,gK2 191 112 187 190 186 true,iP 192 186 191,iM 8 192]
def ce:Rg:=[iC 193 .add 176 1,iM 176 193]
def JO:aC:=(sq Pf (.seq (.cond (Tm 177) .skip (.exit 8)) (.seq (.block 9 (sq Pg (sq Ph (.region cd)))) (.region ce))))
def cf:Rg:=[iF 194 6 1,iL 195 194,iN 196 195,iI 197 0]
def Pi:Rg:=[iB 198 .lss 197 196]
def Pj:Rg:=[iX 199 2 195 197,iO 200 2 199,iA 20 (.alloc [(.str []),zI]),iS 2 20 200]
def Pk:Rg:=[iM 201 7,iF 202 0 20,iL 203 202,iA 204 (.aXI true 1 1 [(.str [])] [(0,(Tm 203))]),iA 205 (.append 1 16 (Tm 201) (Tm 204)),iM 7 205]
def cg:Rg:=[iM 206 8,iM 207 206,gF 208 1 20 207 true,gL 209 208 207 true,gF 210 5 1 207 true,gL 211 210 207 true,gN 212 211 207 true,gC 213 .sub 212 1 207 true,iG 214 (.call 104 [(Tm 209),(Ci 0),(Tm 213)]) 207 true,iP 215 207 214,iM 8 215]
def ch:Rg:=[iC 216 .add 197 1,iM 197 216]
def JP:aC:=(sq Pi (.seq (.cond (Tm 198) .skip (.exit 10)) (.seq (.block 11 (sq Pj (sq Pk (.region cg)))) (.region ch))))
def AP:Rg:=[iM 217 8,iA 218 (.un .not (Tm 217)),iM 219 218,gM 220 3 219 false,gK 221 110 220 219 false,iG 222 (.un .not (Tm 221)) 219 false,iQ 223 219 222,iM 224 223,gM 225 4 224 false,gK 226 110 225 224 false,iG 227 (.un .not (Tm 226)) 224 false,iQ 228 224 227,iM 229 228,gM 230 5 229 false,gK 231 110 230 229 false,iG 232 (.un .not (Tm 231)) 229 false,iQ 233 229 232,iM 234 233,gM 235 6 234 false,gK 236 110 235 234 false,iG 237 (.un .not (Tm 236)) 234 false,iQ 238 234 237,iM 239 238,gM 240 7 239 false,gK 241 110 240 239 false,iG 242 (.un .not (Tm 241)) 239 false,iQ 243 239 242]
def oJ:Rg:=[iI 2 1]
def JQ:Rg:=[iI 2 0]
def RY:aC:=(sq acC (.seq (sq acD (.cond (Tm 65) (sq qH .ret) .skip)) (sq acE (sq acF (.seq (sq wq (.block 0 (.loop JK))) (.seq (sq bx (.block 2 (.loop JL))) (.seq (sq b8 (.block 4 (.loop JM))) (.seq (sq b9 (.block 6 (.loop JN))) (.seq (sq cb (.block 8 (.loop JO))) (.seq (sq cf (.block 10 (.loop JP))) (.seq (sq AP (.cond (Tm 243) (sq oJ .ret) .skip)) (sq JQ .ret))))))))))))
def aJE:List Nat:=[1,76,94,128,141,183,204]
def aBL:aX:=⟨1,244,RY,[.tmp 2]⟩
@[go_sem] theorem aQW (a b:List UInt8):QA .eql a b=some (.bool (a==b)):=(rfl)
@[go_sem] theorem aQX (a b:List UInt8):QA .neq a b=some (.bool !(a==b)):=(rfl)
@[go_sem] theorem akO (a b:List UInt8):QA .add a b=if ((a.length+b.length:Nat):Int)>9223372036854775807 then none else some (.str (a++b)):=(rfl)
@[go_sem] theorem aNF:(([]:List UInt8)==[])=true:=(rfl)
@[go_sem] theorem aHD (c:UInt8) (t:List UInt8):((c::t)==[])=false:=(rfl)
theorem qC {a b:List UInt8} (h:a=b):(a==b)=true:=by simp[h]
theorem ir {a b:List UInt8} (h:a≠b):(a==b)=false:=by simp[h]
section
variable {C:Ctx} {F:PF} {H:PH}
theorem rH {name o s:Nat} {rs:List (List PV)} {vs:List PV} {v:PV} {args:List aQ} {d:Option Nat} {K:PF→PH→Prop} (h:aH C name vs .nil (aF v)) (i:H o=some (.rows s rs))
  (e:aQ.evs (F.frz o s rs) args=some vs) (c:K ((F.frz o s rs).put d v) (H.frz o s rs)):iV C name args [] d K F H:=by
 refine .inr ⟨_,_,.step o i (.refl _ _),vs,.nil,aF v,?_,a_,h,?_⟩
 ·rw[e]; simp
 ·rintro r H' ⟨rfl,rfl⟩ -;rw[PH.uW];exact c
theorem jJ.trans {c d e:PF} {i H2 l:PH} (h:jJ c i d H2) (k:jJ d H2 e l):jJ c i e l:=by
 induction h with
 | refl=>exact k
 | step o p h u=>exact .step o p (u k)
theorem qV {c:aC} {K:bT} {s:Nat} {v:PV} {rows:List (List PV)} (M:bU H s v rows)
  (h:∀ e,Seen s e rows→∀ d l,(∀ t,F t=some v→d t=some e)→(∀ i u,F i=some u→Pure u→d i=some u)→aC.wp C (.loop c) K d l):aC.wp C (.loop c) K F H:=by
 obtain⟨e,N,J⟩:=M.frz;obtain⟨d,l,O,B,E⟩:=J F;obtain⟨α,x,Hs,y,m,A,w,H2,p,rest⟩:=h e N d l B E;exact⟨α,x,Hs,y,m,A,w,H2,O.trans p,rest⟩
theorem aH.aoZ {name s:Nat} {v:PV} {rows:List (List PV)} {d:PH} {R:PV→PH→Prop} (h:aH C name [.sl s rows] d R) (i:Seen s v rows):aH C name [v] d R:=by
 rcases i with ⟨rfl,rfl⟩ | rfl
 ·refine h.args ⟨rfl,fun j p q c e=>?_⟩;cases j with
  | zero=>simp at c e; subst c; subst e; exact .nil s
  | succ j=>simp at c
 ·exact h
theorem bU.fresh {s:Nat} {v:PV} {rows:List (List PV)} {o:Nat} (h:bU H s v rows) (i:H o=none) (x:cF):bU (H.set o x) s v rows∧∀ l,v≠.osl o s 0 l:=by
 refine⟨h.ext fun q y d=>?_,fun l e=>?_⟩
 ·have:q≠o:=by rintro rfl; rw[i] at d; cases d
  simp only[aT,if_neg this,d]
 ·rcases h with ⟨_,c⟩ | ⟨q,rs,h1,c,_⟩
  ·rw[c] at e; cases e
  ·rw[h1] at e;injection e with p
   subst p;rw[i] at c; cases c
theorem nI {s b:Nat} {v:PV} {rows:List (List PV)} {r:List PV} {o:Nat} {x:cF} {K:PV→PH→Prop} (h:bU H s v rows) (l:H o=none) (u:roomFor rows.length 1 b)
  (i:∀ v' H',bU H' s v' (rows++[r])→H' o=some x→K v' H'):mZ (H.set o x) s b v (.sl s [r]) K:=by
 obtain⟨c,d⟩:=h.fresh l x;refine fP (src:=[r]) c (by simp[eF]) u fun v' H' e p=>i v' H' e (p o x (by simp only[aT,if_true]) d)
theorem qF {o s k:Nat} {rs:List (List PV)} (c:k≤rs.length):PV.frz o s rs (.osl o s 0 k)=.sl s (rs.take k):=by
 have:0+k≤rs.length:=Om;simp only[PV.frz,PV.tC,PV.dK,if_true,true_and,if_pos this,a0B]
end
def fB (n:Nat):Bool:=decide (97≤n)&&decide (n≤122)||decide (65≤n)&&decide (n≤90)
def mK (n:Nat):Bool:=decide (48≤n)&&decide (n≤57)
def fT (n:Nat):Bool:=fB n||mK n||decide (n=45)||decide (n=46)
theorem anD {C:Ctx} (n:Nat):lP.wp C (aR WK.res (aF (.bool (fB n)))) (PF.args [.int .u8 n]) .nil:=by
 have fin:∀ (F:PF) (b:Bool),F 2=some (.bool b)→b=fB n→aR WK.res (aF (.bool (fB n))) .ret F .nil:=by intro F b h e;subst e;refine aO (.inr rfl) (vs:=[.bool (fB n)]) (by simp only[go_sem,WK,h]) rfl
 unfold fB at *
 by_cases a:97≤n
 ·have i:(n:Int)≥97:=Om;by_cases b:n≤122
  ·have p:(n:Int)≤122:=Om;simp only[go_sem,lP,qJ,qK,i,p];exact fin _ _ rfl (by simp[a,b])
  ·have p:¬ (n:Int)≤122:=Om;by_cases c:65≤n
   ·have l:(n:Int)≥65:=Om;have d:¬ (n:Int)≤90:=Om;simp only[go_sem,lP,qJ,qK,i,p,l,d];exact fin _ _ rfl (by simp[a,b,c]; omega)
   ·omega
 ·have i:¬ (n:Int)≥97:=Om;by_cases c:65≤n
  ·have l:(n:Int)≥65:=Om;by_cases d:n≤90
   ·have u:(n:Int)≤90:=Om;simp only[go_sem,lP,qJ,qK,i,l,u];exact fin _ _ rfl (by simp[a,c,d])
   ·have u:¬ (n:Int)≤90:=Om;simp only[go_sem,lP,qJ,qK,i,l,u];exact fin _ _ rfl (by simp[a,c,d])
  ·have l:¬ (n:Int)≥65:=Om;simp only[go_sem,lP,qJ,qK,i,l];exact fin _ _ rfl (by simp[a,c])
theorem asU {C:Ctx} (n:Nat):rE.wp C (aR ma.res (aF (.bool (mK n)))) (PF.args [.int .u8 n]) .nil:=by
 have fin:∀ (F:PF) (b:Bool),F 2=some (.bool b)→b=mK n→aR ma.res (aF (.bool (mK n))) .ret F .nil:=by intro F b h e;subst e;refine aO (.inr rfl) (vs:=[.bool (mK n)]) (by simp only[go_sem,ma,h]) rfl
 unfold mK at *
 by_cases a:48≤n
 ·have c:(n:Int)≥48:=Om;by_cases b:n≤57
  ·have d:(n:Int)≤57:=Om;simp only[go_sem,rE,CJ,CK,c,d];exact fin _ _ rfl (by simp[a,b])
  ·have d:¬ (n:Int)≤57:=Om;simp only[go_sem,rE,CJ,CK,c,d];exact fin _ _ rfl (by simp[a,b])
 ·have c:¬ (n:Int)≥48:=Om;simp only[go_sem,rE,CJ,CK,c];exact fin _ _ rfl (by simp[a])
theorem asZ {C:Ctx} (p:∀ n:Nat,aH C 126 [.int .u8 n] .nil (aF (.bool (fB n)))) (u:∀ n:Nat,aH C 124 [.int .u8 n] .nil (aF (.bool (mK n)))) (n:Nat) :
  DU.wp C (aR mb.res (aF (.bool (fT n)))) (PF.args [.int .u8 n]) .nil:=by
 have fin:∀ (F:PF) (b:Bool),F 2=some (.bool b)→b=fT n→aR mb.res (aF (.bool (fT n))) .ret F .nil:=by intro F b h e;subst e;refine aO (.inr rfl) (vs:=[.bool (fT n)]) (by simp only[go_sem,mb,h]) rfl
 simp only[go_sem,DU,Cc,Cd];refine aA (p n) rfl ?_;cases l:fB n with
 | true =>simp only[go_sem];exact fin _ _ rfl (by simp[fT,l])
 | false =>
  simp only[go_sem];refine aA (u n) rfl ?_;cases i:mK n with
  | true =>simp only[go_sem];exact fin _ _ rfl (by simp[fT,i])
  | false =>
   by_cases c:n=45
   ·simp only[go_sem,bN (Om:(n:Int)=45)];exact fin _ _ rfl (by simp[fT,c])
   ·by_cases d:n=46
    ·simp only[go_sem,bD (Om:(n:Int)≠45),bN (Om:(n:Int)=46)];exact fin _ _ rfl (by simp[fT,d])
    ·simp only[go_sem,bD (Om:(n:Int)≠45),bD (Om:(n:Int)≠46)];exact fin _ _ rfl (by simp[fT,c,d,l,i])
def isName (s:List UInt8):Bool:=match s with
 | []=>false
 | c::_=>decide (s.length≤16)&&fB c.toNat&&s.all fun c=>fT c.toNat
theorem pN {α:Type} {p:α→Bool} {l:List α} {k:Nat} (c:k<l.length) (h:(l.take k).all p=true) (d:p l[k]=true):(l.take (k+1)).all p=true:=by
 rw[aZW c,a1X,h]; simp[d]
theorem pO {α:Type} {p:α→Bool} {l:List α} {k:Nat} (c:k<l.length) (d:p l[k]=false):l.all p=false:=by
 rw[List.all_eq_false];exact⟨l[k],aYQ c,by simp[d]⟩
def Pw (s:List UInt8) (k:Nat):PF:=((PF.nil.set 0 (.str s)).set 3 (.int .i64 k))
theorem aBW {C:Ctx} (y:∀ n:Nat,aH C 126 [.int .u8 n] .nil (aF (.bool (fB n)))) (A:∀ n:Nat,aH C 125 [.int .u8 n] .nil (aF (.bool (fT n)))) (s:List UInt8) :
  tG.wp C (aR Jb.res (aF (.bool (isName s)))) (PF.args [.str s]) .nil:=by
 have fin:∀ (F:PF) (b:Bool),F 2=some (.bool b)→b=isName s→aR Jb.res (aF (.bool (isName s))) .ret F .nil:=by intro F b h e;subst e;refine aO (.inr rfl) (vs:=[.bool (isName s)]) (by simp only[go_sem,Jb,h]) rfl
 cases s with
 | nil =>simp only[go_sem,tG,JU,JV,JW];exact fin _ _ rfl rfl
 | cons c t =>
  have E:(c::t)[0]?=some c:=rfl;have p:(c::t==[])=false:=rfl;have l:isName (c::t)=(decide ((c::t).length≤16)&&fB c.toNat&&(c::t).all fun c=>fT c.toNat):=rfl;generalize c::t=s at *
  by_cases x:s.length≤16
  ·have i:¬ (s.length:Int)>16:=Om;rw[decide_eq_true x,aYZ] at l;simp only[go_sem,tG,JU,JV,p,i,E,aZZ];refine aA (y c.toNat) rfl ?_;cases w:fB c.toNat with
   | false =>simp only[go_sem,aZF,JW];exact fin _ _ rfl (by rw[l,w]; rfl)
   | true =>
    rw[w,aYZ] at l;simp only[go_sem,aYT,Py];refine wp_loop (α:=Nat) (fun k=>Pw s k) (fun _=>.nil) (fun k=>k≤s.length∧(s.take k).all (fun c=>fT c.toNat)=true) (fun k=>s.length-k) 0 ⟨aYS _,rfl⟩ ?_ a_ ?_
    ·unfold Pw;exact Lq
    rintro k ⟨H,u⟩;simp only[go_sem,Px,Pz,Pw];by_cases hlt:k<s.length
    ·have d:(k:Int)<(s.length:Nat):=Om;have B:s[k]?=some s[k]:=aZA hlt;simp only[go_sem,d,P0,B,aZZ];refine aA (A (s[k]).toNat) rfl ?_;cases hi:fT (s[k]).toNat with
     | false =>simp only[go_sem,aZF,P1];refine fin _ false rfl ?_;rw[l,pO hlt hi]
     | true =>simp only[go_sem,aYT,P2,wZz k];refine aD (k+1) ⟨hlt,aZC.1 (pN hlt u hi)⟩ Om ?_ a_;exact Lq
    ·have d:¬ (k:Int)<(s.length:Nat):=Om;simp only[go_sem,d,P3];have:k=s.length:=Om;subst this;rw[aZJ (aYV _)] at u;exact fin _ true rfl (by rw[l,u])
  ·have i:(s.length:Int)>16:=Om;simp only[go_sem,tG,JU,JV,JW,p,i];exact fin _ _ rfl (by rw[l,decide_eq_false x]; rfl)
abbrev cK (x:Int):Prop:=-9223372036854775808≤x∧x≤9223372036854775807
structure cG where
 name:List UInt8
 start:List RF
 aXH:List (List RF)
 exit:List RF
structure cW where
 name:List UInt8
 aXS:Int
 port:Int
 law:Int
structure cE where
 name:List UInt8
 level:Int
 parent:Int
 aXW:Int
 aXR:RF
structure dL where
 name:List UInt8
 model:Int
 machine:Int
structure bV where
 name:List UInt8
 k:Int
 m:Int
 aYA:Int
 s0:Int
 s1:Int
 s2:Int
 s3:Int
 s4:Int
 aXD:List Int
 repair:List RF
 target:RF
 aXM:RF
structure fE where
 name:List UInt8
 aXO:Int
structure aE where
 aYG:Int
 aXJ:List cG
 aXD:List cW
 aXF:List cE
 aXC:List dL
 aXG:List bV
 aXE:List fE
abbrev I (x:Int):PV:=.int .i64 x
abbrev aoV (l:List (List RF)):PV:=.sl 1 (l.map fun r=>[frs r])
abbrev cG.cells (x:cG):List PV:=[.str x.name,frs x.start,aoV x.aXH,frs x.exit]
abbrev cW.cells (x:cW):List PV:=[.str x.name,.int .i64 x.aXS,.int .i64 x.port,.int .i64 x.law]
abbrev cE.cells (x:cE):List PV:=[.str x.name,.int .i64 x.level,.int .i64 x.parent,.int .i64 x.aXW,.bool x.aXR.neg,aJ x.aXR.num,aJ x.aXR.den]
abbrev dL.cells (x:dL):List PV:=[.str x.name,.int .i64 x.model,.int .i64 x.machine]
abbrev bV.cells (x:bV):List PV:=[.str x.name,.int .i64 x.k,.int .i64 x.m,.int .i64 x.aYA,.int .i64 x.s0,.int .i64 x.s1,.int .i64 x.s2,.int .i64 x.s3,.int .i64 x.s4,ints x.aXD,frs x.repair,
 .bool x.target.neg,aJ x.target.num,aJ x.target.den,.bool x.aXM.neg,aJ x.aXM.num,aJ x.aXM.den]
abbrev fE.cells (x:fE):List PV:=[.str x.name,.int .i64 x.aXO]
abbrev aE.cells (f:aE):List PV:=[.int .i64 f.aYG,.sl 4 (f.aXJ.map cG.cells),.sl 4 (f.aXD.map cW.cells),.sl 7 (f.aXF.map cE.cells),.sl 3 (f.aXC.map dL.cells),.sl 17 (f.aXG.map bV.cells),.sl 2 (f.aXE.map fE.cells)]
def bV.spread (p:bV) (level:Nat):Int:=match level with
 | 0=>p.s0
 | 1=>p.s1
 | 2=>p.s2
 | 3=>p.s3
 | _=>p.s4
abbrev Fits {α:Type} (l:List α):Prop:=l.length≤9223372036854775807
structure jR (l:List RF):Prop where
 fits:Fits l
 all:∀ x∈l,x.Ok
structure cG.Ok (x:cG):Prop where
 start:jR x.start
 exit:jR x.exit
 aXH:Fits x.aXH
 row:∀ r∈x.aXH,jR r
structure bV.Ok (x:bV):Prop where
 k:cK x.k
 m:cK x.m
 aYA:cK x.aYA
 aXD:Fits x.aXD
 each:∀ m∈x.aXD,cK m
 repair:jR x.repair
 target:x.target.Ok
 aXM:x.aXM.Ok
structure aE.Ok (f:aE):Prop where
 aXJ:Fits f.aXJ
 aXD:Fits f.aXD
 aXF:Fits f.aXF
 aXC:Fits f.aXC
 aXG:Fits f.aXG
 aXE:Fits f.aXE
 law:∀ x∈f.aXJ,x.Ok
 dom:∀ x∈f.aXF,x.aXR.Ok∧cK x.level∧cK x.parent
 drive:∀ x∈f.aXC,cK x.model∧cK x.machine
 aXO:∀ x∈f.aXG,x.Ok
 volume:∀ x∈f.aXE,cK x.aXO
def kR (x:RF):FR:=if cJ (val x.num) (val x.den) then gR x.neg (val x.num) (val x.den) else .error 1
theorem aoO (x:RF):WT x.neg (val x.num) (val x.den)=frV (kR x):=by
 unfold WT kR;split
 ·exact WL _ _ _
 ·rfl
def cV (x:RF):Bool:=match kR x with
 | .ok (n,a,b)=>!n&&(decide (cL a≤32)&&decide (cL b≤32))
 | .error _=>false
def bK (x:RF):Bool:=decide (val x.num≠0)
def wZ (x:RF):Bool:=cJ (val x.num) (val x.den)&&decide (oL x.neg (val x.num) (val x.den) false 1 1≤0)
def within (n lo hi:Int):Bool:=decide (lo≤n)&&decide (n≤hi)
def cN (R:List Bool) (i:Nat) (row:List RF):Nat→List Bool
 | 0=>R
 | k+1=>let c:=cN R i row k
  c.set i (c.getD i false||(row.map bK).getD k false&&c.getD k false)
def kP (l:cG) (R:List Bool) (i:Nat):List Bool :=
 cN (R.set i (R.getD i false||(l.exit.map bK).getD i false)) i (l.aXH.getD i []) (l.aXH.getD i []).length
def cY (l:cG) (R:List Bool):Nat→List Bool
 | 0=>R
 | i+1=>kP l (cY l R i) i
def cZ (l:cG):Nat→List Bool
 | 0=>aYR l.exit.length false
 | r+1=>cY l (cZ l r) l.exit.length
def pE (l:cG):Bool:=(cZ l (l.exit.length+1)).all id
def kG (l:cG):Bool :=
 within l.start.length 1 4&&decide (l.exit.length=l.start.length)&&decide (l.aXH.length=l.start.length)&&l.start.all cV&&l.exit.all cV
 && (aYO l.aXH.length).all (fun i=>decide ((l.aXH.getD i []).length=l.start.length)&&(l.aXH.getD i []).all cV&&!((l.aXH.getD i []).map bK).getD i false)
 && (match nU (l.start.map RF.v) with
  | .ok (n,a,b)=>decide (oL n a b false 1 1=0)
  | .error _=>false)&&pE l
def distinct (l:List (List UInt8)):Bool:=(aYO l.length).all fun i=>isName (l.getD i [])&&!(l.take i).contains (l.getD i [])
def IN (f:aE) (i:Nat) (d:cE):Bool :=
 within d.parent 0 i&&decide ((f.aXF.map cE.level).getD d.parent.toNat 0=IntKind.i64.wrap (d.level-1))&&within d.level 1 4&&within d.aXW 1 64&&cV d.aXR
def CB (f:aE) (r:cE) (t:List cE):Bool :=
 decide (r.name=[])&&decide (r.level=0)&&decide (r.parent=-1)&&decide (r.aXW=0)&&cV r.aXR&&!bK r.aXR
  && (aYO t.length).all fun i=>match t[i]? with
   | some d=>IN f i d
   | none=>false
def oH (f:aE):Bool:=match f.aXF with
 | []=>false
 | r::t=>CB f r t
def LX (p:bV):Bool :=
 within p.k 1 6&&within p.m 0 4&&decide (p.k+p.m≤8)&&within p.aYA p.k (p.k+p.m)&&decide (p.s0=0)&&([p.s0,p.s1,p.s2,p.s3,p.s4].all fun n=>within n 0 8)
def CP (p:bV):Bool :=
 decide ((p.repair.length:Int)=max p.m 1)&&(p.repair.all fun x=>cV x&&bK x)&&cV p.target&&wZ p.target&&cV p.aXM
def jO (aXD:Nat) (p:bV):Bool :=
 LX p&&decide (p.aXD.length≠0)&&CP p&&(aYO p.aXD.length).all fun j=>within (p.aXD.getD j 0) 0 ((aXD:Int)-1)&&!(p.aXD.take j).contains (p.aXD.getD j 0)
def kJ (f:aE) (m:cW):Bool:=within m.aXS 1 16&&within m.port 1 64&&within m.law 0 ((f.aXJ.length:Int)-1)
def jC (f:aE) (d:dL):Bool:=within d.model 0 ((f.aXD.length:Int)-1)&&within d.machine 0 ((f.aXF.length:Int)-1)&&decide ((f.aXF.map cE.level).getD d.machine.toNat 0=4)
def oO (f:aE) (v:fE):Bool:=within v.aXO 0 ((f.aXG.length:Int)-1)
def nS (f:aE):Bool:=within f.aYG 1 4&&decide (f.aXJ.length≤4)&&decide (f.aXD.length≤4)&&decide (f.aXF.length≤40)&&decide (f.aXC.length≤24)&&decide (f.aXG.length≤4)&&decide (f.aXE.length≤12)
def eC (f:aE):Bool :=
 nS f&&oH f&&(f.aXJ.all kG&&f.aXD.all (kJ f)&&f.aXC.all (jC f)&&f.aXG.all (jO f.aXD.length)&&f.aXE.all (oO f))
 && (distinct (f.aXJ.map cG.name)&&distinct (f.aXD.map cW.name)&&distinct ((f.aXF.drop 1).map cE.name++f.aXC.map dL.name)&&distinct (f.aXG.map bV.name)&&distinct (f.aXE.map fE.name))
theorem bE {t:Nat} {b c:Bool} {F:PF} {H:PH} (h:F t=some (.bool b)) (e:b=c):aR [.tmp t] (cA (.bool c)) .ret F H:=by
 subst e;exact aZ (.inr rfl) .nil (vs:=[.bool b]) (by rw[kS,nP,h,oX]) a_ ⟨.refl _,rfl⟩
theorem aNY {C:Ctx} (n lo hi:Int):AL.wp C (aR gin.res (cA (.bool (within n lo hi)))) (PF.args [.int .i64 n,.int .i64 lo,.int .i64 hi]) .nil:=by
 by_cases a:lo≤n
 ·by_cases b:n≤hi
  ·simp only[go_sem,AL,lz,l2,gin,show n≥lo from a,b];exact bE Ev (by simp[within,a,b])
  ·simp only[go_sem,AL,lz,l2,gin,show n≥lo from a,b];exact bE Ev (by simp[within,a,b])
 ·have c:¬ n≥lo:=a;simp only[go_sem,AL,lz,l2,gin,c];exact bE Ev (by simp[within,a])
theorem asL {C:Ctx} (L:sU C) (x:RF) (c:x.Ok):DR.wp C (aR Nb.res (cA (.bool (bK x)))) (PF.args [.agg x.cells]) .nil:=by
 simp only[go_sem,DR,Br,Bs,Nb];refine aA (L.bits x.num c.1 c.2.2.1) Ev ?_;simp only[go_sem];refine bE Ev ?_;have:=@kD (val x.num);rw[bK,decide_eq_decide];omega
structure HG (C:Ctx):Prop extends HH C where
 frac:∀ n d:Int,cK n→cK d→aH C 115 [.int .i64 n,.int .i64 d] .nil (aF (KC n d))
 red:∀ x:RF,x.Ok→aH C 116 [.agg x.cells] .nil (aF (frV (kR x)))
 ord:∀ x y:RF,x.Ok→y.Ok→aH C 114 [.agg x.cells,.agg y.cells] .nil (aF (xQ x.neg (val x.num) (val x.den) y.neg (val y.num) (val y.den)))
 plus:∀ x y:RF,x.Ok→y.Ok→aH C 113 [.agg x.cells,.agg y.cells] .nil (aF (frV (fW x.v y.v)))
 tot:∀ l:List RF,jR l→aH C 117 [frs l] .nil (aF (frV (nU (l.map RF.v))))
theorem JY {neg:Bool} {a b:Nat} {e:Int} (h:gR neg a b=.error e):e=2:=by
 unfold gR at h;split at h
 ·injection h with h; exact h.symm
 ·cases h
theorem MK {x:RF} {e:Int} (h:kR x=.error e):e≠0:=by
 unfold kR at h;split at h
 ·rw[JY h]; decide
 ·injection h with h; subst h; decide
theorem afQ {x:RF} {r:FV} (h:kR x=.ok r):r.rf.Ok:=by
 unfold kR at h;split at h
 ·exact (tH h).2
 ·cases h
theorem aIU {C:Ctx} (L:HG C) (x:RF) (p:x.Ok):RU.wp C (aR aBB.res (cA (.bool (cV x)))) (PF.args [.agg x.cells]) .nil:=by
 simp only[go_sem,RU,abM,abN,aBB];refine aA (L.red x p) Ev ?_;unfold cV;cases i:kR x with
 | error e =>have:=bD (MK i);simp only[go_sem,frV];refine aN fun o l=>?_;simp only[go_sem,WE,this];exact bE Ev rfl
 | ok r =>
  obtain⟨n,a,b⟩:=r;obtain⟨u,w,y,A⟩:=afQ i;simp only[go_sem,frV];refine aN fun o l=>?_;cases n with
  | true =>simp only[go_sem,WE];exact bE Ev rfl
  | false =>
   simp only[go_sem,WE];refine aA (L.bits _ u y) Ev ?_;rw[show val (FV.rf (false,a,b)).num=a from aS a];by_cases d:cL a≤32
   ·have c:((cL a:Nat):Int)≤32:=Om;simp only[go_sem,c];refine aA (L.bits _ w A) Ev ?_;rw[show val (FV.rf (false,a,b)).den=b from aS b];simp only[go_sem];refine bE Ev ?_;rw[decide_eq_true d];simp;omega
   ·have c:¬ ((cL a:Nat):Int)≤32:=Om;simp only[go_sem,c];refine bE Ev ?_;rw[decide_eq_false d];rfl
theorem P6:gR false 1 1=.ok (false,1,1):=by
 have:cL 1=1:=by rw[pP (by decide),jT]
 simp[gR,this]
theorem P9:KC 1 1=frV (.ok (false,1,1)):=by
 rw[KC,if_neg (by decide),WL];show frV (gR false 1 1)=_;rw[P6]
theorem auP:(FV.rf (false,1,1)).Ok:=(tH P6).2
theorem Ha:cJ 1 1=true:=by
 have:cL 1=1:=by rw[pP (by decide),jT]
 simp[cJ,this]
theorem aIY {C:Ctx} (L:HG C) (x:RF) (c:x.Ok):RW.wp C (aR gone.res (cA (.bool (wZ x)))) (PF.args [.agg x.cells]) .nil:=by
 simp only[go_sem,RW,abR,abS,gone];refine aA (L.frac 1 1 (by decide) (by decide)) Ev ?_;rw[P9];simp only[go_sem,frV];refine aN fun o d=>?_;simp only[go_sem,abT];refine aA (L.ord x (FV.rf (false,1,1)) c auP) Ev ?_;rw[show val (FV.rf (false,1,1)).num=1 from aS 1,show val (FV.rf (false,1,1)).den=1 from aS 1,show (FV.rf (false,1,1)).neg=false from rfl];unfold xQ wZ;rw[Ha,a0T];cases e:cJ (val x.num) (val x.den) with
 | false =>simp only[go_sem,wm];exact bE Ev rfl
 | true =>simp only[go_sem,wm];exact bE Ev rfl
theorem aAT {C:Ctx} (p:RF→Bool) (fn:Nat) (l:List RF) (u:Fits l) (h:∀ x∈l,aH C fn [.agg x.cells] .nil (aF (.bool (p x)))) :
  JC.wp C (aR amE.res (cA (.bool (l.all p)))) (PF.args [frs l,.fn fn []]) .nil:=by
 simp only[go_sem,JC,Nn,No,amE];refine wp_loop (α:=Nat) (fun k=>((((PF.nil.set 1 (.fn fn [])).set 7 (frs l)).set 8 (.int .i64 (l.length:Nat))).set 9 (.int .i64 k))) (fun _=>.nil) (fun k=>k≤l.length∧(l.take k).all p=true) (fun k=>l.length-k) 0 ⟨aYS _,rfl⟩ ?_ a_ ?_
 ·(repeat' (first|exact c_|refine d_ ?_ ?_))<;>first|(simp only[go_sem,aYN]<;>rfl)|rfl
 rintro k ⟨w,d⟩;simp only[go_sem,Nm,Np];by_cases hlt:k<l.length
 ·have c:(k:Int)<(l.length:Nat):=Om;have i:(l.map RF.cells)[k]?=some (l[k]).cells:=by simp[hlt]
  simp only[go_sem,c,Nq,i];refine aN fun o y=>?_;simp only[go_sem,Nr];refine aA (h _ (aYQ hlt)) Ev ?_;cases e:p l[k] with
  | false =>simp only[go_sem,Ns];exact bE (b:=false) Ev (pO (p:=p) hlt e).symm
  | true =>simp only[go_sem,Nt,wZz k];refine aD (k+1) ⟨hlt,aZC.1 (pN hlt d e)⟩ Om ?_ a_;exact Lq
 ·have c:¬ (k:Int)<(l.length:Nat):=Om;simp only[go_sem,c,Nu];have:k=l.length:=Om;subst this;rw[aZJ (aYV _)] at d;exact bE Ev d.symm
theorem aAV {C:Ctx} (p:Int→Bool) (fn:Nat) (l:List Int) (u:Fits l) (h:∀ x∈l,aH C fn [.int .i64 x] .nil (aF (.bool (p x)))) :
  JD.wp C (aR amF.res (cA (.bool (l.all p)))) (PF.args [ints l,.fn fn []]) .nil:=by
 simp only[go_sem,JD,Nw,Nx,amF];refine wp_loop (α:=Nat) (fun k=>((((PF.nil.set 1 (.fn fn [])).set 7 (ints l)).set 8 (.int .i64 (l.length:Nat))).set 9 (.int .i64 k))) (fun _=>.nil) (fun k=>k≤l.length∧(l.take k).all p=true) (fun k=>l.length-k) 0 ⟨aYS _,rfl⟩ ?_ a_ ?_
 ·(repeat' (first|exact c_|refine d_ ?_ ?_))<;>first|(simp only[go_sem,aYN]<;>rfl)|rfl
 rintro k ⟨w,d⟩;simp only[go_sem,Nv,Ny];by_cases hlt:k<l.length
 ·have c:(k:Int)<(l.length:Nat):=Om;have i:(l.map fun n=>[PV.int .i64 n])[k]?=some [.int .i64 l[k]]:=by simp[hlt]
  simp only[go_sem,c,Nz,i,N0];refine aA (h _ (aYQ hlt)) Ev ?_;cases e:p l[k] with
  | false =>simp only[go_sem,N1];exact bE (b:=false) Ev (pO (p:=p) hlt e).symm
  | true =>simp only[go_sem,N2,wZz k];refine aD (k+1) ⟨hlt,aZC.1 (pN hlt d e)⟩ Om ?_ a_;exact Lq
 ·have c:¬ (k:Int)<(l.length:Nat):=Om;simp only[go_sem,c,N3];have:k=l.length:=Om;subst this;rw[aZJ (aYV _)] at d;exact bE Ev d.symm
abbrev akP (l:List Bool):PV:=.sl 1 (l.map fun b=>[PV.bool b])
theorem aAR {C:Ctx} (p:Bool→Bool) (fn:Nat) (l:List Bool) (u:Fits l) (h:∀ x∈l,aH C fn [.bool x] .nil (aF (.bool (p x)))) :
  JB.wp C (aR amD.res (cA (.bool (l.all p)))) (PF.args [akP l,.fn fn []]) .nil:=by
 simp only[go_sem,JB,Nd,Nf,amD];refine wp_loop (α:=Nat) (fun k=>((((PF.nil.set 1 (.fn fn [])).set 7 (akP l)).set 8 (.int .i64 (l.length:Nat))).set 9 (.int .i64 k))) (fun _=>.nil) (fun k=>k≤l.length∧(l.take k).all p=true) (fun k=>l.length-k) 0 ⟨aYS _,rfl⟩ ?_ a_ ?_
 ·(repeat' (first|exact c_|refine d_ ?_ ?_))<;>first|(simp only[go_sem,aYN]<;>rfl)|rfl
 rintro k ⟨w,d⟩;simp only[go_sem,Nc,Ng];by_cases hlt:k<l.length
 ·have c:(k:Int)<(l.length:Nat):=Om;have i:(l.map fun b=>[PV.bool b])[k]?=some [.bool l[k]]:=by simp[hlt]
  simp only[go_sem,c,Nh,i,Ni];refine aA (h _ (aYQ hlt)) Ev ?_;cases e:p l[k] with
  | false =>simp only[go_sem,Nj];exact bE (b:=false) Ev (pO (p:=p) hlt e).symm
  | true =>simp only[go_sem,Nk,wZz k];refine aD (k+1) ⟨hlt,aZC.1 (pN hlt d e)⟩ Om ?_ a_;exact Lq
 ·have c:¬ (k:Int)<(l.length:Nat):=Om;simp only[go_sem,c,Nl];have:k=l.length:=Om;subst this;rw[aZJ (aYV _)] at d;exact bE Ev d.symm
theorem asN {C:Ctx} (b:Bool):DS.wp C (aR N7.res (cA (.bool b))) (PF.args [.bool b]) .nil:=by
 simp only[go_sem,DS,Bt,Bu,N7];exact bE Ev rfl
theorem aBD {C:Ctx} (c:∀ n lo hi:Int,aH C 104 [.int .i64 n,.int .i64 lo,.int .i64 hi] .nil (aF (.bool (within n lo hi)))) (n:Int):JH.wp C (aR amK.res (cA (.bool (within n 0 8)))) (PF.args [.int .i64 n]) .nil:=by
 simp only[go_sem,JH,Og,Oh,amK];refine aA (c n 0 8) Ev ?_;simp only[go_sem];exact bE Ev rfl
theorem asQ {C:Ctx} (d:∀ x:RF,x.Ok→aH C 105 [.agg x.cells] .nil (aF (.bool (cV x)))) (e:∀ x:RF,x.Ok→aH C 97 [.agg x.cells] .nil (aF (.bool (bK x)))) (x:RF) (c:x.Ok) :
  DT.wp C (aR On.res (cA (.bool (cV x&&bK x)))) (PF.args [.agg x.cells]) .nil:=by
 simp only[go_sem,DT,Bz,B0,On];refine aA (d x c) Ev ?_;cases i:cV x with
 | false =>simp only[go_sem];exact bE Ev rfl
 | true =>simp only[go_sem];refine aA (e x c) Ev ?_;simp only[go_sem];exact bE Ev rfl
end Go.PM
