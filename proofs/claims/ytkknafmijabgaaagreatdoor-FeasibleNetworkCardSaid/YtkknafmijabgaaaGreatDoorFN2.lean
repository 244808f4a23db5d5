/-
  Texts of ours, joined. No condition.
-/
import Derived.Test.YtkknafmijabgaaaGreatDoorFN1
import Derived.ProofKit
import Derived.OpenShut
set_option linter.unusedSimpArgs false
set_option linter.unusedVariables false
open Nat renaming reduceEqDiff → γ, reduceAdd → δ, reduceSub → ε, reduceMul → ζ, reduceLT → η, reduceLeDiff → θ, reduceBEq → τ
open Int renaming reduceLT → ι, reduceLE → κ, reduceEq → μ, reduceToNat → ν, reduceAdd → ξ, reduceNeg → ο, reduceBEq → ρ, reduceBNe → σ
open List renaming reduceReplicate → υ
open List renaming range → aTI, length_map → aTJ, replicate → aTK, length_append → aTM, getElem_mem → aTN, getElem?_eq_getElem → aTP, length_singleton → aTT, mem_cons → aTW, length_take → aUA, take_of_length_le → aUB, mem_range → aUD, getElem?_map → aUG, all_eq_true → aUH, mem_map → aUK, getElem?_eq_some_iff → aUN, append_assoc → aUP, map_cons → aUQ, mem_append → aUR, take_length → aUS, drop_zero → aUV, getElem?_eq_none → aUW, mem_singleton → aUY, length_cons → aVA, append_nil → aVC, getElem_of_mem → aVD, length_drop → aVE, getElem?_append_right → aVG, mem_of_getElem? → aVH, getElem?_append_left → aVI, length_set → aVJ, getElem_map → aVQ, length_nil → aVR, take_succ_eq_append_getElem → aVS, drop_eq_getElem_cons → aVV, map_nil → aVZ, take_append_drop → aWH, map_map → aWO, nil_append → aWP, getElem?_drop → aWX, set_append_right → aWZ, drop_of_length_le → aXE, length_replicate → aXI
open Nat renaming gcd → aTL, le_refl → aTO, zero_le → aTQ, mul_add → aTX, lt_or_ge → aUE, zero_add → aUF, mul_assoc → aUI, mul_comm → aUL, mul_le_mul_right → aUM, add_mul → aUT, mod_eq_of_lt → aUZ, add_zero → aVB, mod_lt → aVF, pow_succ → aVL, eq_zero_or_pos → aVP, min_eq_left → aVT, succ_mul → aVW, add_assoc → aWB, mul_le_mul_left → aWC, pos_of_ne_zero → aWD, le_trans → aWI, pow_pos → aWJ, div_eq_of_lt → aWQ, div_le_self → aWR, div_lt_iff_lt_mul → aWS, mul_le_mul → aWT, div_add_mod → aXA
open Bool renaming false_and → aTS, not_true → aTV, true_and → aTY, not_false → aTZ, and_eq_true → aUC, and_false → aUU, and_true → aVK
open Option renaming map_eq_some_iff → aTU, map_some → aUO, some → aVU, getD_some → aWE, bind_eq_some_iff → aXB, bind_some → aXC
open Array renaming length_toList → aWK
open Int renaming toNat_natCast → aWN
namespace Go.PM
open Go
attribute [go_sem] List.getElem?_cons_succ List.getElem?_cons_zero and_self and_true true_and or_true true_or or_false false_or aTV aTZ aUO aXC if_true if_false aVA aVR List.drop_succ_cons aUV List.take_succ_cons List.take_zero aUQ aVZ aVU.injEq PV.bool.injEq PV.int.injEq aP PV.bin
@[go_sem] theorem aLI (k:IntKind) (a b:Int):mH .add k a b=some (.int k (k.wrap (a+b))):=(rfl)
@[go_sem] theorem aLS (k:IntKind) (a b:Int):mH .sub k a b=some (.int k (k.wrap (a-b))):=(rfl)
@[go_sem] theorem aLO (k:IntKind) (a b:Int):mH .mul k a b=some (.int k (k.wrap (a*b))):=(rfl)
@[go_sem] theorem aLQ (k:IntKind) (a b:Int):mH .quo k a b=if b=0 then none else some (.int k (k.wrap (a.tdiv b))):=(rfl)
@[go_sem] theorem aLR (k:IntKind) (a b:Int):mH .rem k a b=if b=0 then none else some (.int k (a.tmod b)):=(rfl)
@[go_sem] theorem aLJ (k:IntKind) (a b:Int):mH .eql k a b=some (.bool (a==b)):=(rfl)
@[go_sem] theorem aLP (k:IntKind) (a b:Int):mH .neq k a b=some (.bool (a != b)):=(rfl)
@[go_sem] theorem aLN (k:IntKind) (a b:Int):mH .lss k a b=some (.bool (decide (a<b))):=(rfl)
@[go_sem] theorem aLM (k:IntKind) (a b:Int):mH .leq k a b=some (.bool (decide (a≤b))):=(rfl)
@[go_sem] theorem aLL (k:IntKind) (a b:Int):mH .gtr k a b=some (.bool (decide (a>b))):=(rfl)
@[go_sem] theorem aLK (k:IntKind) (a b:Int):mH .geq k a b=some (.bool (decide (a≥b))):=(rfl)
section
variable {C:Ctx} {K:cE} {F:PF} {H:PH}
@[go_sem] theorem aPX:aC.wp C .skip K F H=K .normal F H:=(rfl)
@[go_sem] theorem aNE (ops:List aZ):aC.wp C (.region ops) K F H=wpOps C ops (K .normal) F H:=(rfl)
@[go_sem] theorem vt (a b:aC):aC.wp C (.seq a b) K F H=a.wp C (jV C (b.wp C) K) F H:=(rfl)
@[go_sem] theorem aON (id:Nat) (c:aC):aC.wp C (.block id c) K F H=c.wp C (fA id K) F H:=(rfl)
@[go_sem] theorem aPW (id:Nat):aC.wp C (.exit id) K F H=K (.exit id) F H:=(rfl)
@[go_sem] theorem aQI:aC.wp C .ret K F H=K .ret F H:=(rfl)
def UA (C:Ctx) (v:Option PV) (a b:aC) (K:cE) (F:PF) (H:PH):Prop :=
 match v with
 | some (.bool t)=>if t then a.wp C K F H else b.wp C K F H
 | _=>False
@[go_sem] theorem aAU (c:aN) (a b:aC):aC.wp C (.cond c a b) K F H=UA C (c.ev F) a b K F H:=(rfl)
@[go_sem] theorem aLX (a b:aC):UA C (some (.bool true)) a b K F H=a.wp C K F H:=(rfl)
@[go_sem] theorem aKJ (a b:aC):UA C (some (.bool false)) a b K F H=b.wp C K F H:=(rfl)
theorem atL {t:Bool} {a b:aC} (e:t=true→a.wp C K F H) (j:t=false→b.wp C K F H):UA C (some (.bool t)) a b K F H:=by
 cases t
 ·exact j rfl
 ·exact e rfl
@[go_sem] theorem aKR (w:cE→PF→PH→Prop):jV C w K .normal F H=w K F H:=(rfl)
@[go_sem] theorem aJW (w:cE→PF→PH→Prop):jV C w K .normal=w K:=(rfl)
@[go_sem] theorem aOA (w:cE→PF→PH→Prop) (id:Nat):jV C w K (.exit id)=K (.exit id):=(rfl)
@[go_sem] theorem aPN (w:cE→PF→PH→Prop):jV C w K .ret=K .ret:=(rfl)
@[go_sem] theorem aIB (id:Nat):fA id K .normal=K .normal:=(rfl)
@[go_sem] theorem aLV (id:Nat):fA id K .ret=K .ret:=(rfl)
@[go_sem] theorem DL (id e:Nat):fA id K (.exit e) F H=if e=id then K .normal F H else K (.exit e) F H:=(rfl)
@[go_sem] theorem aNC (K:PF→PH→Prop):wpOps C [] K F H=K F H:=(rfl)
@[go_sem] theorem aND (d:Option Nat) (op:POp) (e:List aZ) (K:PF→PH→Prop):wpOps C (⟨d,op,none⟩::e) K F H=wpOp C op d (wpOps C e K) F H:=(rfl)
def xE (C:Ctx) (v:Option PV) (j:Bool) (op:POp) (d:Option Nat) (e:List aZ) (K:PF→PH→Prop) (F:PF) (H:PH):Prop :=
 match v with
 | some (.bool b)=>if b=j then wpOp C op d (wpOps C e K) F H else wpOps C e K (F.put d (.tup [])) H
 | some (.tup [])=>wpOps C e K (F.put d (.tup [])) H
 | _=>False
@[go_sem] theorem U1 (d:Option Nat) (op:POp) (t:Nat) (j:Bool) (e:List aZ) (K:PF→PH→Prop) :
  wpOps C (⟨d,op,some (t,j)⟩::e) K F H=xE C (F t) j op d e K F H:=(rfl)
@[go_sem] theorem aNW (op:POp) (d:Option Nat) (e:List aZ) (K:PF→PH→Prop):xE C (some (.bool true)) true op d e K F H=wpOp C op d (wpOps C e K) F H:=(rfl)
@[go_sem] theorem aNT (op:POp) (d:Option Nat) (e:List aZ) (K:PF→PH→Prop):xE C (some (.bool false)) false op d e K F H=wpOp C op d (wpOps C e K) F H:=(rfl)
@[go_sem] theorem aNV (op:POp) (d:Option Nat) (e:List aZ) (K:PF→PH→Prop):xE C (some (.bool true)) false op d e K F H=wpOps C e K (F.put d (.tup [])) H:=(rfl)
@[go_sem] theorem aNU (op:POp) (d:Option Nat) (e:List aZ) (K:PF→PH→Prop):xE C (some (.bool false)) true op d e K F H=wpOps C e K (F.put d (.tup [])) H:=(rfl)
@[go_sem] theorem aKO (j:Bool) (op:POp) (d:Option Nat) (e:List aZ) (K:PF→PH→Prop):xE C (some (.tup [])) j op d e K F H=wpOps C e K (F.put d (.tup [])) H:=(rfl)
@[go_sem] theorem aPL (d:Nat) (v:PV):F.put (some d) v=F.set d v:=(rfl)
@[go_sem] theorem aPK (v:PV):F.put none v=F:=(rfl)
@[go_sem] theorem mQ (i j:Nat) (v:PV):(F.set i v) j=if j=i then some v else F j:=(rfl)
@[go_sem] theorem args_at (vs:List PV) (i:Nat):PF.args vs i=vs[i]?:=(rfl)
@[go_sem] theorem aQN (i:Nat):PF.nil i=none:=(rfl)
@[go_sem] theorem io (t:Nat):(aN.tmp t).ev F=F t:=(rfl)
@[go_sem] theorem aPC (v:PV):(aN.const v).ev F=some v:=(rfl)
@[go_sem] theorem aT (i j:Nat) (x:bO):(H.set i x) j=if j=i then some x else H j:=(rfl)
@[go_sem] theorem sx (i:Nat):PH.nil i=none:=(rfl)
@[go_sem] theorem UD:aN.evs F []=some []:=(rfl)
@[go_sem] theorem AR (x:aN) (xs:List aN):aN.evs F (x::xs)=(match x.ev F,aN.evs F xs with | some v,some vs=>some (v::vs) | _,_=>none):=(rfl)
theorem jR {i j:Nat} {x:bO}:(H.set i x) j=none↔j≠i∧H j=none:=by
 rw[aT];split<;>simp_all
@[go_sem] theorem aKS (v:PV) (d:Option Nat) (K:PF→PH→Prop):bW (some v) d K F H=K (F.put d v) H:=by
 simp[bW]
theorem aO {e:Nat→PV} {x:bO} {d:Option Nat} {K:PF→PH→Prop} (h:∀ o,H o=none→K (F.put d (e o)) (H.set o x)):nG (some (e,x)) d K F H:=⟨e,x,rfl,h⟩
@[go_sem] theorem aQG (x:aN) (d:Option Nat) (K:PF→PH→Prop):wpOp C (.mv x) d K F H=bW (aP (.mv x) F H) d K F H:=(rfl)
@[go_sem] theorem aOM (x:aN) (d:Option Nat) (K:PF→PH→Prop):wpOp C (.same x) d K F H=bW (aP (.same x) F H) d K F H:=(rfl)
@[go_sem] theorem aOL (c a b:aN) (d:Option Nat) (K:PF→PH→Prop):wpOp C (.pick c a b) d K F H=bW (aP (.pick c a b) F H) d K F H:=(rfl)
@[go_sem] theorem aPR (o:BinOp) (x y:aN) (d:Option Nat) (K:PF→PH→Prop):wpOp C (.bin o x y) d K F H=bW (aP (.bin o x y) F H) d K F H:=(rfl)
@[go_sem] theorem aPT (n:Bool) (x y:aN) (d:Option Nat) (K:PF→PH→Prop):wpOp C (.eqb n x y) d K F H=bW (aP (.eqb n x y) F H) d K F H:=(rfl)
@[go_sem] theorem aPU (n:Bool) (e:List Sc) (x y:aN) (d:Option Nat) (K:PF→PH→Prop):wpOp C (.eqs n e x y) d K F H=bW (aP (.eqs n e x y) F H) d K F H:=(rfl)
@[go_sem] theorem aQH (o:UnOp) (x:aN) (d:Option Nat) (K:PF→PH→Prop):wpOp C (.un o x) d K F H=bW (aP (.un o x) F H) d K F H:=(rfl)
@[go_sem] theorem aOE (k:IntKind) (x:aN) (d:Option Nat) (K:PF→PH→Prop):wpOp C (.conv k x) d K F H=bW (aP (.conv k x) F H) d K F H:=(rfl)
@[go_sem] theorem aMV (z:List PV) (ps:List (Nat × Nat × aN)) (d:Option Nat) (K:PF→PH→Prop):wpOp C (.build z ps) d K F H=bW (aP (.build z ps) F H) d K F H:=(rfl)
@[go_sem] theorem aOJ (n:Option Nat) (p:aN) (d:Option Nat) (K:PF→PH→Prop):wpOp C (.load n p) d K F H=bW (aP (.load n p) F H) d K F H:=(rfl)
@[go_sem] theorem aLD (x:aN) (d:Option Nat) (K:PF→PH→Prop):wpOp C (.aSI x) d K F H=bW (aP (.aSI x) F H) d K F H:=(rfl)
@[go_sem] theorem aKW (e:Nat) (x:aN) (d:Option Nat) (K:PF→PH→Prop):wpOp C (.aSZ e x) d K F H=bW (aP (.aSZ e x) F H) d K F H:=(rfl)
@[go_sem] theorem aMX (e:Nat) (n:Option Nat) (x:aN) (d:Option Nat) (K:PF→PH→Prop):wpOp C (.field e n x) d K F H=bW (aP (.field e n x) F H) d K F H:=(rfl)
@[go_sem] theorem aOG (s:Nat) (x i:aN) (d:Option Nat) (K:PF→PH→Prop):wpOp C (.aSM s x i) d K F H=bW (aP (.aSM s x i) F H) d K F H:=(rfl)
@[go_sem] theorem aOF (n s:Nat) (x i:aN) (d:Option Nat) (K:PF→PH→Prop):wpOp C (.idxA n s x i) d K F H=bW (aP (.idxA n s x i) F H) d K F H:=(rfl)
@[go_sem] theorem aOH (n s:Nat) (g:Bool) (x i:aN) (d:Option Nat) (K:PF→PH→Prop):wpOp C (.idxV n s g x i) d K F H=bW (aP (.idxV n s g x i) F H) d K F H:=(rfl)
@[go_sem] theorem aKX (x i:aN) (d:Option Nat) (K:PF→PH→Prop):wpOp C (.aSX x i) d K F H=bW (aP (.aSX x i) F H) d K F H:=(rfl)
@[go_sem] theorem aNA (s:Nat) (x:aN) (lo hi mx:Option aN) (d:Option Nat) (K:PF→PH→Prop):wpOp C (.slice s x lo hi mx) d K F H=bW (aP (.slice s x lo hi mx) F H) d K F H:=(rfl)
@[go_sem] theorem aLE (n s:Nat) (x:aN) (lo hi mx:Option aN) (d:Option Nat) (K:PF→PH→Prop):wpOp C (.sliceA n s x lo hi mx) d K F H=bW (aP (.sliceA n s x lo hi mx) F H) d K F H:=(rfl)
@[go_sem] theorem aIE (x:aN) (lo hi:Option aN) (d:Option Nat) (K:PF→PH→Prop):wpOp C (.aSS x lo hi) d K F H=bW (aP (.aSS x lo hi) F H) d K F H:=(rfl)
@[go_sem] theorem aNX:PV.uA .aB=some (.int .i64 0):=(rfl)
@[go_sem] theorem aQF (s:Nat) (rows:List (List PV)):PV.uA (.sl s rows)=some (.int .i64 rows.length):=(rfl)
@[go_sem] theorem aPI (o s e n:Nat):PV.uA (.osl o s e n)=some (.int .i64 n):=(rfl)
@[go_sem] theorem aPV (x:aN) (d:Option Nat) (K:PF→PH→Prop):wpOp C (.len x) d K F H=bW (aP (.len x) F H) d K F H:=(rfl)
@[go_sem] theorem aKZ (x:aN) (d:Option Nat) (K:PF→PH→Prop):wpOp C (.aSW x) d K F H=bW (aP (.aSW x) F H) d K F H:=(rfl)
@[go_sem] theorem aOI (x:aN) (d:Option Nat) (K:PF→PH→Prop):wpOp C (.lenM x) d K F H=bW (aP (.lenM x) F H) d K F H:=(rfl)
@[go_sem] theorem aMY (n:Bool) (x:aN) (d:Option Nat) (K:PF→PH→Prop):wpOp C (.isNil n x) d K F H=bW (aP (.isNil n x) F H) d K F H:=(rfl)
@[go_sem] theorem aKQ:PV.GR .aB=some true:=(rfl)
@[go_sem] theorem aMK (o s e len:Nat):PV.GR (.osl o s e len)=some false:=(rfl)
@[go_sem] theorem aKP (s:Nat) (r:List PV) (rs:List (List PV)):PV.GR (.sl s (r::rs))=some false:=(rfl)
@[go_sem] theorem aKV (x:aN) (d:Option Nat) (K:PF→PH→Prop):wpOp C (.aTH x) d K F H=bW (aP (.aTH x) F H) d K F H:=(rfl)
@[go_sem] theorem aKF (x:aN) (i:Nat) (d:Option Nat) (K:PF→PH→Prop):wpOp C (.extract x i) d K F H=bW (aP (.extract x i) F H) d K F H:=(rfl)
@[go_sem] theorem aLC (m:Bool) (x y:aN) (d:Option Nat) (K:PF→PH→Prop):wpOp C (.aSQ m x y) d K F H=bW (aP (.aSQ m x y) F H) d K F H:=(rfl)
@[go_sem] theorem aOK (n:Nat) (cs:List aN) (d:Option Nat) (K:PF→PH→Prop):wpOp C (.mkfn n cs) d K F H=bW (aP (.mkfn n cs) F H) d K F H:=(rfl)
@[go_sem] theorem aLA (sh:MSh) (z:PV) (x k:aN) (ok:Bool) (d:Option Nat) (K:PF→PH→Prop):wpOp C (.lookup sh z x k ok) d K F H=bW (aP (.lookup sh z x k ok) F H) d K F H:=(rfl)
@[go_sem] theorem aHQ (x:aN) (d:Option Nat) (K:PF→PH→Prop):wpOp C (.aSJ x) d K F H=bW (aP (.aSJ x) F H) d K F H:=(rfl)
@[go_sem] theorem aOC (x:aN) (d:Option Nat) (K:PF→PH→Prop):wpOp C (.box true x) d K F H=bW (aP (.box true x) F H) d K F H:=(rfl)
@[go_sem] theorem aKE (s l:Nat) (z:List PV) (ps:List (Nat × aN)) (d:Option Nat) (K:PF→PH→Prop):wpOp C (.aSA true s l z ps) d K F H=bW (aP (.aSA true s l z ps) F H) d K F H:=(rfl)
@[go_sem] theorem aMU (cs:List PV) (d:Option Nat) (K:PF→PH→Prop):wpOp C (.alloc cs) d K F H=nG (dL (.alloc cs) F) d K F H:=(rfl)
@[go_sem] theorem aKG (s b:Nat) (z:List PV) (l c:aN) (d:Option Nat) (K:PF→PH→Prop):wpOp C (.aSD s b z l c) d K F H=nG (dL (.aSD s b z l c) F) d K F H:=(rfl)
@[go_sem] theorem aMZ (sh:MSh) (d:Option Nat) (K:PF→PH→Prop):wpOp C (.aTD sh) d K F H=nG (dL (.aTD sh) F) d K F H:=(rfl)
@[go_sem] theorem aPS (x:aN) (d:Option Nat) (K:PF→PH→Prop):wpOp C (.box false x) d K F H=nG (dL (.box false x) F) d K F H:=(rfl)
@[go_sem] theorem aKU (s l:Nat) (z:List PV) (ps:List (Nat × aN)) (d:Option Nat) (K:PF→PH→Prop):wpOp C (.aSA false s l z ps) d K F H=nG (dL (.aSA false s l z ps) F) d K F H:=(rfl)
@[go_sem] theorem aNB (n:Nat) (p x:aN) (d:Option Nat) (K:PF→PH→Prop):wpOp C (.store n p x) d K F H=cG (.store n p x) F H (fun r H'=>K (F.put d r) H'):=(rfl)
@[go_sem] theorem aKT (s b:Nat) (x y:aN) (d:Option Nat) (K:PF→PH→Prop):wpOp C (.append s b x y) d K F H=cG (.append s b x y) F H (fun r H'=>K (F.put d r) H'):=(rfl)
@[go_sem] theorem aLB (sh:MSh) (x k v:aN) (d:Option Nat) (K:PF→PH→Prop):wpOp C (.aSN sh x k v) d K F H=cG (.aSN sh x k v) F H (fun r H'=>K (F.put d r) H'):=(rfl)
@[go_sem] theorem aKY (sh:MSh) (x k v:aN) (d:Option Nat) (K:PF→PH→Prop):wpOp C (.insert sh x k v) d K F H=cG (.insert sh x k v) F H (fun r H'=>K (F.put d r) H'):=(rfl)
@[go_sem] theorem aOD (n:Nat) (e:List aN) (d:Option Nat) (K:PF→PH→Prop):wpOp C (.call n e) d K F H=hC C n e [] d K F H:=(rfl)
@[go_sem] theorem aMW (x:aN) (e:List aN) (d:Option Nat) (K:PF→PH→Prop):wpOp C (.aSY x e) d K F H=wG C (x.ev F) e d K F H:=(rfl)
@[go_sem] theorem aMT (n:Nat) (cs:List PV) (e:List aN) (d:Option Nat) (K:PF→PH→Prop):wG C (some (.fn n cs)) e d K F H=hC C n e cs d K F H:=(rfl)
theorem PF.nil_le:PF.nil.le F:=fun _ _ h=>(by cases h)
abbrev c_:=@PF.nil_le
theorem PF.aE {i:Nat} {v:PV} {G:PF} (w:F.le G) (x:G i=some v):(F.set i v).le G:=by
 intro j u l;rw[mQ] at l;split at l
 ·rename_i e; subst e; cases l; exact x
 ·exact w _ _ l
abbrev d_:=@PF.aE
theorem PF.le_refl:F.le F:=fun _ _ h=>h
theorem PH.nil_le:PH.nil.le H:=fun _ _ h=>(by cases h)
abbrev a_:=@PH.nil_le
theorem PH.aE {i:Nat} {x:bO} {G:PH} (w:H.le G) (y:G i=some x):(H.set i x).le G:=by
 intro j u l;rw[aT] at l;split at l
 ·rename_i e; subst e; cases l; exact y
 ·exact w _ _ l
abbrev e_:=@PH.aE
theorem PH.le_refl:H.le H:=fun _ _ h=>h
abbrev b_:=@PH.le_refl
theorem wp_loop {c:aC} {α:Type} (e:α→PF) (Hs:α→PH) (j:α→Prop) (m:α→Nat) (l:α) (u:j l) (w:(e l).le F) (x:(Hs l).le H)
  (hb:∀ a,j a→c.wp C (fN e Hs j m (m a) K) (e a) (Hs a)):aC.wp C (.loop c) K F H :=
 ⟨α,e,Hs,j,m,l,F,H,.refl F H,u,w,x,hb⟩
theorem aH {α:Type} {e:α→PF} {Hs:α→PH} {j:α→Prop} {m:α→Nat} {n:Nat} (a:α) (l:j a) (x:m a<n) (u:(e a).le F) (w:(Hs a).le H):fN e Hs j m n K .normal F H :=
 ⟨a,F,H,.refl F H,l,x,u,w⟩
@[go_sem] theorem aMN {α:Type} {e:α→PF} {Hs:α→PH} {j:α→Prop} {m:α→Nat} {n:Nat} (id:Nat):fN e Hs j m n K (.exit id)=K (.exit id):=(rfl)
@[go_sem] theorem aNY {α:Type} {e:α→PF} {Hs:α→PH} {j:α→Prop} {m:α→Nat} {n:Nat}:fN e Hs j m n K .ret=K .ret:=(rfl)
def aI (v:PV) (r:PV) (H:PH):Prop:=r=v∧H=PH.nil
theorem PH.nJ:H.over .nil .nil=H:=PH.ext fun o=>rfl
theorem Uz {name:Nat} {vs cs:List PV} {v:PV} {args:List aN} {d:Option Nat} {K:PF→PH→Prop} (h:aG C name (vs++cs) .nil (aI v)) (e:aN.evs F args=some vs)
  (j:K (F.put d v) H):hC C name args cs d K F H:=by
 refine .inl ⟨vs++cs,.nil,_,by rw[e]; rfl,a_,h,?_⟩;rintro r H' ⟨rfl,rfl⟩ _;rw[PH.nJ];exact j
theorem aA {name:Nat} {vs:List PV} {v:PV} {args:List aN} {d:Option Nat} {K:PF→PH→Prop} (h:aG C name vs .nil (aI v)) (e:aN.evs F args=some vs)
  (j:K (F.put d v) H):hC C name args [] d K F H:=Uz (cs:=[]) (by rw[aVC]; exact h) e j
theorem aQ {res:List dY} {vs:List PV} {v:PV} {e:kT} (he:e=.normal∨e=.ret) (h:dY.evs F H res=some vs) (x:bQ vs=v):aR res (aI v) e F H:=by
 have j:∃ vs,dY.evs F H res=some vs∧∃ l w H2,jE (PF.nil.set 0 (bQ vs)) H l w∧H2.le w∧∃ u,l 0=some u∧aI v u H2 :=
  ⟨vs,h,_,H,.nil,.refl _ _,a_,v,by rw[mQ,if_pos rfl,x],rfl,rfl⟩
 rcases he with rfl | rfl<;>exact j
@[go_sem] theorem pK:dY.evs F H []=some []:=(rfl)
@[go_sem] theorem lK (x:dY) (xs:List dY):dY.evs F H (x::xs)=(match x.ev F H,dY.evs F H xs with | some v,some vs=>some (v::vs) | _,_=>none):=(rfl)
@[go_sem] theorem oI (t:Nat):dY.ev F H (.tmp t)=F t:=(rfl)
@[go_sem] theorem aPM (t:Nat):dY.ev F H (.cell t none)=(match F t with | some p=>(match loadCells H p 1 with | some [v]=>some v | _=>none) | none=>none):=(rfl)
@[go_sem] theorem aNZ (t k:Nat):dY.ev F H (.cell t (some k))=(match F t with | some p=>(loadCells H p k).map .agg | none=>none):=(rfl)
end
section
variable {C:Ctx} {K:cE} {F:PF} {H Hs:PH} {S:Spec}
theorem bC {ops:List (aZ × Bool)} (Hs:PH) (S:Spec) (e:Hs.le H) (h:wpD C Hs S ops (K .normal) F H):aC.wp C (.draw ops) K F H:=⟨Hs,S,e,h⟩
def cX:Spec:=fun _ _=>none
def dOp (C:Ctx) (Hs:PH) (S:Spec) (st:Bool) (op:POp) (d:Option Nat) (K:PF→PH→Prop) (F:PF) (H:PH):Prop:=(op.kind F).run C Hs S st (fun v H'=>K (F.put d v) H') H
@[go_sem] theorem aPP (K:PF→PH→Prop):wpD C Hs S [] K F H=K F H:=(rfl)
@[go_sem] theorem aPQ (d:Option Nat) (op:POp) (st:Bool) (e:List (aZ × Bool)) (K:PF→PH→Prop):wpD C Hs S ((⟨d,op,none⟩,st)::e) K F H=dOp C Hs S st op d (wpD C Hs S e K) F H:=(rfl)
def AZ (C:Ctx) (Hs:PH) (S:Spec) (v:Option PV) (j st:Bool) (op:POp) (d:Option Nat) (e:List (aZ × Bool)) (K:PF→PH→Prop) (F:PF) (H:PH):Prop :=
 match v with
 | some (.bool b)=>if b=j then dOp C Hs S st op d (wpD C Hs S e K) F H else wpD C Hs S e K (F.put d (.tup [])) H
 | some (.tup [])=>wpD C Hs S e K (F.put d (.tup [])) H
 | _=>False
@[go_sem] theorem aOB (d:Option Nat) (op:POp) (t:Nat) (e st:Bool) (j:List (aZ × Bool)) (K:PF→PH→Prop) :
  wpD C Hs S ((⟨d,op,some (t,e)⟩,st)::j) K F H=AZ C Hs S (F t) e st op d j K F H:=by
 have l:wpD C Hs S ((⟨d,op,some (t,e)⟩,st)::j) K F H=((⟨d,op,some (t,e)⟩:aZ).kind F).run C Hs S st (fun v H'=>wpD C Hs S j K (F.put d v) H') H:=(rfl);rw[l];unfold aZ.kind AZ;simp only;cases F t with
 | none=>rfl
 | some v =>
  cases v
  case bool b =>
   simp only;by_cases hb:b=e
   ·rw[if_pos hb,if_pos hb]; rfl
   ·rw[if_neg hb,if_neg hb]; simp[Kind.run]
  case tup vs=>cases vs<;>simp[Kind.run]
  all_goals rfl
@[go_sem] theorem aNS (op:POp) (st:Bool) (d:Option Nat) (e:List (aZ × Bool)) (K:PF→PH→Prop):AZ C Hs S (some (.bool true)) true st op d e K F H=dOp C Hs S st op d (wpD C Hs S e K) F H:=(rfl)
@[go_sem] theorem aNP (op:POp) (st:Bool) (d:Option Nat) (e:List (aZ × Bool)) (K:PF→PH→Prop):AZ C Hs S (some (.bool false)) false st op d e K F H=dOp C Hs S st op d (wpD C Hs S e K) F H:=(rfl)
@[go_sem] theorem aNR (op:POp) (st:Bool) (d:Option Nat) (e:List (aZ × Bool)) (K:PF→PH→Prop):AZ C Hs S (some (.bool true)) false st op d e K F H=wpD C Hs S e K (F.put d (.tup [])) H:=(rfl)
@[go_sem] theorem aNQ (op:POp) (st:Bool) (d:Option Nat) (e:List (aZ × Bool)) (K:PF→PH→Prop):AZ C Hs S (some (.bool false)) true st op d e K F H=wpD C Hs S e K (F.put d (.tup [])) H:=(rfl)
@[go_sem] theorem aKN (j:Bool) (op:POp) (st:Bool) (d:Option Nat) (e:List (aZ × Bool)) (K:PF→PH→Prop):AZ C Hs S (some (.tup [])) j st op d e K F H=wpD C Hs S e K (F.put d (.tup [])) H:=(rfl)
@[go_sem] theorem aQJ (x:aN) (st:Bool) (d:Option Nat) (K:PF→PH→Prop):dOp C Hs S st (.mv x) d K F H=bW (aP (.mv x) F (if st then Hs else H)) d K F H:=(rfl)
@[go_sem] theorem aPB (x:aN) (st:Bool) (d:Option Nat) (K:PF→PH→Prop):dOp C Hs S st (.same x) d K F H=bW (aP (.same x) F (if st then Hs else H)) d K F H:=(rfl)
@[go_sem] theorem aPA (c a b:aN) (st:Bool) (d:Option Nat) (K:PF→PH→Prop):dOp C Hs S st (.pick c a b) d K F H=bW (aP (.pick c a b) F (if st then Hs else H)) d K F H:=(rfl)
@[go_sem] theorem aPY (o:BinOp) (x y:aN) (st:Bool) (d:Option Nat) (K:PF→PH→Prop):dOp C Hs S st (.bin o x y) d K F H=bW (aP (.bin o x y) F (if st then Hs else H)) d K F H:=(rfl)
@[go_sem] theorem aQA (n:Bool) (x y:aN) (st:Bool) (d:Option Nat) (K:PF→PH→Prop):dOp C Hs S st (.eqb n x y) d K F H=bW (aP (.eqb n x y) F (if st then Hs else H)) d K F H:=(rfl)
@[go_sem] theorem aQB (n:Bool) (e:List Sc) (x y:aN) (st:Bool) (d:Option Nat) (K:PF→PH→Prop):dOp C Hs S st (.eqs n e x y) d K F H=bW (aP (.eqs n e x y) F (if st then Hs else H)) d K F H:=(rfl)
@[go_sem] theorem aQK (o:UnOp) (x:aN) (st:Bool) (d:Option Nat) (K:PF→PH→Prop):dOp C Hs S st (.un o x) d K F H=bW (aP (.un o x) F (if st then Hs else H)) d K F H:=(rfl)
@[go_sem] theorem aOT (k:IntKind) (x:aN) (st:Bool) (d:Option Nat) (K:PF→PH→Prop):dOp C Hs S st (.conv k x) d K F H=bW (aP (.conv k x) F (if st then Hs else H)) d K F H:=(rfl)
@[go_sem] theorem aNG (z:List PV) (ps:List (Nat × Nat × aN)) (st:Bool) (d:Option Nat) (K:PF→PH→Prop):dOp C Hs S st (.build z ps) d K F H=bW (aP (.build z ps) F (if st then Hs else H)) d K F H:=(rfl)
@[go_sem] theorem aOY (n:Option Nat) (p:aN) (st:Bool) (d:Option Nat) (K:PF→PH→Prop):dOp C Hs S st (.load n p) d K F H=bW (aP (.load n p) F (if st then Hs else H)) d K F H:=(rfl)
@[go_sem] theorem aMH (x:aN) (st:Bool) (d:Option Nat) (K:PF→PH→Prop):dOp C Hs S st (.aSI x) d K F H=bW (aP (.aSI x) F (if st then Hs else H)) d K F H:=(rfl)
@[go_sem] theorem aMB (e:Nat) (x:aN) (st:Bool) (d:Option Nat) (K:PF→PH→Prop):dOp C Hs S st (.aSZ e x) d K F H=bW (aP (.aSZ e x) F (if st then Hs else H)) d K F H:=(rfl)
@[go_sem] theorem aNH (e:Nat) (n:Option Nat) (x:aN) (st:Bool) (d:Option Nat) (K:PF→PH→Prop):dOp C Hs S st (.field e n x) d K F H=bW (aP (.field e n x) F (if st then Hs else H)) d K F H:=(rfl)
@[go_sem] theorem aOV (s:Nat) (x i:aN) (st:Bool) (d:Option Nat) (K:PF→PH→Prop):dOp C Hs S st (.aSM s x i) d K F H=bW (aP (.aSM s x i) F (if st then Hs else H)) d K F H:=(rfl)
@[go_sem] theorem aOU (n s:Nat) (x i:aN) (st:Bool) (d:Option Nat) (K:PF→PH→Prop):dOp C Hs S st (.idxA n s x i) d K F H=bW (aP (.idxA n s x i) F (if st then Hs else H)) d K F H:=(rfl)
@[go_sem] theorem aOW (n s:Nat) (g:Bool) (x i:aN) (st:Bool) (d:Option Nat) (K:PF→PH→Prop):dOp C Hs S st (.idxV n s g x i) d K F H=bW (aP (.idxV n s g x i) F (if st then Hs else H)) d K F H:=(rfl)
@[go_sem] theorem aMC (x i:aN) (st:Bool) (d:Option Nat) (K:PF→PH→Prop):dOp C Hs S st (.aSX x i) d K F H=bW (aP (.aSX x i) F (if st then Hs else H)) d K F H:=(rfl)
@[go_sem] theorem aNK (s:Nat) (x:aN) (lo hi mx:Option aN) (st:Bool) (d:Option Nat) (K:PF→PH→Prop):dOp C Hs S st (.slice s x lo hi mx) d K F H=bW (aP (.slice s x lo hi mx) F (if st then Hs else H)) d K F H:=(rfl)
@[go_sem] theorem aIY (x:aN) (lo hi:Option aN) (st:Bool) (d:Option Nat) (K:PF→PH→Prop):dOp C Hs S st (.aSS x lo hi) d K F H=bW (aP (.aSS x lo hi) F (if st then Hs else H)) d K F H:=(rfl)
@[go_sem] theorem aQC (x:aN) (st:Bool) (d:Option Nat) (K:PF→PH→Prop):dOp C Hs S st (.len x) d K F H=bW (aP (.len x) F (if st then Hs else H)) d K F H:=(rfl)
@[go_sem] theorem aMD (x:aN) (st:Bool) (d:Option Nat) (K:PF→PH→Prop):dOp C Hs S st (.aSW x) d K F H=bW (aP (.aSW x) F (if st then Hs else H)) d K F H:=(rfl)
@[go_sem] theorem aOX (x:aN) (st:Bool) (d:Option Nat) (K:PF→PH→Prop):dOp C Hs S st (.lenM x) d K F H=bW (aP (.lenM x) F (if st then Hs else H)) d K F H:=(rfl)
@[go_sem] theorem aNI (n:Bool) (x:aN) (st:Bool) (d:Option Nat) (K:PF→PH→Prop):dOp C Hs S st (.isNil n x) d K F H=bW (aP (.isNil n x) F (if st then Hs else H)) d K F H:=(rfl)
@[go_sem] theorem aMA (x:aN) (st:Bool) (d:Option Nat) (K:PF→PH→Prop):dOp C Hs S st (.aTH x) d K F H=bW (aP (.aTH x) F (if st then Hs else H)) d K F H:=(rfl)
@[go_sem] theorem aKL (x:aN) (i:Nat) (st:Bool) (d:Option Nat) (K:PF→PH→Prop):dOp C Hs S st (.extract x i) d K F H=bW (aP (.extract x i) F (if st then Hs else H)) d K F H:=(rfl)
@[go_sem] theorem aMG (m:Bool) (x y:aN) (st:Bool) (d:Option Nat) (K:PF→PH→Prop):dOp C Hs S st (.aSQ m x y) d K F H=bW (aP (.aSQ m x y) F (if st then Hs else H)) d K F H:=(rfl)
@[go_sem] theorem aOZ (n:Nat) (cs:List aN) (st:Bool) (d:Option Nat) (K:PF→PH→Prop):dOp C Hs S st (.mkfn n cs) d K F H=bW (aP (.mkfn n cs) F (if st then Hs else H)) d K F H:=(rfl)
@[go_sem] theorem aME (sh:MSh) (z:PV) (x k:aN) (ok:Bool) (st:Bool) (d:Option Nat) (K:PF→PH→Prop):dOp C Hs S st (.lookup sh z x k ok) d K F H=bW (aP (.lookup sh z x k ok) F (if st then Hs else H)) d K F H:=(rfl)
@[go_sem] theorem aID (x:aN) (st:Bool) (d:Option Nat) (K:PF→PH→Prop):dOp C Hs S st (.aSJ x) d K F H=bW (aP (.aSJ x) F (if st then Hs else H)) d K F H:=(rfl)
@[go_sem] theorem aOS (x:aN) (st:Bool) (d:Option Nat) (K:PF→PH→Prop):dOp C Hs S st (.box true x) d K F H=bW (aP (.box true x) F (if st then Hs else H)) d K F H:=(rfl)
@[go_sem] theorem aKK (s l:Nat) (z:List PV) (ps:List (Nat × aN)) (st:Bool) (d:Option Nat) (K:PF→PH→Prop):dOp C Hs S st (.aSA true s l z ps) d K F H=bW (aP (.aSA true s l z ps) F (if st then Hs else H)) d K F H:=(rfl)
@[go_sem] theorem aNF (cs:List PV) (st:Bool) (d:Option Nat) (K:PF→PH→Prop):dOp C Hs S st (.alloc cs) d K F H=nG (dL (.alloc cs) F) d K F H:=(rfl)
@[go_sem] theorem aKM (s b:Nat) (z:List PV) (l c:aN) (st:Bool) (d:Option Nat) (K:PF→PH→Prop):dOp C Hs S st (.aSD s b z l c) d K F H=nG (dL (.aSD s b z l c) F) d K F H:=(rfl)
@[go_sem] theorem aNJ (sh:MSh) (st:Bool) (d:Option Nat) (K:PF→PH→Prop):dOp C Hs S st (.aTD sh) d K F H=nG (dL (.aTD sh) F) d K F H:=(rfl)
@[go_sem] theorem aPZ (x:aN) (st:Bool) (d:Option Nat) (K:PF→PH→Prop):dOp C Hs S st (.box false x) d K F H=nG (dL (.box false x) F) d K F H:=(rfl)
@[go_sem] theorem aLZ (s l:Nat) (z:List PV) (ps:List (Nat × aN)) (st:Bool) (d:Option Nat) (K:PF→PH→Prop):dOp C Hs S st (.aSA false s l z ps) d K F H=nG (dL (.aSA false s l z ps) F) d K F H:=(rfl)
@[go_sem] theorem aNL (n:Nat) (p x:aN) (st:Bool) (d:Option Nat) (K:PF→PH→Prop):dOp C Hs S st (.store n p x) d K F H=cG (.store n p x) F H (fun r H'=>Hs.le H'∧K (F.put d r) H'):=(rfl)
@[go_sem] theorem aLY (s b:Nat) (x y:aN) (st:Bool) (d:Option Nat) (K:PF→PH→Prop):dOp C Hs S st (.append s b x y) d K F H=cG (.append s b x y) F H (fun r H'=>Hs.le H'∧K (F.put d r) H'):=(rfl)
@[go_sem] theorem aMF (sh:MSh) (x k v:aN) (st:Bool) (d:Option Nat) (K:PF→PH→Prop):dOp C Hs S st (.aSN sh x k v) d K F H=cG (.aSN sh x k v) F H (fun r H'=>Hs.le H'∧K (F.put d r) H'):=(rfl)
theorem KX:H.only []=PH.nil:=PH.ext fun o=>by simp[PH.only,PH.nil]
theorem bX {name:Nat} {vs:List PV} {v:PV} {args:List aN} {st:Bool} {d:Option Nat} {K:PF→PH→Prop} (j:S name vs=some ([],fun _=>aI v)) (h:aG C name vs .nil (aI v)) (l:aN.evs F args=some vs)
  (e:Hs.le H) (u:K (F.put d v) H):dOp C Hs S st (.call name args) d K F H:=by
 refine⟨vs,[],fun _=>aI v,l,j,fun o w=>by simp at w,by rw[KX]; exact h,fun G=>⟨v,.nil,⟨rfl,rfl⟩,fun o x y=>by simp[PH.nil] at y⟩,?_⟩;rintro r H' ⟨rfl,rfl⟩ -;rw[KX,PH.nJ];exact⟨e,u⟩
end
theorem wrap_i64 {n:Int} (j:-9223372036854775808≤n) (l:n≤9223372036854775807):IntKind.i64.wrap n=n:=by
 have e:IntKind.i64.wrap n=if decide (n%18446744073709551616≥9223372036854775808)=true then n%18446744073709551616-18446744073709551616 else n%18446744073709551616:=by simp[IntKind.wrap,IntKind.bits,IntKind.signed]
 rw[e];split
 ·rename_i h; simp only[decide_eq_true_eq] at h; omega
 ·rename_i h; simp only[decide_eq_true_eq] at h; omega
theorem fq {k:Nat} (h:k≤9223372036854775807):IntKind.i64.wrap (k:Int)=k:=wrap_i64 Om Om
theorem dM {k:Nat} (h:k<9223372036854775807):IntKind.i64.wrap ((k:Int)+1)=((k+1:Nat):Int):=by
 rw[wrap_i64 Om Om]; omega
theorem wZz (k:Nat) (h:k<9223372036854775807:=by omega):IntKind.i64.wrap ((k:Int)+1)=((k+1:Nat):Int):=dM h
theorem wrap_u64 {n:Int} (j:0≤n) (l:n<18446744073709551616):IntKind.u64.wrap n=n:=by
 have e:IntKind.u64.wrap n=n%18446744073709551616:=by simp[IntKind.wrap,IntKind.bits,IntKind.signed]
 rw[e]; omega
abbrev ints (xs:List Int):PV:=.sl 1 (xs.map fun n=>[.int .i64 n])
open Go Go.RowKit
inductive CT where
 | int (k:IntKind)
 | bool
 | str
 | sl (es:List CT)
 deriving Inhabited
def rN (P:Program) (rec:TypeId→Option (List CT)):Nat→List Field→Option (List CT)
 | _,[]=>some []
 | k,f::e=>match rec f.type with
  | some cts=>if f.offset=k∧P.cellsOf f.type=cts.length then (rN P rec (k+cts.length) e).map (cts++·) else none
  | none=>none
def iH (P:Program):Nat→TypeId→Option (List CT)
 | 0,_=>none
 | n+1,t=>match P.underlying t with
  | some .bool=>some [.bool]
  | some (.int k)=>some [.int k]
  | some .string=>some [.str]
  | some (.slice e)=>match iH P n e with
   | some cts=>if P.cellsOf e=cts.length∧0<cts.length then some [.sl cts] else none
   | none=>none
  | some (.struct j)=>match rN P (iH P n) 0 j.toList with
   | some cts=>if P.cellsOf t=cts.length then some cts else none
   | none=>none
  | some (.array k e)=>match iH P n e with
   | some cts=>if P.cellsOf e=cts.length∧P.cellsOf t=k*cts.length then some (aTK k cts).flatten else none
   | none=>none
  | _=>none
inductive PV.Ty:CT→PV→Prop
 | int {k:IntKind} {n:Int} (h:(Lit.int k n).wf=true):PV.Ty (.int k) (.int k n)
 | bool (b:Bool):PV.Ty .bool (.bool b)
 | str {s:List UInt8} (h:s.length≤maxLen):PV.Ty .str (.str s)
 | sl {es:List CT} {rows:List (List PV)} (hr:∀ r∈rows,r.length=es.length) (hl:rows.length≤maxLen) (h:∀ (i j:Nat) pv ct,at2 rows i j=some pv→es[j]?=some ct→PV.Ty ct pv):PV.Ty (.sl es) (.sl es.length rows)
def Env.of (W:World) (num:Nat→FuncId):Env:=⟨fun b=>match W.heap[b]? with | some (.cells cs _ _)=>some cs | _=>none,fun _=>none,num⟩
theorem bR.start (W:World) (num:Nat→FuncId):bR (Env.of W num) PH.nil W:=by
 refine⟨fun b cs hb=>⟨fun x e=>(by cases e),?_⟩,fun o x e=>(by cases e),fun o n h=>(by cases h)⟩;simp only[Env.of] at hb;split at hb
 ·rename_i c ty j h;cases hb;exact⟨ty,j,h⟩
 ·cases hb
structure Reads (E:Env) (cts:List CT) (pvs:List PV) (cs:List Value):Prop where
 lp:pvs.length=cts.length
 lc:cs.length=cts.length
 rep:∀ (j:Nat) pv c,pvs[j]?=some pv→cs[j]?=some c→aX E pv c∧c.oneCell'=true
 ty:∀ (j:Nat) pv ct,pvs[j]?=some pv→cts[j]?=some ct→PV.Ty ct pv
theorem Reads.one {E:Env} {ct:CT} {pv:PV} {c:Value} (h:aX E pv c) (e:c.oneCell'=true) (l:PV.Ty ct pv):Reads E [ct] [pv] [c]:=by
 refine⟨rfl,rfl,fun j p u a b=>?_,fun j p u a b=>?_⟩
 ·cases j with
  | zero=>simp at a b; subst a; subst b; exact⟨h,e⟩
  | succ j=>simp at a
 ·cases j with
  | zero=>simp at a b; subst a; subst b; exact l
  | succ j=>simp at a
theorem Reads.append {E:Env} {e w:List CT} {l A:List PV} {x y:List Value} (h:Reads E e l x) (k:Reads E w A y):Reads E (e++w) (l++A) (x++y):=by
 refine⟨by simp[h.lp,k.lp],by simp[h.lc,k.lc],fun j p u a b=>?_,fun j p u a b=>?_⟩
 ·rcases aUE j l.length with hj | hj
  ·rw[aVI hj] at a;rw[aVI (by rw[h.lc,← h.lp]; exact hj)] at b;exact h.rep j p u a b
  ·rw[aVG hj] at a;rw[aVG (by rw[h.lc,← h.lp]; exact hj)] at b;rw[show j-x.length=j-l.length by rw[h.lc,h.lp]] at b;exact k.rep _ p u a b
 ·rcases aUE j l.length with hj | hj
  ·rw[aVI hj] at a;rw[aVI (by rw[← h.lp]; exact hj)] at b;exact h.ty j p u a b
  ·rw[aVG hj] at a;rw[aVG (by rw[← h.lp]; exact hj)] at b;rw[show j-e.length=j-l.length by rw[h.lp]] at b;exact k.ty _ p u a b
theorem ib {W:World} {num:Nat→FuncId} {a:Addr} {v:Value} (h:W.cell? a=some v):a.spot=none∧(Env.of W num).cell a.block a.off=some v:=by
 unfold World.cell? at h;split at h
 ·rename_i c ty j hb;split at h
  ·cases h
  ·rename_i e;refine⟨by simpa using e,?_⟩;simp only[Env.cell,Env.of,hb];exact h
 ·cases h
inductive PV.Len (N:Nat):PV→Prop
 | flat {pv:PV} (h1:∀ n rows,pv≠.sl n rows) (h2:∀ vs,pv≠.agg vs):PV.Len N pv
 | sl {n:Nat} {rows:List (List PV)} (h:rows.length≤N) (hr:∀ r∈rows,∀ v∈r,PV.Len N v):PV.Len N (.sl n rows)
 | agg {vs:List PV} (h:∀ v∈vs,PV.Len N v):PV.Len N (.agg vs)
theorem PV.Len.int {N:Nat} (k:IntKind) (n:Int):PV.Len N (.int k n):=.flat (fun _ _ h=>by cases h) fun _ h=>by cases h
theorem PV.Len.bool {N:Nat} (b:Bool):PV.Len N (.bool b):=.flat (fun _ _ h=>by cases h) fun _ h=>by cases h
theorem PV.Len.str {N:Nat} (s:List UInt8):PV.Len N (.str s):=.flat (fun _ _ h=>by cases h) fun _ h=>by cases h
theorem PV.Len.rows {N n:Nat} {rows:List (List PV)} (h:PV.Len N (.sl n rows)):rows.length≤N∧∀ r∈rows,∀ v∈r,PV.Len N v:=by
 cases h with
 | flat e _=>exact absurd rfl (e n rows)
 | sl e j=>exact⟨e,j⟩
theorem PV.Len.parts {N:Nat} {vs:List PV} (h:PV.Len N (.agg vs)):∀ v∈vs,PV.Len N v:=by
 cases h with
 | flat _ e=>exact absurd rfl (e vs)
 | agg h=>exact h
structure YJ {H:Type} (P:Program) (N:Nat) (S:TypeId→DataW H→Prop):Prop where
 sl:∀ t e elems spare,P.underlying t=some (.slice e)→S t (.slice elems spare)→elems.length≤N∧∀ d∈elems,S e d
 st:∀ t fs parts,P.underlying t=some (.struct fs)→S t (.agg parts)→∀ (i:Nat) g d,fs[i]?=some g→parts[i]?=some d→S g.type d
 ar:∀ t n e parts,P.underlying t=some (.array n e)→S t (.agg parts)→∀ d∈parts,S e d
theorem TX {H:Type} {P:Program} {A:(TypeId→DataW H→Prop)→Prop} {pv:PV} (h:∀ {N},PV.Len N pv):∀ N S,YJ P N S→A S→∀ v∈[pv],PV.Len N v:=fun N S _ _ v e=>by
 obtain rfl:=aUY.1 e;exact h
theorem ip {P:Program} {E:Env} {rec:TypeId→Option (List CT)} {H:Type} {f:TypeId→List Value→Option (DataW H × List MemPlace)}
  (J:∀ t cs x cts,f t cs=some x→rec t=some cts→∃ e,Reads E cts e cs∧∀ N S,YJ P N S→S t x.1→∀ v∈e,PV.Len N v) (cs:List Value) :
  ∀ (u:List Field) (k:Nat) (cts:List CT),(∀ g∈u,∃ x,f g.type ((cs.drop g.offset).take (P.cellsOf g.type))=some x)→rN P rec k u=some cts →
   ∃ e,Reads E cts e ((cs.drop k).take cts.length)∧∀ N S,YJ P N S→(∀ g∈u,∀ x,f g.type ((cs.drop g.offset).take (P.cellsOf g.type))=some x→S g.type x.1)→∀ v∈e,PV.Len N v
 | [],k,cts,_,h=>by simp[rN] at h; subst h;exact⟨[],⟨rfl,by simp,fun j p c a=>by simp at a,fun j p c a=>by simp at a⟩,fun _ _ _ _ v hv=>by cases hv⟩
 | g::u,k,cts,F,h=>by
  simp only[rN] at h;split at h
  ·rename_i K O;split at h
   ·rename_i B;simp only[aTU] at h;obtain⟨M,R,rfl⟩:=h;obtain⟨x,I⟩:=F g (by simp);obtain⟨W,r1,U⟩:=J _ _ _ _ I O;rw[B.1,B.2] at r1;obtain⟨X,r2,V⟩:=ip J cs u (k+K.length) M (fun w l=>F w (by simp[l])) R;refine⟨W++X,?_,fun N S y A v hv=>?_⟩
    ·have:=r1.append r2;rw[aTM,List.take_add,List.drop_drop];exact this
    ·rcases aUR.1 hv with hv | hv
     ·exact U N S y (A g (by simp) x I) v hv
     ·exact V N S y (fun w l=>A w (by simp[l])) v hv
   ·cases h
  ·cases h
theorem v8 {E:Env} {cts:List CT} {R:List PV→Prop} (l:R []) (u:∀ a b,R a→R b→R (a++b)) (cs:List Value) :
  ∀ n:Nat,(∀ i,i<n→∃ e,Reads E cts e ((cs.drop (i*cts.length)).take cts.length)∧R e)→∃ e,Reads E (aTK n cts).flatten e (cs.take (n*cts.length))∧R e
 | 0,_=>⟨[],⟨rfl,by simp,fun j p c a=>by simp at a,fun j p c a=>by simp at a⟩,l⟩
 | n+1,h=>by obtain⟨w,r1,y⟩:=v8 l u cs n fun i hi=>h i Om;obtain⟨x,r2,A⟩:=h n Om;refine⟨w++x,?_,u _ _ y A⟩;rw[List.replicate_succ',List.flatten_append,List.flatten_singleton,aVW,List.take_add];exact r1.append r2
theorem azD {H:Type} {enc:TypeId × Value→H} {P:Program} {W:World} {base:Nat} {sp:Nat→Bool} {β:Bool} (num:Nat→FuncId) :
  ∀ (fuel m:Nat) (t:TypeId) (cs:List Value) (x:DataW H × List MemPlace) (cts:List CT),DataW.trod enc P W base sp β fuel t cs=some x→iH P m t=some cts→∃ l,Reads (Env.of W num) cts l cs∧∀ N S,YJ P N S→S t x.1→∀ v∈l,PV.Len N v:=by
 intro fuel
 induction fuel with
 | zero=>intro m t cs x cts h; simp[DataW.trod] at h
 | succ fuel ih =>
  intro m t cs x cts h A;cases m with
  | zero=>simp[iH] at A
  | succ m =>
   simp only[iH] at A;split at A
   ·rename_i O;cases A;obtain⟨b,rfl,-⟩:=DataW.trod_bool O h;exact⟨[.bool b],.one (.bool b) rfl (.bool b),TX (.bool b)⟩
   ·rename_i k O;cases A;obtain⟨n,rfl,-,hw⟩:=DataW.trod_int O h;exact⟨[.int k n],.one (.int k n) rfl (.int hw),TX (.int k n)⟩
   ·rename_i O;cases A;obtain⟨s,rfl,-,hs⟩:=DataW.trod_string O h;exact⟨[.str s.data.toList],.one (.str s) rfl (.str (by rw[aWK]; exact hs)),TX (.str _)⟩
   ·rename_i e O;split at A
    ·rename_i u he;split at A
     ·rename_i B;cases A;rcases DataW.trod_slice O h with ⟨rfl,-⟩ | ⟨a,len,cap,elems,rest,n,hn,rfl,Y,-,γ,hcap,hel,helem,-⟩
      ·refine⟨[.sl u.length []],.one ?_ rfl (.sl (by simp) (by simp) (by simp[at2])),TX (.sl (aTQ _) (fun r V=>by cases V))⟩;exact .sl (fun _ _=>.bool false) (by simp) (by decide) (by simp) (by simp) (fun _ _=>rfl) (by simp[at2])
      ·cases hn;have each:∀ i,i<len→∃ l Z,(Reads (Env.of W num) u l Z∧∀ N S,YJ P N S→(∀ d∈elems.map (·.1),S e d)→∀ v∈l,PV.Len N v)∧W.cells? base (a.add (i*u.length)) u.length=some Z:=by intro i hi;have h1:=helem i hi;rw[aTP Om,aXB] at h1;obtain⟨Z,h2,h3⟩:=h1;obtain⟨l,r,rl⟩:=ih m e Z _ u h3 he;rw[B.1] at h2;exact⟨l,Z,⟨r,fun N S J K=>rl N S J (K _ (aUK.2 ⟨_,aTN _,rfl⟩))⟩,h2⟩
       have δ:∀ i,∃ l,∃ Z,i<len→(Reads (Env.of W num) u l Z∧∀ N S,YJ P N S→(∀ d∈elems.map (·.1),S e d)→∀ v∈l,PV.Len N v)∧W.cells? base (a.add (i*u.length)) u.length=some Z:=by
        intro i;by_cases hi:i<len
        ·obtain⟨l,Z,h1⟩:=each i hi;exact⟨l,Z,fun _=>h1⟩
        ·exact⟨[],[],fun h=>(hi h).elim⟩
       obtain⟨pf,ξ⟩:=Classical.axiomOfChoice δ;obtain⟨uf,M⟩:=Classical.axiomOfChoice ξ;have ε:∀ i j pv,at2 ((aTI len).map pf) i j=some pv→i<len∧(pf i)[j]?=some pv:=by
        intro i j pv F;unfold at2 at F;rw[aUG,aXB] at F;obtain⟨r,V,F⟩:=F;rw[aTU] at V;obtain⟨i',U,rfl⟩:=V;have hi:i<len:=by simpa using (aUN.1 U).1
        have:i'=i:=by simp[hi] at U; exact U.symm
        subst this;exact⟨hi,F⟩
       have hu2:∀ i j pv,at2 ((aTI len).map pf) i j=some pv→∃ v,(uf i)[j]?=some v∧j<u.length∧aX (Env.of W num) pv v∧v.oneCell'=true:=by
        intro i j pv F;obtain⟨hi,X⟩:=ε i j pv F;obtain⟨⟨r,-⟩,-⟩:=M i hi;have hj:j<u.length:=by rw[← r.lp]; exact (aUN.1 X).1
        have I:(uf i)[j]?=some ((uf i)[j]'(by rw[r.lc]; exact hj)):=aTP _;exact⟨_,I,hj,(r.rep j pv _ X I).1,(r.rep j pv _ X I).2⟩
       have α:((aTI len).map pf).length=len:=by simp
       refine⟨[.sl u.length ((aTI len).map pf)],.one ?_ rfl (.sl (fun r V=>?_) (by rw[α]; omega) fun i j pv ct F κ=>?_),fun N S J K v I=>?_⟩
       ·have η:=aX.sl (E:=Env.of W num) (size:=u.length) (rows:=(aTI len).map pf) (a:=some a) (cap:=cap)
         (fun i j=>match at2 ((aTI len).map pf) i j with | some _=>((uf i)[j]?).getD (.bool false) | none=>.bool false) (by rw[α]; exact γ) hcap
         (fun r V=>by simp only[aUK,aUD] at V;obtain⟨i,hi,rfl⟩:=V;exact (M i hi).1.1.lp)
         (fun ν=>by
          have μ:0<len:=by
           rcases aVP len with h | h
           ·subst h; exact (ν rfl).elim
           ·exact h
          have ζ:a.spot=none:=by obtain⟨⟨r,-⟩,A⟩:=M 0 μ;have h3:=(World.cells?_some A).2.2 0 B.2;rw[Nat.zero_mul,Addr.add_zero',Addr.add_zero',aTP (by rw[r.lc]; exact B.2)] at h3;exact (ib (num:=num) h3).1
          refine⟨a,rfl,ζ,fun i j pv F=>?_⟩;obtain⟨hi,-⟩:=ε i j pv F;obtain⟨v,I,hj,-⟩:=hu2 i j pv F;have h3:=(World.cells?_some (M i hi).2).2.2 j hj;rw[oS ζ,add_plain,add_plain,I] at h3;have h4:=(ib (num:=num) h3).2;simp only[F,I,aWE];exact h4)
         (fun i j=>by
          split
          ·rename_i pv F;obtain⟨v,I,-,-,h1⟩:=hu2 i j pv F;simp[I,h1]
          ·rfl)
         (fun i j pv F=>by obtain⟨v,I,-,h1,-⟩:=hu2 i j pv F;simp only[F,I,aWE];exact h1)
        rw[α] at η;exact η
       ·simp only[aUK,aUD] at V;obtain⟨i,hi,rfl⟩:=V;exact (M i hi).1.1.lp
       ·obtain⟨hi,X⟩:=ε i j pv F;exact (M i hi).1.1.ty j pv ct X κ
       ·rw[Y] at K;obtain⟨m1,m2⟩:=J.sl t e _ _ O K;obtain rfl:=aUY.1 I;refine .sl (by rw[α]; simpa [hel] using m1) fun r V w hw=>?_;simp only[aUK,aUD] at V;obtain⟨i,hi,rfl⟩:=V;exact (M i hi).1.2 N S J m2 w hw
     ·cases A
    ·cases A
   ·rename_i fs O;split at A
    ·rename_i ρ θ;split at A
     ·rename_i γ;cases A;obtain⟨xs,n,hn,Y,ι,ο,hx⟩:=DataW.trod_struct O h;cases hn;have:=ip (f:=DataW.trod enc P W base sp β fuel) (fun t cs x cts a b=>ih m t cs x cts a b) cs fs.toList 0 cts (fun g hg=>by obtain⟨i,hi,rfl⟩:=aVD hg;have:=hx i fs.toList[i] (by simp at hi; simp[hi]);rw[this];exact⟨_,aTP (by simp at hi; omega)⟩) θ
      rw[aUV,aUB Om] at this;obtain⟨l,r,rl⟩:=this;refine⟨l,r,fun N S J K=>rl N S J fun g hg y hy=>?_⟩;rw[Y] at K;obtain⟨i,hi,rfl⟩:=aVD hg;have U:i<fs.size:=by simpa using hi
      have:=hx i fs.toList[i] (by simp[U]);rw[hy,aTP Om] at this;refine J.st t fs _ O K i fs.toList[i] y.1 (by simp[U]) ?_;rw[aUG,aTP Om,← this]; rfl
     ·cases A
    ·cases A
   ·rename_i k e O;split at A
    ·rename_i u he;split at A
     ·rename_i B;cases A;obtain⟨xs,n,hn,Y,ι,ο,hx⟩:=DataW.trod_array O h;cases hn;obtain⟨l,r,hq⟩:=v8 (E:=Env.of W num) (cts:=u) (R:=fun l=>∀ N S,YJ P N S→(∀ d:DataW H,d∈xs.map (fun y:DataW H × List MemPlace=>y.1)→S e d)→∀ v∈l,PV.Len N v) (fun _ _ _ _ v I=>by cases I)
       (fun a b ha hb N S J K v I=>(aUR.1 I).elim (ha N S J K v) (hb N S J K v)) cs k fun i hi=>by have h2:=hx i hi;rw[aTP Om,B.1] at h2;obtain⟨l,r,rl⟩:=ih m e _ _ u h2 he;exact⟨l,r,fun N S J K=>rl N S J (K _ (aUK.2 ⟨_,aTN _,rfl⟩))⟩
      rw[aUB Om] at r;exact⟨l,r,fun N S J K=>hq N S J (J.ar t k e _ O (by rw[Y] at K; exact K))⟩
     ·cases A
    ·cases A
   ·cases A
theorem m6 {H:Type} {enc:TypeId × Value→H} {P:Program} {W:World} {base:Nat} {u:Nat→Bool} {e:Bool} (num:Nat→FuncId)
  (fuel m:Nat) (t:TypeId) (cs:List Value) (x:DataW H × List MemPlace) (cts:List CT) (h:DataW.trod enc P W base u e fuel t cs=some x) (l:iH P m t=some cts):∃ j,Reads (Env.of W num) cts j cs :=
 (azD num fuel m t cs x cts h l).imp fun _ r=>r.1
open Go Go.RowKit Go.ChangeShapes Go.WideShapes
theorem Ext.below {E j:Env} {H':PH} {w e:World} (h:Ext E PH.nil w j H' e):Below w.heap.size w e :=
 ⟨h.os,h.tape,h.output,h.size,fun k l=>h.block k l rfl⟩
theorem Below.trodAll {H:Type} {enc:TypeId × Value→H} {P:Program} (w:laidOutB P=true) {W j:World} (hb:Below W.heap.size W j) :
  ∀ {ts:List TypeId} {vs:List Value} {ds:List (DataW H)} {ps:List MemPlace},(∀ t∈ts,P.readableRec t=true∧t<P.types.size)→DataW.TrodAll enc P W 0 (fun _=>true) true ts vs ds ps →
   DataW.TrodAll enc P j 0 (fun b=>decide (b<W.heap.size)) true ts vs ds ps
 | [],[],[],ps,_,h=>h
 | [],_::_,_,_,_,h=>h.elim
 | [],[],_::_,_,_,h=>h.elim
 | _::_,[],_,_,_,h=>h.elim
 | _::_,_::_,[],_,_,h=>h.elim
 | t::ts,v::vs,d::ds,ps,e,h=>by obtain⟨p,q,l,y,rfl⟩:=h;have hlt:∀ x∈p,x.block<W.heap.size:=fun x B=>DataW.TrodAll.lt (ts:=[t]) (vs:=[v]) (ds:=[d]) ⟨p,[],l,rfl,(aVC p).symm⟩ x B;exact⟨p,q,Below.trod w (e t (by simp)).1 (e t (by simp)).2 l hb hlt,Below.trodAll w hb (fun u A=>e u (by simp[A])) y,rfl⟩
theorem apW {H:Type} {enc:TypeId × Value→H} {P:Program} {f:Func} {s:ChangeSpec} {e apart fresh:Bool} {W B:World} {args:Array Value} {ds l:List (DataW H)} {j:List MemPlace} {bt:TypeId}
  (I:laidOutB P=true) (hW:DataW.Whole enc P f.params.toList s.vars apart W args.toList ds l j) (hb:Below W.heap.size W B) (x:∀ t∈f.params.toList,P.readableRec t=true∧t<P.types.size)
  (w:f.resultTypes=#[bt]) (u:P.underlying bt=some .bool) (y:s.vars=[]) (K:(s.fn H (ds++l)).results=[.lit (.bool true)]) (F:(s.fn H (ds++l)).args=ds) (A:(s.fn H (ds++l)).vars=[]) :
  s.post enc P f apart fresh e false W args (.bool true) B:=by
 obtain⟨p,q,E,hV,rfl,M,J⟩:=hW;rw[y] at hV;obtain⟨rfl,rfl⟩:=trodVars_none hV;refine⟨ds,[],p++[],[],p,[],⟨p,[],E,by rw[y]; exact hV,rfl,M,J⟩,?_,?_,?_,hb.frame _,fun h=>by cases h⟩
 ·rw[K,w];refine⟨[],[],⟨1,?_⟩,rfl,rfl⟩;simp[DataW.trod,u,Value.cells,Value.resultList]
 ·rw[F];exact Below.trodAll I hb x E
 ·rw[y,A];exact rfl
theorem anT {C:Ctx} {name:Nat} {W:World} {args:Array Value} {l:List PV} (h:aG C name l PH.nil (aI (.bool true))) (x:eX (Env.of W C.num) l args.toList) :
  Calls C.P (C.num name) args W fun e u=>e=.returned (.bool true)∧Below W.heap.size W u :=
 (h.2 (Env.of W C.num) W args rfl (bR.start W C.num) x).mono fun e u he=>by obtain⟨v,pv,y,H',rfl,-,j,w,rfl,-⟩:=he;cases j;exact⟨rfl,w.below⟩
theorem afZ {H:Type} {enc:TypeId × Value→H} {P:Program} {W:World} {r:Reach} {base:Nat} {J:Nat→Bool} {w:Bool} (num:Nat→FuncId) {t:TypeId} {v:Value} {d:DataW H} {ps:List MemPlace} {B:Array Field} {n:Nat} {cts:List CT}
  (y:P.underlying t=some (.struct B)) (x:Value.okWide P W r base t v) (F:DataW.Trod enc P W 0 J w t v d ps) (E:iH P n t=some cts) :
  ∃ e,aX (Env.of W num) (.agg e) v∧e.length=cts.length∧∀ (j:Nat) pv ct,e[j]?=some pv→cts[j]?=some ct→PV.Ty ct pv:=by
 obtain⟨cs,rfl,-⟩:=okWide_struct y x;obtain⟨fuel,h⟩:=F;obtain⟨e,l⟩:=m6 num fuel n t _ _ cts h E;have I:cs.size=e.length:=by have:=l.lc; rw[l.lp,← this]; simp[Value.cells]
 refine⟨e,.agg cs I (fun u y=>?_) (fun j pv u a b=>(l.rep j pv u a (by simpa [Value.cells] using b)).1),l.lp,l.ty⟩;obtain⟨j,A,rfl⟩:=aVD y;simp only[aWK] at A;exact (l.rep j _ _ (aTP Om) (by simp[Value.cells,A])).2
theorem vF {H:Type} {enc:TypeId × Value→H} {P:Program} {W:World} {B:Nat→Bool} {e:Bool} (num:Nat→FuncId) {t:TypeId} {v:Value} {d:DataW H} {ps:List MemPlace} {n:Nat} {ct:CT}
  (A:v.cells=#[v]) (x:DataW.Trod enc P W 0 B e t v d ps) (w:iH P n t=some [ct]):∃ pv,aX (Env.of W num) pv v∧PV.Ty ct pv:=by
 obtain⟨fuel,h⟩:=x;obtain⟨l,j⟩:=m6 num fuel n t _ _ [ct] h w;rw[A] at j;have y:=j.lp;cases l with
 | nil=>simp at y
 | cons pv u=>exact⟨pv,(j.rep 0 pv v rfl rfl).1,j.ty 0 pv ct rfl rfl⟩
def InK (k:IntKind) (n:Int):Prop:=k.min≤n∧n≤k.max
def aiA (k:IntKind) (xs:List Int):PV:=.sl 1 (xs.map fun n=>[.int k n])
theorem Ty.Ye {k:IntKind} {pv:PV} (h:PV.Ty (.int k) pv):∃ n,pv=.int k n∧InK k n:=by
 cases h with
 | int h=>simp only[Lit.wf,aUC,decide_eq_true_eq] at h; exact⟨_,rfl,h⟩
theorem Ty.aGR {ct:CT} {pv:PV} (h:PV.Ty (.sl [ct]) pv):∃ vs:List PV,pv=.sl 1 (vs.map fun v=>[v])∧vs.length≤maxLen∧∀ v∈vs,PV.Ty ct v:=by
 cases h with
 | @sl B rows A y h =>
 have j:∀ r∈rows,r=[r.headD .junk]:=fun r l=>by
  have:=A r l
  match r,this with
  | [x],_=>rfl
 have e:rows=(rows.map fun r=>r.headD .junk).map fun v=>[v]:=by rw[aWO];apply List.ext_getElem (by simp);intro n w E;simp only[aVQ,Function.comp];exact j _ (aTN w)
 refine⟨rows.map fun r=>r.headD .junk,by rw[← e]; rfl,by simpa using y,fun v u=>?_⟩;rw[aUK] at u;obtain⟨r,l,rfl⟩:=u;obtain⟨i,hi,rfl⟩:=aVD l;refine h i 0 _ ct ?_ rfl;have:=j rows[i] l;unfold at2;rw[aTP hi,aXC,this];rfl
theorem Ty.Km {k:IntKind} {pv:PV} (h:PV.Ty (.sl [.int k]) pv):∃ xs:List Int,pv=aiA k xs∧xs.length≤maxLen∧∀ x∈xs,InK k x:=by
 obtain⟨vs,rfl,A,l⟩:=Ty.aGR h;have e:vs=(vs.map fun v=>match v with | .int _ n=>n | _=>0).map fun n=>PV.int k n:=by rw[aWO];apply List.ext_getElem (by simp);intro n w B;simp only[aVQ,Function.comp];obtain⟨m,j,-⟩:=Ty.Ye (l _ (aTN w));rw[j]
 refine⟨vs.map fun v=>match v with | .int _ n=>n | _=>0,?_,by simpa using A,fun x u=>?_⟩
 ·unfold aiA
  conv=>lhs; rw[e]
  rw[aWO];rfl
 ·rw[aUK] at u;obtain⟨v,j,rfl⟩:=u;obtain⟨m,rfl,y⟩:=Ty.Ye (l v j);exact y
abbrev Rg:=List aZ
abbrev Rd:=List (aZ×Bool)
def iM (d s:Nat):aZ:=⟨some d,.mv (.tmp s),none⟩
def iI (d:Nat) (n:Int):aZ:=⟨some d,.mv (.const (.int .i64 n)),none⟩
def iB (d:Nat) (o:BinOp) (x y:Nat):aZ:=⟨some d,.bin o (.tmp x) (.tmp y),none⟩
def iC (d:Nat) (o:BinOp) (x:Nat) (n:Int):aZ:=⟨some d,.bin o (.tmp x) (.const (.int .i64 n)),none⟩
def iL (d s:Nat):aZ:=⟨some d,.load none (.tmp s),none⟩
def iX (d n x y:Nat):aZ:=⟨some d,.aSM n (.tmp x) (.tmp y),none⟩
def iN (d x:Nat):aZ:=⟨some d,.len (.tmp x),none⟩
def iF (d n x:Nat):aZ:=⟨some d,.aSZ n (.tmp x),none⟩
def iS (n p x:Nat):aZ:=⟨none,.store n (.tmp p) (.tmp x),none⟩
def iA (d:Nat) (o:POp):aZ:=⟨some d,o,none⟩
def iG (d:Nat) (o:POp) (g:Nat) (b:Bool):aZ:=⟨some d,o,some (g,b)⟩
def iP (d a b:Nat):aZ:=⟨some d,.pick (.tmp a) (.tmp b) (.const (.bool false)),none⟩
def iQ (d a b:Nat):aZ:=⟨some d,.pick (.tmp a) (.const (.bool true)) (.tmp b),none⟩
def iO (d s a:Nat):aZ:=⟨some d,.load (some s) (.tmp a),none⟩
def iE (d a n:Nat):aZ:=⟨some d,.extract (.tmp a) n,none⟩
def iK (d f a:Nat):aZ:=⟨some d,.call f [.tmp a],none⟩
def iK2 (d f a b:Nat):aZ:=⟨some d,.call f [.tmp a,.tmp b],none⟩
def iT (d:Nat) (b:Bool):aZ:=⟨some d,.mv (.const (.bool b)),none⟩
def iZ (d:Nat):aZ:=⟨some d,.mv (.const .aB),none⟩
def gM (d s g:Nat) (b:Bool):aZ:=⟨some d,.mv (.tmp s),some (g,b)⟩
def gL (d s g:Nat) (b:Bool):aZ:=⟨some d,.load none (.tmp s),some (g,b)⟩
def gF (d n s g:Nat) (b:Bool):aZ:=⟨some d,.aSZ n (.tmp s),some (g,b)⟩
def gN (d s g:Nat) (b:Bool):aZ:=⟨some d,.len (.tmp s),some (g,b)⟩
def gO (d n s g:Nat) (b:Bool):aZ:=⟨some d,.load (some n) (.tmp s),some (g,b)⟩
def gK (d f a g:Nat) (b:Bool):aZ:=⟨some d,.call f [.tmp a],some (g,b)⟩
def gK2 (d f a c g:Nat) (b:Bool):aZ:=⟨some d,.call f [.tmp a,.tmp c],some (g,b)⟩
def gC (d:Nat) (o:BinOp) (x:Nat) (n:Int) (g:Nat) (b:Bool):aZ:=⟨some d,.bin o (.tmp x) (.const (.int .i64 n)),some (g,b)⟩
def gB (d:Nat) (o:BinOp) (x y g:Nat) (b:Bool):aZ:=⟨some d,.bin o (.tmp x) (.tmp y),some (g,b)⟩
def zI:PV:=.int .i64 0
def zB:PV:=.bool false
def sq (r:Rg) (c:aC):aC:=.seq (.region r) c
def dq (r:Rd) (c:aC):aC:=.seq (.draw r) c
def Tm (n:Nat):aN:=.tmp n
def Ci (n:Int):aN:=.const (.int .i64 n)
@[go_sem] theorem aRI (d s:Nat):iM d s=⟨some d,.mv (.tmp s),none⟩:=(rfl)
@[go_sem] theorem aRF (d:Nat) (n:Int):iI d n=⟨some d,.mv (.const (.int .i64 n)),none⟩:=(rfl)
@[go_sem] theorem aRA (d:Nat) (o:BinOp) (x y:Nat):iB d o x y=⟨some d,.bin o (.tmp x) (.tmp y),none⟩:=(rfl)
@[go_sem] theorem aRB (d:Nat) (o:BinOp) (x:Nat) (n:Int):iC d o x n=⟨some d,.bin o (.tmp x) (.const (.int .i64 n)),none⟩:=(rfl)
@[go_sem] theorem aRH (d s:Nat):iL d s=⟨some d,.load none (.tmp s),none⟩:=(rfl)
@[go_sem] theorem aRP (d n x y:Nat):iX d n x y=⟨some d,.aSM n (.tmp x) (.tmp y),none⟩:=(rfl)
@[go_sem] theorem aRJ (d x:Nat):iN d x=⟨some d,.len (.tmp x),none⟩:=(rfl)
@[go_sem] theorem aRD (d n x:Nat):iF d n x=⟨some d,.aSZ n (.tmp x),none⟩:=(rfl)
@[go_sem] theorem aRN (n p x:Nat):iS n p x=⟨none,.store n (.tmp p) (.tmp x),none⟩:=(rfl)
@[go_sem] theorem aQZ (d:Nat) (o:POp):iA d o=⟨some d,o,none⟩:=(rfl)
@[go_sem] theorem aRE (d:Nat) (o:POp) (g:Nat) (b:Bool):iG d o g b=⟨some d,o,some (g,b)⟩:=(rfl)
@[go_sem] theorem aRL (d a b:Nat):iP d a b=⟨some d,.pick (.tmp a) (.tmp b) (.const (.bool false)),none⟩:=(rfl)
@[go_sem] theorem aRM (d a b:Nat):iQ d a b=⟨some d,.pick (.tmp a) (.const (.bool true)) (.tmp b),none⟩:=(rfl)
@[go_sem] theorem aRK (d s a:Nat):iO d s a=⟨some d,.load (some s) (.tmp a),none⟩:=(rfl)
@[go_sem] theorem aRC (d a n:Nat):iE d a n=⟨some d,.extract (.tmp a) n,none⟩:=(rfl)
@[go_sem] theorem aRG (d f a:Nat):iK d f a=⟨some d,.call f [.tmp a],none⟩:=(rfl)
@[go_sem] theorem aQM (d f a b:Nat):iK2 d f a b=⟨some d,.call f [.tmp a,.tmp b],none⟩:=(rfl)
@[go_sem] theorem aRO (d:Nat) (b:Bool):iT d b=⟨some d,.mv (.const (.bool b)),none⟩:=(rfl)
@[go_sem] theorem aRQ (d:Nat):iZ d=⟨some d,.mv (.const .aB),none⟩:=(rfl)
@[go_sem] theorem aQW (d s g:Nat) (b:Bool):gM d s g b=⟨some d,.mv (.tmp s),some (g,b)⟩:=(rfl)
@[go_sem] theorem aQV (d s g:Nat) (b:Bool):gL d s g b=⟨some d,.load none (.tmp s),some (g,b)⟩:=(rfl)
@[go_sem] theorem aQT (d n s g:Nat) (b:Bool):gF d n s g b=⟨some d,.aSZ n (.tmp s),some (g,b)⟩:=(rfl)
@[go_sem] theorem aQX (d s g:Nat) (b:Bool):gN d s g b=⟨some d,.len (.tmp s),some (g,b)⟩:=(rfl)
@[go_sem] theorem aQY (d n s g:Nat) (b:Bool):gO d n s g b=⟨some d,.load (some n) (.tmp s),some (g,b)⟩:=(rfl)
@[go_sem] theorem aQU (d f a g:Nat) (b:Bool):gK d f a g b=⟨some d,.call f [.tmp a],some (g,b)⟩:=(rfl)
@[go_sem] theorem aQL (d f a c g:Nat) (b:Bool):gK2 d f a c g b=⟨some d,.call f [.tmp a,.tmp c],some (g,b)⟩:=(rfl)
@[go_sem] theorem aQS (d:Nat) (o:BinOp) (x:Nat) (n:Int) (g:Nat) (b:Bool):gC d o x n g b=⟨some d,.bin o (.tmp x) (.const (.int .i64 n)),some (g,b)⟩:=(rfl)
@[go_sem] theorem aQR (d:Nat) (o:BinOp) (x y g:Nat) (b:Bool):gB d o x y g b=⟨some d,.bin o (.tmp x) (.tmp y),some (g,b)⟩:=(rfl)
@[go_sem] theorem aRT:zI=.int .i64 0:=(rfl)
@[go_sem] theorem aRS:zB=.bool false:=(rfl)
@[go_sem] theorem aRR (r:Rg) (c:aC):sq r c=.seq (.region r) c:=(rfl)
@[go_sem] theorem aQQ (r:Rd) (c:aC):dq r c=.seq (.draw r) c:=(rfl)
@[go_sem] theorem aQP (n:Nat):Tm n=.tmp n:=(rfl)
@[go_sem] theorem aQO (n:Int):Ci n=.const (.int .i64 n):=(rfl)
end Go.PM
namespace Go.PM
open Go
def KO:Rg:=[iI 2 0]
def KP:Rg:=[iM 4 0,iN 5 4,iM 3 5]
def KQ:Rg:=[iM 6 3,iC 7 .gtr 6 0,iM 8 7,gM 9 0 8 true,gM 10 3 8 true,gC 11 .sub 10 1 8 true,iG 12 (.aSM 1 (Tm 9) (Tm 11)) 8 true,gL 13 12 8 true,iG 14 (.bin .eql (Tm 13) (.const (.int .u32 0))) 8 true,iP 15 8 14]
def KR:Rg:=[iM 16 3,iC 17 .sub 16 1,iM 3 17]
def KN:aC:=(.seq (sq KQ (.cond (Tm 15) .skip (.exit 0))) (.block 1 (.region KR)))
def uH:Rg:=[iM 18 3,iM 2 18]
def qD:aC:=(sq KO (sq KP (.seq (.block 0 (.loop KN)) (sq uH .ret))))
def ajF:List Nat:=[]
def HA:aW:=⟨1,19,qD,[.tmp 2]⟩
def zj:Rg:=[iT 2 false]
def zk:Rg:=[iM 3 0,iK 4 138 3,iC 5 .gtr 4 512,iM 2 5]
def EP:aC:=(sq zj (sq zk .ret))
def aoX:List Nat:=[]
def Np:aW:=⟨1,6,EP,[.tmp 2]⟩
def zy:Rg:=[iZ 2,iI 3 0]
def zz:Rg:=[iM 5 0,iK 6 138 5,iM 4 6]
def z8:Rg:=[iM 7 4,iC 8 .gtr 7 512]
def Aa:Rg:=[iZ 2,iI 3 2]
def Ab:Rg:=[iM 9 0,iM 10 4,iM 11 4,iA 12 (.slice 1 (Tm 9) none (some (Tm 10)) (some (Tm 11))),iM 2 12,iI 3 0]
def ER:aC:=(sq zy (sq zz (.seq (sq z8 (.cond (Tm 8) (sq Aa .ret) .skip)) (sq Ab .ret))))
def apC:List Nat:=[]
def N3:aW:=⟨1,13,ER,[.tmp 2,.tmp 3]⟩
def Nq:Rg:=[iZ 2]
def Nr:Rg:=[iM 4 0,iA 5 (.conv .u32 (Tm 4)),iM 6 0,iA 7 (.bin .shr (Tm 6) (.const (.int .u64 32))),iA 8 (.conv .u32 (Tm 7)),iA 9 (.aSA true 1 2 [(.int .u32 0)] [(0,(Tm 5)),(1,(Tm 8))]),iM 3 9]
def Ns:Rg:=[iM 10 3,iM 11 3,iK 12 138 11,iA 13 (.slice 1 (Tm 10) none (some (Tm 12)) none),iM 2 13]
def KT:aC:=(sq Nq (sq Nr (sq Ns .ret)))
def axL:List Nat:=[9]
def ajG:aW:=⟨1,14,KT,[.tmp 2]⟩
def Ob:Rg:=[iZ 2]
def Oc:Rg:=[iM 3 0,iM 4 0,iK 5 138 4,iA 6 (.slice 1 (Tm 3) none (some (Tm 5)) none),iA 7 (.append 1 4 (.const .aB) (Tm 6)),iM 2 7]
def KU:aC:=(sq Ob (sq Oc .ret))
def axQ:List Nat:=[]
def ajI:aW:=⟨1,8,KU,[.tmp 2]⟩
def Zs:Rg:=[iI 4 0]
def Zt:Rg:=[iM 8 0,iK 9 138 8,iM 10 1,iK 11 138 10,iM 5 9,iM 6 11]
def Zu:Rg:=[iM 13 5,iM 14 6,iB 15 .lss 13 14,iM 12 15]
def Zv:Rg:=[iI 4 (-1)]
def Zw:Rg:=[iM 17 5,iM 18 6,iB 19 .gtr 17 18,iM 16 19]
def Zx:Rg:=[iI 4 1]
def Zy:Rg:=[iM 20 5,iC 21 .sub 20 1,iM 7 21]
def Zz:Rg:=[iM 22 7,iC 23 .geq 22 0]
def Z1:Rd:=[(iM 27 0,false),(iM 28 7,false),(iX 29 1 27 28,false),(iL 30 29,false),(iM 31 1,false),(iM 32 7,false),(iX 33 1 31 32,false),(iL 34 33,false),(iB 35 .lss 30 34,false),(iM 26 35,false)]
def Z2:Rg:=[iI 4 (-1)]
def Nf:Rd:=[(iM 37 0,false),(iM 38 7,false),(iX 39 1 37 38,false),(iL 40 39,false),(iM 41 1,false),(iM 42 7,false),(iX 43 1 41 42,false),(iL 44 43,false),(iB 45 .gtr 40 44,false),(iM 36 45,false)]
def Ng:Rg:=[iI 4 1]
def Nh:Rg:=[iM 24 7,iC 25 .sub 24 1,iM 7 25]
def Nd:aC:=(.seq (sq Zz (.cond (Tm 23) .skip (.exit 1))) (.seq (.block 2 (.block 3 (dq Z1 (.cond (Tm 26) (sq Z2 .ret) (dq Nf (.cond (Tm 36) (sq Ng .ret) .skip)))))) (.region Nh)))
def Ni:Rg:=[iI 4 0]
def QY:aC:=(sq Zs (sq Zt (.seq (.block 0 (sq Zu (.cond (Tm 12) (sq Zv .ret) (sq Zw (.cond (Tm 16) (sq Zx .ret) .skip))))) (.seq (sq Zy (.block 1 (.loop Nd))) (sq Ni .ret)))))
def aFI:List Nat:=[]
def axD:aW:=⟨2,46,QY,[.tmp 4]⟩
def Zl:Rg:=[iZ 4,iI 5 0]
def Zm:Rg:=[iM 9 0,iK 10 137 9,iM 11 10,gM 12 1 11 false,gK 13 137 12 11 false,iQ 14 11 13]
def tj:Rg:=[iZ 4,iI 5 2]
def Zn:Rd:=[(iM 15 0,true),(iM 16 0,false),(iK 17 138 16,true),(iA 18 (.slice 1 (Tm 15) none (some (Tm 17)) none),true),(iM 19 1,true),(iM 20 1,true),(iK 21 138 20,true),(iA 22 (.slice 1 (Tm 19) none (some (Tm 21)) none),false),(iM 0 18,false),(iM 1 22,false)]
def Zo:Rg:=[iM 23 0,iN 24 23,iM 25 1,iN 26 25,iB 27 .lss 24 26]
def Zp:Rg:=[iM 28 1,iM 29 0,iM 0 28,iM 1 29]
def tk:Rg:=[iM 30 0,iN 31 30,iC 32 .add 31 1,iA 33 (.aSD 1 4 [(.int .u32 0)] (Tm 32) (Tm 32)),iM 6 33]
def tp:Rg:=[iA 7 (.mv (.const (.int .u64 0)))]
def tq:Rg:=[iM 34 0,iN 35 34,iI 36 0]
def Zq:Rg:=[iB 37 .lss 36 35]
def Mw:Rg:=[iM 38 36,iM 8 38]
def Mx:Rg:=[iM 39 7,iM 40 0,iM 41 8,iX 42 1 40 41,iL 43 42,iA 44 (.conv .u64 (Tm 43)),iB 45 .add 39 44,iM 7 45]
def My:Rg:=[iM 46 8,iM 47 1,iN 48 47,iB 49 .lss 46 48]
def Mz:Rg:=[iM 50 7,iM 51 1,iM 52 8,iX 53 1 51 52,iL 54 53,iA 55 (.conv .u64 (Tm 54)),iB 56 .add 50 55,iM 7 56]
def b9:Rg:=[iM 57 6,iM 58 8,iM 59 7,iA 60 (.conv .u32 (Tm 59)),iX 61 1 57 58,iS 1 61 60]
def ca:Rg:=[iM 62 7,iA 63 (.bin .shr (Tm 62) (.const (.int .u64 32))),iM 7 63]
def cb:Rg:=[iC 64 .add 36 1,iM 36 64]
def b8:aC:=(sq Zq (.seq (.cond (Tm 37) .skip (.exit 0)) (.seq (.block 1 (sq Mw (sq Mx (.seq (sq My (.cond (Tm 49) (.region Mz) .skip)) (sq b9 (.region ca)))))) (.region cb))))
def cc:Rg:=[iM 65 6,iM 66 0,iN 67 66,iM 68 7,iA 69 (.conv .u32 (Tm 68)),iX 70 1 65 67,iS 1 70 69]
def ce:Rg:=[iM 71 6,iK 72 141 71,iE 73 72 0,iE 74 72 1,iM 4 73,iM 5 74]
def QW:aC:=(sq Zl (.seq (sq Zm (.cond (Tm 14) (sq tj .ret) .skip)) (dq Zn (.seq (sq Zo (.cond (Tm 27) (.region Zp) .skip)) (sq tk (sq tp (.seq (sq tq (.block 0 (.loop b8))) (sq cc (sq ce .ret)))))))))
def aFD:List Nat:=[]
def awZ:aW:=⟨2,75,QW,[.tmp 4,.tmp 5]⟩
def aaR:Rg:=[iZ 4,iI 5 0]
def aaS:Rg:=[iM 11 0,iK 12 137 11,iM 13 12,gM 14 1 13 false,gK 15 137 14 13 false,iQ 16 13 15,iM 10 16]
def uj:Rg:=[iZ 4,iI 5 2]
def aaT:Rg:=[iM 18 0,iM 19 1,iK2 20 129 18 19,iC 21 .lss 20 0,iM 17 21]
def aaU:Rg:=[iZ 4,iI 5 4]
def aaV:Rd:=[(iM 22 0,true),(iM 23 0,false),(iK 24 138 23,true),(iA 25 (.slice 1 (Tm 22) none (some (Tm 24)) none),true),(iM 26 1,true),(iM 27 1,true),(iK 28 138 27,true),(iA 29 (.slice 1 (Tm 26) none (some (Tm 28)) none),false),(iM 0 25,false),(iM 1 29,false)]
def uk:Rg:=[iM 30 0,iN 31 30,iA 32 (.aSD 1 4 [(.int .u32 0)] (Tm 31) (Tm 31)),iM 6 32]
def ul:Rg:=[iA 7 (.mv (.const (.int .u64 0)))]
def um:Rg:=[iM 33 0,iN 34 33,iI 35 0]
def aaW:Rg:=[iB 36 .lss 35 34]
def N4:Rg:=[iM 37 35,iM 8 37]
def N5:Rg:=[iM 38 0,iM 39 8,iX 40 1 38 39,iL 41 40,iA 42 (.conv .u64 (Tm 41)),iM 43 7,iB 44 .sub 42 43,iM 9 44]
def N6:Rg:=[iM 45 8,iM 46 1,iN 47 46,iB 48 .lss 45 47]
def N7:Rg:=[iM 49 9,iM 50 1,iM 51 8,iX 52 1 50 51,iL 53 52,iA 54 (.conv .u64 (Tm 53)),iB 55 .sub 49 54,iM 9 55]
def cv:Rg:=[iM 56 6,iM 57 8,iM 58 9,iA 59 (.conv .u32 (Tm 58)),iX 60 1 56 57,iS 1 60 59]
def cw:Rg:=[iM 61 9,iA 62 (.bin .shr (Tm 61) (.const (.int .u64 63))),iM 7 62]
def cx:Rg:=[iC 63 .add 35 1,iM 35 63]
def cu:aC:=(sq aaW (.seq (.cond (Tm 36) .skip (.exit 1)) (.seq (.block 2 (sq N4 (sq N5 (.seq (sq N6 (.cond (Tm 48) (.region N7) .skip)) (sq cv (.region cw)))))) (.region cx))))
def cz:Rg:=[iM 64 6,iK 65 141 64,iE 66 65 0,iE 67 65 1,iM 4 66,iM 5 67]
def RI:aC:=(sq aaR (.seq (.block 0 (sq aaS (.cond (Tm 10) (sq uj .ret) (sq aaT (.cond (Tm 17) (sq aaU .ret) .skip))))) (dq aaV (sq uk (sq ul (.seq (sq um (.block 1 (.loop cu))) (sq cz .ret)))))))
def aFW:List Nat:=[]
def axO:aW:=⟨2,68,RI,[.tmp 4,.tmp 5]⟩
def aaN:Rg:=[iZ 4,iI 5 0]
def aaO:Rg:=[iM 12 0,iK 13 137 12,iM 14 13,gM 15 1 14 false,gK 16 137 15 14 false,iQ 17 14 16]
def t8:Rg:=[iZ 4,iI 5 2]
def aaP:Rd:=[(iM 18 0,true),(iM 19 0,false),(iK 20 138 19,true),(iA 21 (.slice 1 (Tm 18) none (some (Tm 20)) none),true),(iM 22 1,true),(iM 23 1,true),(iK 24 138 23,true),(iA 25 (.slice 1 (Tm 22) none (some (Tm 24)) none),false),(iM 0 21,false),(iM 1 25,false)]
def uc:Rg:=[iM 26 0,iN 27 26,iM 28 1,iN 29 28,iB 30 .add 27 29,iA 31 (.aSD 1 4 [(.int .u32 0)] (Tm 30) (Tm 30)),iM 6 31]
def ud:Rg:=[iM 32 0,iN 33 32,iI 34 0]
def aaQ:Rg:=[iB 35 .lss 34 33]
def ue:Rg:=[iM 36 34,iX 37 1 32 34,iL 38 37,iM 7 36,iM 8 38]
def ug:Rg:=[iA 9 (.mv (.const (.int .u64 0)))]
def uh:Rg:=[iM 39 1,iN 40 39,iI 41 0]
def Nt:Rg:=[iB 42 .lss 41 40]
def Nu:Rg:=[iM 43 41,iX 44 1 39 41,iL 45 44,iM 10 43,iM 11 45]
def Nv:Rg:=[iM 46 9,iM 47 8,iA 48 (.conv .u64 (Tm 47)),iM 49 11,iA 50 (.conv .u64 (Tm 49)),iB 51 .mul 48 50,iM 52 6,iM 53 7,iM 54 10,iB 55 .add 53 54,iX 56 1 52 55,iL 57 56,iA 58 (.conv .u64 (Tm 57)),iB 59 .add 51 58,iB 60 .add 46 59,iM 9 60]
def Nw:Rg:=[iM 61 6,iM 62 7,iM 63 10,iB 64 .add 62 63,iM 65 9,iA 66 (.conv .u32 (Tm 65)),iX 67 1 61 64,iS 1 67 66]
def Nx:Rg:=[iM 68 9,iA 69 (.bin .shr (Tm 68) (.const (.int .u64 32))),iM 9 69]
def Ny:Rg:=[iC 70 .add 41 1,iM 41 70]
def ci:aC:=(sq Nt (.seq (.cond (Tm 42) .skip (.exit 2)) (.seq (.block 3 (sq Nu (sq Nv (sq Nw (.region Nx))))) (.region Ny))))
def ck:Rg:=[iM 71 6,iM 72 7,iM 73 1,iN 74 73,iB 75 .add 72 74,iM 76 9,iA 77 (.conv .u32 (Tm 76)),iX 78 1 71 75,iS 1 78 77]
def Nz:Rg:=[iC 79 .add 34 1,iM 34 79]
def cj:aC:=(sq aaQ (.seq (.cond (Tm 35) .skip (.exit 0)) (.seq (.block 1 (sq ue (sq ug (.seq (sq uh (.block 2 (.loop ci))) (.region ck))))) (.region Nz))))
def cl:Rg:=[iM 80 6,iK 81 141 80,iE 82 81 0,iE 83 81 1,iM 4 82,iM 5 83]
def RE:aC:=(sq aaN (.seq (sq aaO (.cond (Tm 17) (sq t8 .ret) .skip)) (dq aaP (sq uc (.seq (sq ud (.block 0 (.loop cj))) (sq cl .ret))))))
def aFU:List Nat:=[]
def axM:aW:=⟨2,84,RE,[.tmp 4,.tmp 5]⟩
def M3:Rg:=[iI 2 0]
def M4:Rg:=[iM 6 0,iK 7 138 6,iM 3 7]
def M5:Rg:=[iM 8 3,iC 9 .eql 8 0]
def M6:Rg:=[iI 2 0]
def M7:Rg:=[iM 10 3,iC 11 .sub 10 1,iC 12 .mul 11 32,iM 4 12]
def M8:Rg:=[iM 13 0,iM 14 3,iC 15 .sub 14 1,iX 16 1 13 15,iL 17 16,iM 5 17]
def M9:Rg:=[iM 18 5,iA 19 (.bin .gtr (Tm 18) (.const (.int .u32 0)))]
def Nb:Rg:=[iM 22 4,iC 23 .add 22 1,iM 4 23]
def Nc:Rg:=[iM 20 5,iA 21 (.bin .shr (Tm 20) (.const (.int .u64 1))),iM 5 21]
def M2:aC:=(.seq (sq M9 (.cond (Tm 19) .skip (.exit 0))) (.seq (.block 1 (.region Nb)) (.region Nc)))
def zh:Rg:=[iM 24 4,iM 2 24]
def KL:aC:=(sq M3 (sq M4 (.seq (sq M5 (.cond (Tm 9) (sq M6 .ret) .skip)) (sq M7 (.seq (sq M8 (.block 0 (.loop M2))) (sq zh .ret))))))
def axC:List Nat:=[]
def aiR:aW:=⟨1,25,KL,[.tmp 2]⟩
def aaG:Rg:=[iZ 4,iI 5 0]
def aaH:Rg:=[iM 8 0,iK 9 137 8,iM 10 9,gM 11 1 10 false,gK 12 137 11 10 false,iQ 13 10 12]
def t7:Rg:=[iZ 4,iI 5 2]
def aaI:Rg:=[iM 14 0,iK 15 135 14,iM 16 1,iK 17 135 16,iM 0 15,iM 1 17]
def aaJ:Rg:=[iM 18 1,iN 19 18,iC 20 .gtr 19 0]
def aaK:Rg:=[iM 22 0,iM 23 1,iK2 24 136 22 23,iM 21 24,iE 25 21 0,iE 26 21 1,iM 6 25,iM 7 26]
def aaL:Rg:=[iM 27 1,iM 28 7,iM 0 27,iM 1 28]
def aaF:aC:=(.seq (sq aaJ (.cond (Tm 20) .skip (.exit 0))) (.block 1 (sq aaK (.region aaL))))
def aaM:Rg:=[iM 29 0,iM 4 29,iI 5 0]
def RD:aC:=(sq aaG (.seq (sq aaH (.cond (Tm 13) (sq t7 .ret) .skip)) (sq aaI (.seq (.block 0 (.loop aaF)) (sq aaM .ret)))))
def aFS:List Nat:=[]
def axI:aW:=⟨2,30,RD,[.tmp 4,.tmp 5]⟩
def Z3:Rg:=[iZ 4,iZ 5,iI 6 0]
def Z4:Rg:=[iM 10 0,iK 11 137 10,iM 12 11,gM 13 1 12 false,gK 14 137 13 12 false,iQ 15 12 14,iM 9 15]
def tt:Rg:=[iZ 4,iZ 5,iI 6 2]
def Z5:Rg:=[iM 17 1,iK 18 138 17,iC 19 .eql 18 0,iM 16 19]
def Z6:Rg:=[iZ 4,iZ 5,iI 6 3]
def Z7:Rd:=[(iM 21 0,true),(iM 22 0,false),(iK 23 138 22,true),(iA 24 (.slice 1 (Tm 21) none (some (Tm 23)) none),true),(iM 25 1,true),(iM 26 1,true),(iK 27 138 26,true),(iA 28 (.slice 1 (Tm 25) none (some (Tm 27)) none),false),(iK2 29 136 24 28,true),(iM 20 29,false),(iE 30 20 0,false),(iE 31 20 1,false),(iM 7 30,false),(iM 8 31,false)]
def Z8:Rg:=[iM 32 7,iM 33 8,iM 4 32,iM 5 33,iI 6 0]
def RA:aC:=(sq Z3 (.seq (.block 0 (sq Z4 (.cond (Tm 9) (sq tt .ret) (sq Z5 (.cond (Tm 16) (sq Z6 .ret) .skip))))) (dq Z7 (sq Z8 .ret))))
def aFK:List Nat:=[]
def axE:aW:=⟨2,34,RA,[.tmp 4,.tmp 5,.tmp 6]⟩
def zn:Rg:=[iZ 4,iA 5 (.mv (.const (.int .u32 0)))]
def zo:Rg:=[iM 9 0,iN 10 9,iA 11 (.aSD 1 4 [(.int .u32 0)] (Tm 10) (Tm 10)),iM 6 11]
def zp:Rg:=[iA 7 (.mv (.const (.int .u64 0)))]
def zq:Rg:=[iM 12 0,iN 13 12,iC 14 .sub 13 1,iM 8 14]
def zr:Rg:=[iM 15 8,iC 16 .geq 15 0]
def zt:Rg:=[iM 19 7,iA 20 (.bin .shl (Tm 19) (.const (.int .u64 32))),iM 21 0,iM 22 8,iX 23 1 21 22,iL 24 23,iA 25 (.conv .u64 (Tm 24)),iB 26 .or 20 25,iM 7 26]
def zu:Rg:=[iM 27 6,iM 28 8,iM 29 7,iM 30 1,iA 31 (.conv .u64 (Tm 30)),iB 32 .quo 29 31,iA 33 (.conv .u32 (Tm 32)),iX 34 1 27 28,iS 1 34 33]
def zw:Rg:=[iM 35 7,iM 36 1,iA 37 (.conv .u64 (Tm 36)),iB 38 .rem 35 37,iM 7 38]
def zx:Rg:=[iM 17 8,iC 18 .sub 17 1,iM 8 18]
def zm:aC:=(.seq (sq zr (.cond (Tm 16) .skip (.exit 0))) (.seq (.block 1 (sq zt (sq zu (.region zw)))) (.region zx)))
def mf:Rg:=[iM 39 6,iM 40 6,iK 41 138 40,iA 42 (.slice 1 (Tm 39) none (some (Tm 41)) none),iM 43 7,iA 44 (.conv .u32 (Tm 43)),iM 4 42,iM 5 44]
def EQ:aC:=(sq zn (sq zo (sq zp (.seq (sq zq (.block 0 (.loop zm))) (sq mf .ret)))))
def apA:List Nat:=[]
def N2:aW:=⟨2,45,EQ,[.tmp 4,.tmp 5]⟩
def apE:Rg:=[iZ 4]
def apF:Rg:=[iM 9 0,iN 10 9,iC 11 .add 10 1,iA 12 (.aSD 1 4 [(.int .u32 0)] (Tm 11) (Tm 11)),iM 5 12]
def apG:Rg:=[iA 6 (.mv (.const (.int .u64 0)))]
def apH:Rg:=[iM 13 0,iN 14 13,iI 15 0]
def apI:Rg:=[iB 16 .lss 15 14]
def apJ:Rg:=[iM 17 15,iX 18 1 13 15,iL 19 18,iM 7 17,iM 8 19]
def apK:Rg:=[iM 20 6,iM 21 8,iA 22 (.conv .u64 (Tm 21)),iM 23 1,iB 24 .shl 22 23,iB 25 .or 20 24,iM 6 25]
def apL:Rg:=[iM 26 5,iM 27 7,iM 28 6,iA 29 (.conv .u32 (Tm 28)),iX 30 1 26 27,iS 1 30 29]
def apM:Rg:=[iM 31 6,iA 32 (.bin .shr (Tm 31) (.const (.int .u64 32))),iM 6 32]
def apN:Rg:=[iC 33 .add 15 1,iM 15 33]
def aaX:aC:=(sq apI (.seq (.cond (Tm 16) .skip (.exit 0)) (.seq (.block 1 (sq apJ (sq apK (sq apL (.region apM))))) (.region apN))))
def aaY:Rg:=[iM 34 5,iM 35 0,iN 36 35,iM 37 6,iA 38 (.conv .u32 (Tm 37)),iX 39 1 34 36,iS 1 39 38]
def aaZ:Rg:=[iM 40 5,iM 4 40]
def c7:aC:=(sq apE (sq apF (sq apG (.seq (sq apH (.block 0 (.loop aaX))) (sq aaY (sq aaZ .ret))))))
def aJM:List Nat:=[]
def nup:aW:=⟨2,41,c7,[.tmp 4]⟩
def lz:Rg:=[iZ 4,iZ 5]
def l3:Rg:=[iM 21 0,iM 22 1,iK2 23 129 21 22,iC 24 .lss 23 0]
def l4:Rg:=[iM 25 0,iK 26 135 25,iZ 4,iM 5 26]
def l5:Rg:=[iM 27 1,iN 28 27,iC 29 .eql 28 1]
def l6:Rg:=[iM 31 0,iM 32 1,iA 33 (.aSM 1 (Tm 32) (Ci 0)),iL 34 33,iK2 35 140 31 34,iM 30 35,iE 36 30 0,iE 37 30 1,iM 6 36,iM 7 37]
def l7:Rg:=[iM 38 6,iM 39 7,iA 40 (.conv .u64 (Tm 39)),iK 41 132 40,iM 4 38,iM 5 41]
def l8:Rg:=[iA 8 (.mv (.const (.int .u64 0)))]
def l9:Rg:=[iM 42 1,iM 43 1,iN 44 43,iC 45 .sub 44 1,iX 46 1 42 45,iL 47 46,iM 48 8,iB 49 .shl 47 48,iA 50 (.bin .lss (Tm 49) (.const (.int .u32 2147483648)))]
def ma:Rg:=[iM 51 8,iA 52 (.bin .add (Tm 51) (.const (.int .u64 1))),iM 8 52]
def ln:aC:=(.seq (sq l9 (.cond (Tm 50) .skip (.exit 0))) (.block 1 (.region ma)))
def VU:Rd:=[(iM 53 0,false),(iM 54 8,false),(iK2 55 143 53 54,true),(iM 56 1,true),(iM 57 8,true),(iK2 58 143 56 57,true),(iM 59 1,true),(iN 60 59,true),(iA 61 (.slice 1 (Tm 58) none (some (Tm 60)) none),false),(iM 9 55,false),(iM 10 61,false)]
def VV:Rg:=[iM 62 10,iN 63 62,iM 11 63]
def VW:Rg:=[iM 64 9,iN 65 64,iM 66 11,iB 67 .sub 65 66,iA 68 (.aSD 1 4 [(.int .u32 0)] (Tm 67) (Tm 67)),iM 12 68]
def VX:Rd:=[(iM 69 10,false),(iM 70 11,false),(iC 71 .sub 70 1,false),(iX 72 1 69 71,false),(iL 73 72,false),(iA 74 (.conv .u64 (Tm 73)),false),(iM 75 10,false),(iM 76 11,false),(iC 77 .sub 76 2,false),(iX 78 1 75 77,false),(iL 79 78,false),(iA 80 (.conv .u64 (Tm 79)),false),(iM 13 74,false),(iM 14 80,false)]
def VY:Rg:=[iM 81 12,iN 82 81,iC 83 .sub 82 1,iM 15 83]
def VZ:Rg:=[iM 84 15,iC 85 .geq 84 0]
def EF:Rd:=[(iM 88 9,false),(iM 89 15,false),(iM 90 11,false),(iB 91 .add 89 90,false),(iX 92 1 88 91,false),(iL 93 92,false),(iA 94 (.conv .u64 (Tm 93)),false),(iA 95 (.bin .shl (Tm 94) (.const (.int .u64 32))),false),(iM 96 9,false),(iM 97 15,false),(iM 98 11,false),(iB 99 .add 97 98,false),(iC 100 .sub 99 1,false),(iX 101 1 96 100,false),(iL 102 101,false),(iA 103 (.conv .u64 (Tm 102)),false),(iB 104 .or 95 103,false),(iM 16 104,false)]
def EG:Rd:=[(iM 105 16,false),(iM 106 13,false),(iB 107 .quo 105 106,false),(iM 108 16,false),(iM 109 13,false),(iB 110 .rem 108 109,false),(iM 17 107,false),(iM 18 110,false)]
def WA:Rg:=[iM 111 17,iA 112 (.bin .geq (Tm 111) (.const (.int .u64 4294967296))),iM 113 112,gM 114 17 113 false,gM 115 14 113 false,gB 116 .mul 114 115 113 false,gM 117 18 113 false,iG 118 (.bin .shl (Tm 117) (.const (.int .u64 32))) 113 false,gM 119 9 113 false,gM 120 15 113 false,gM 121 11 113 false,gB 122 .add 120 121 113 false,gC 123 .sub 122 2 113 false,iG 124 (.aSM 1 (Tm 119) (Tm 123)) 113 false,gL 125 124 113 false,iG 126 (.conv .u64 (Tm 125)) 113 false,gB 127 .or 118 126 113 false,gB 128 .gtr 116 127 113 false,iQ 129 113 128]
def EH:Rg:=[iM 130 17,iA 131 (.bin .sub (Tm 130) (.const (.int .u64 1))),iM 17 131]
def EI:Rg:=[iM 132 18,iM 133 13,iB 134 .add 132 133,iM 18 134]
def EJ:Rg:=[iM 135 18,iA 136 (.bin .geq (Tm 135) (.const (.int .u64 4294967296)))]
def wN:aC:=(.seq (sq WA (.cond (Tm 129) .skip (.exit 4))) (.block 5 (sq EH (sq EI (sq EJ (.cond (Tm 136) (.exit 4) .skip))))))
def EK:Rg:=[iM 137 9,iM 138 15,iM 139 15,iM 140 11,iB 141 .add 139 140,iC 142 .add 141 1,iA 143 (.slice 1 (Tm 137) (some (Tm 138)) (some (Tm 142)) none),iM 144 10,iM 145 17,iA 146 (.call 142 [(Tm 143),(Tm 144),(Tm 145)])]
def EL:Rg:=[iM 147 17,iA 148 (.bin .sub (Tm 147) (.const (.int .u64 1))),iM 17 148]
def EM:Rg:=[iM 149 9,iM 150 15,iM 151 15,iM 152 11,iB 153 .add 151 152,iC 154 .add 153 1,iA 155 (.slice 1 (Tm 149) (some (Tm 150)) (some (Tm 154)) none),iM 156 10,iK2 157 139 155 156]
def wO:Rg:=[iM 158 12,iM 159 15,iM 160 17,iA 161 (.conv .u32 (Tm 160)),iX 162 1 158 159,iS 1 162 161]
def WB:Rg:=[iM 86 15,iC 87 .sub 86 1,iM 15 87]
def ED:aC:=(.seq (sq VZ (.cond (Tm 85) .skip (.exit 2))) (.seq (.block 3 (dq EF (dq EG (.seq (.block 4 (.loop wN)) (.seq (sq EK (.cond (Tm 146) (sq EL (.region EM)) .skip)) (.region wO)))))) (.region WB)))
def EN:Rg:=[iM 163 11,iA 164 (.aSD 1 4 [(.int .u32 0)] (Tm 163) (Tm 163)),iM 19 164]
def EO:Rg:=[iM 165 19,iN 166 165,iI 167 0]
def WC:Rg:=[iB 168 .lss 167 166]
def WD:Rg:=[iM 169 167,iM 20 169]
def WE:Rd:=[(iM 170 19,false),(iM 171 20,false),(iM 172 9,false),(iM 173 20,false),(iC 174 .add 173 1,false),(iX 175 1 172 174,false),(iL 176 175,false),(iA 177 (.conv .u64 (Tm 176)),false),(iA 178 (.bin .shl (Tm 177) (.const (.int .u64 32))),false),(iM 179 9,false),(iM 180 20,false),(iX 181 1 179 180,false),(iL 182 181,false),(iA 183 (.conv .u64 (Tm 182)),false),(iB 184 .or 178 183,false),(iM 185 8,false),(iB 186 .shr 184 185,false),(iA 187 (.conv .u32 (Tm 186)),false),(iX 188 1 170 171,false),(iS 1 188 187,true)]
def WF:Rg:=[iC 189 .add 167 1,iM 167 189]
def EE:aC:=(sq WC (.seq (.cond (Tm 168) .skip (.exit 6)) (.seq (.block 7 (sq WD (.draw WE))) (.region WF))))
def WG:Rd:=[(iM 190 12,true),(iM 191 12,false),(iK 192 138 191,true),(iA 193 (.slice 1 (Tm 190) none (some (Tm 192)) none),true),(iM 194 19,true),(iM 195 19,true),(iK 196 138 195,true),(iA 197 (.slice 1 (Tm 194) none (some (Tm 196)) none),false),(iM 4 193,false),(iM 5 197,false)]
def BD:aC:=(sq lz (.seq (sq l3 (.cond (Tm 24) (sq l4 .ret) .skip)) (.seq (sq l5 (.cond (Tm 29) (sq l6 (sq l7 .ret)) .skip)) (sq l8 (.seq (.block 0 (.loop ln)) (dq VU (sq VV (sq VW (dq VX (.seq (sq VY (.block 2 (.loop ED))) (sq EN (.seq (sq EO (.block 6 (.loop EE))) (dq WG .ret)))))))))))))
def aiW:List Nat:=[]
def tu:aW:=⟨2,198,BD,[.tmp 4,.tmp 5]⟩
def RK:Rg:=[iT 6 false]
def RL:Rg:=[iA 7 (.mv (.const (.int .u64 0))),iA 8 (.mv (.const (.int .u64 0)))]
def RM:Rg:=[iM 13 1,iN 14 13,iI 15 0]
def RN:Rg:=[iB 16 .lss 15 14]
def RO:Rg:=[iM 17 15,iX 18 1 13 15,iL 19 18,iM 9 17,iM 10 19]
def RP:Rg:=[iM 20 7,iM 21 2,iM 22 10,iA 23 (.conv .u64 (Tm 22)),iB 24 .mul 21 23,iB 25 .add 20 24,iM 7 25]
def RQ:Rg:=[iM 26 0,iM 27 9,iX 28 1 26 27,iL 29 28,iA 30 (.conv .u64 (Tm 29)),iM 31 7,iA 32 (.bin .and (Tm 31) (.const (.int .u64 4294967295))),iB 33 .sub 30 32,iM 34 8,iB 35 .sub 33 34,iM 11 35]
def RR:Rg:=[iM 36 0,iM 37 9,iM 38 11,iA 39 (.conv .u32 (Tm 38)),iX 40 1 36 37,iS 1 40 39]
def RT:Rg:=[iM 41 11,iA 42 (.bin .shr (Tm 41) (.const (.int .u64 63))),iM 8 42]
def RU:Rg:=[iM 43 7,iA 44 (.bin .shr (Tm 43) (.const (.int .u64 32))),iM 7 44]
def OM:Rg:=[iC 45 .add 15 1,iM 15 45]
def OL:aC:=(sq RN (.seq (.cond (Tm 16) .skip (.exit 0)) (.seq (.block 1 (sq RO (sq RP (sq RQ (sq RR (sq RT (.region RU))))))) (.region OM))))
def ON:Rg:=[iM 46 0,iM 47 1,iN 48 47,iX 49 1 46 48,iL 50 49,iA 51 (.conv .u64 (Tm 50)),iM 52 7,iB 53 .sub 51 52,iM 54 8,iB 55 .sub 53 54,iM 12 55]
def OO:Rg:=[iM 56 0,iM 57 1,iN 58 57,iM 59 12,iA 60 (.conv .u32 (Tm 59)),iX 61 1 56 58,iS 1 61 60]
def OP:Rg:=[iM 62 12,iA 63 (.bin .shr (Tm 62) (.const (.int .u64 63))),iA 64 (.bin .eql (Tm 63) (.const (.int .u64 1))),iM 6 64]
def vS:aC:=(sq RK (sq RL (.seq (sq RM (.block 0 (.loop OL))) (sq ON (sq OO (sq OP .ret))))))
def Oa:List Nat:=[]
def RJ:aW:=⟨3,65,vS,[.tmp 6]⟩
def WI:Rg:=[iA 4 (.mv (.const (.int .u64 0)))]
def WJ:Rg:=[iM 7 1,iN 8 7,iI 9 0]
def WK:Rg:=[iB 10 .lss 9 8]
def WL:Rg:=[iM 11 9,iX 12 1 7 9,iL 13 12,iM 5 11,iM 6 13]
def WM:Rg:=[iM 14 4,iM 15 0,iM 16 5,iX 17 1 15 16,iL 18 17,iA 19 (.conv .u64 (Tm 18)),iM 20 6,iA 21 (.conv .u64 (Tm 20)),iB 22 .add 19 21,iB 23 .add 14 22,iM 4 23]
def WN:Rg:=[iM 24 0,iM 25 5,iM 26 4,iA 27 (.conv .u32 (Tm 26)),iX 28 1 24 25,iS 1 28 27]
def WP:Rg:=[iM 29 4,iA 30 (.bin .shr (Tm 29) (.const (.int .u64 32))),iM 4 30]
def WQ:Rg:=[iC 31 .add 9 1,iM 9 31]
def WH:aC:=(sq WK (.seq (.cond (Tm 10) .skip (.exit 0)) (.seq (.block 1 (sq WL (sq WM (sq WN (.region WP))))) (.region WQ))))
def WR:Rg:=[iM 32 0,iM 33 1,iN 34 33,iX 35 1 32 34,iL 36 35,iM 37 4,iA 38 (.conv .u32 (Tm 37)),iB 39 .add 36 38,iX 40 1 32 34,iS 1 40 39]
def xU:aC:=(sq WI (.seq (sq WJ (.block 0 (.loop WH))) (.region WR)))
def Um:List Nat:=[]
def cq:aW:=⟨2,41,xU,[]⟩
open Go Go.RowKit Go.ChangeShapes Go.WideShapes
inductive AT where
 | one (ct:CT)
 | struct (cts:List CT)
 deriving Inhabited
def afY (P:Program) (n:Nat) (t:TypeId):Option AT :=
 match P.underlying t with
 | some .bool=>some (.one .bool)
 | some (.int k)=>some (.one (.int k))
 | some .string=>some (.one .str)
 | some (.slice _)=>match iH P n t with
  | some [ct]=>some (.one ct)
  | _=>none
 | some (.struct _)=>(iH P n t).map .struct
 | _=>none
def GI (P:Program) (n:Nat):List TypeId→Option (List AT)
 | []=>some []
 | t::ts=>match afY P n t,GI P n ts with
  | some a,some e=>some (a::e)
  | _,_=>none
inductive AT.Ty:AT→PV→Prop
 | one {ct:CT} {pv:PV} (h:PV.Ty ct pv):AT.Ty (.one ct) pv
 | struct {cts:List CT} {pvs:List PV} (hl:pvs.length=cts.length) (h:∀ (j:Nat) pv ct,pvs[j]?=some pv→cts[j]?=some ct→PV.Ty ct pv):AT.Ty (.struct cts) (.agg pvs)
def AT.TyL:List AT→List PV→Prop
 | [],[]=>True
 | a::e,p::ps=>AT.Ty a p∧AT.TyL e ps
 | _,_=>False
section
variable {H:Type} {enc:TypeId × Value→H} {P:Program} {W:World} {sp:Nat→Bool} {held:Bool}
theorem aIR {r:Reach} {base:Nat} (num:Nat→FuncId) {t:TypeId} {v:Value} {d:DataW H} {ps:List MemPlace} {n:Nat} {a:AT}
  (j:Value.okWide P W r base t v) (A:DataW.Trod enc P W 0 sp held t v d ps) (u:afY P n t=some a):∃ pv,aX (Env.of W num) pv v∧AT.Ty a pv:=by
 unfold afY at u;cases n with
 | zero =>
  split at u
  ·rename_i l;cases u;obtain⟨b,rfl⟩:=okWide_bool l j;obtain⟨pv,w,y⟩:=vF (n:=1) (ct:=.bool) num (by simp[Value.cells]) A (by simp[iH,l]);exact⟨pv,w,.one y⟩
  ·rename_i k l;cases u;obtain⟨b,rfl⟩:=okWide_int l j;obtain⟨pv,w,y⟩:=vF (n:=1) (ct:=.int k) num (by simp[Value.cells]) A (by simp[iH,l]);exact⟨pv,w,.one y⟩
  ·rename_i l;cases u;obtain⟨b,rfl⟩:=okWide_string l j;obtain⟨pv,w,y⟩:=vF (n:=1) (ct:=.str) num (by simp[Value.cells]) A (by simp[iH,l]);exact⟨pv,w,.one y⟩
  ·simp[iH] at u
  ·simp[iH] at u
  ·cases u
 | succ n =>
  split at u
  ·rename_i l;cases u;obtain⟨b,rfl⟩:=okWide_bool l j;obtain⟨pv,w,y⟩:=vF (n:=n+1) (ct:=.bool) num (by simp[Value.cells]) A (by simp[iH,l]);exact⟨pv,w,.one y⟩
  ·rename_i k l;cases u;obtain⟨b,rfl⟩:=okWide_int l j;obtain⟨pv,w,y⟩:=vF (n:=n+1) (ct:=.int k) num (by simp[Value.cells]) A (by simp[iH,l]);exact⟨pv,w,.one y⟩
  ·rename_i l;cases u;obtain⟨b,rfl⟩:=okWide_string l j;obtain⟨pv,w,y⟩:=vF (n:=n+1) (ct:=.str) num (by simp[Value.cells]) A (by simp[iH,l]);exact⟨pv,w,.one y⟩
  ·rename_i e l;split at u
   ·rename_i ct B;cases u;obtain⟨x,len,cap,rfl⟩:=okWide_slice l j;obtain⟨pv,w,y⟩:=vF num (by simp[Value.cells]) A B;exact⟨pv,w,.one y⟩
   ·cases u
  ·rename_i I l;rw[aTU] at u;obtain⟨cts,B,rfl⟩:=u;obtain⟨F,w,y,E⟩:=afZ num l j A B;exact⟨_,w,.struct y E⟩
  ·cases u
theorem Vb {r:Reach} {base:Nat} (num:Nat→FuncId) {n:Nat}:∀ {ts:List TypeId} {vs:List Value} {ds:List (DataW H)} {ps:List MemPlace} {l:List AT},DataW.TrodAll enc P W 0 sp held ts vs ds ps →
  (∀ (j:Nat) t v,ts[j]?=some t→vs[j]?=some v→Value.okWide P W r base t v)→GI P n ts=some l→∃ e,eX (Env.of W num) e vs∧AT.TyL l e
 | [],[],_,_,l,_,_,h=>by simp[GI] at h;subst h;exact⟨[],.nil,trivial⟩
 | [],_::_,_,_,_,h,_,_=>h.elim
 | _::_,[],[],_,_,h,_,_=>h.elim
 | _::_,[],_::_,_,_,h,_,_=>h.elim
 | _::_,_::_,[],_,_,h,_,_=>h.elim
 | t::ts,v::vs,d::ds,ps,l,h,w,u=>by
  obtain⟨p,q,B,E,rfl⟩:=h;simp only[GI] at u;split at u
  ·rename_i a x y A;cases u;obtain⟨pv,r1,F⟩:=aIR num (w 0 t v rfl rfl) B y;obtain⟨e,r2,I⟩:=Vb num E (fun j t v a b=>w (j+1) t v (by simpa using a) (by simpa using b)) A;exact⟨pv::e,.cons r1 r2,F,I⟩
  ·cases u
theorem TrodAll.length:∀ {ts:List TypeId} {vs:List Value} {ds:List (DataW H)} {ps:List MemPlace},DataW.TrodAll enc P W 0 sp held ts vs ds ps→ds.length=ts.length
 | [],[],[],_,_=>rfl
 | [],[],_::_,_,h=>h.elim
 | [],_::_,_,_,h=>h.elim
 | _::_,[],[],_,h=>h.elim
 | _::_,[],_::_,_,h=>h.elim
 | _::_,_::_,[],_,h=>h.elim
 | t::ts,v::vs,d::ds,ps,h=>by obtain⟨p,q,j,e,rfl⟩:=h;simp[TrodAll.length e]
end
theorem Fb {H:Type} {enc:TypeId × Value→H} {P:Program} {f:FuncId} {fn:Func} {s:ChangeSpec} {apart fresh l:Bool} {bt:TypeId} {num:Nat→FuncId} {name n:Nat} {ats:List AT}
  (U:laidOutB P=true) (K:fn.params.toList.all (fun t=>P.readableRec t&&decide (t<P.types.size))=true) (I:fn.resultTypes=#[bt]) (F:P.underlying bt=some .bool) (O:s.vars=[])
  (X:∀ ds:List (DataW H),ds.length=fn.params.toList.length→(s.fn H ds).results=[.lit (.bool true)]∧(s.fn H ds).args=ds∧(s.fn H ds).vars=[])
  (y:num name=f) (S:GI P n fn.params.toList=some ats) (h:∀ w,AT.TyL ats w→aG ⟨P,num⟩ name w PH.nil (aI (.bool true)))
  {W:World} {base:Nat} {args:Array Value} {ds R:List (DataW H)} {u:List MemPlace}
  (B:∀ (j:Nat) t v,fn.params[j]?=some t→args[j]?=some v→Value.okWide P W .any base t v) (hW:DataW.Whole enc P fn.params.toList s.vars apart W args.toList ds R u) :
  Calls P f args W fun e M=>∃ v,e=.returned v∧s.post enc P fn apart fresh l false W args v M:=by
 have A:∀ t∈fn.params.toList,P.readableRec t=true∧t<P.types.size:=fun t J=>by have:=aUH.1 K t J;simpa using this
 have E:=hW;obtain⟨p,q,N,hV,rfl,hz,Z⟩:=hW;rw[O] at hV;obtain⟨rfl,rfl⟩:=trodVars_none hV;obtain⟨w,V,J⟩:=Vb num N (fun j t v a b=>B j t v (by simpa using a) (by simpa using b)) S;have x:=TrodAll.length N;subst y;obtain⟨r1,r2,Y⟩:=X (ds++[]) (by simpa using x);refine (anT (C:=⟨P,num⟩) (h w J) V).mono fun e M he=>?_;obtain⟨rfl,hb⟩:=he;exact⟨_,rfl,apW U E hb A I F O r1 (by rw[r2]; simp) Y⟩
attribute [go_sem] qP jA setCells PV.cells PV.one cG storeAt dL loadCells eR bnd PV.slice PV.intOf PV.eqs PV.eq1 PV.un keyOf KS.of KS.ofs KS.sh List.all_cons List.all_nil List.set_cons_zero List.set_cons_succ aTY aVK aTS aUU aUH Bool.and_self
attribute [go_sem] Bool.bne_false Bool.bne_true Int.le_refl Int.lt_irrefl decide_true decide_false exists_eq_left exists_eq_left' aTJ aXI aWN Int.natCast_nonneg Option.isSome_some Option.isSome_none aWE Option.getD_none decide_eq_true_eq decide_eq_false_iff_not aUF aVB aTO Nat.sub_zero
def cQ (xs:List Int):List (List PV):=xs.map fun n=>[.int .i64 n]
theorem bE {a b:Int} (h:a≠b):(a==b)=false:=by simp[h]
theorem bP {a b:Int} (h:a=b):(a==b)=true:=by simp[h]
theorem dK {a b:Int} (h:a≠b):(a != b)=true:=by simp[h]
theorem bV {a b:Int} (h:a=b):(a != b)=false:=by simp[h]
section
variable {H:PH}
@[go_sem] theorem PH.set_set (o:Nat) (x y:bO):(H.set o x).set o y=H.set o y:=PH.ext fun q=>by
 simp only[aT]; split<;>rfl
@[go_sem] theorem cL (o:Nat) (x:bO):(H.set o x) o=some x:=by simp only[aT,if_true]
end
section
variable {C:Ctx} {K:cE} {F:PF} {H:PH}
theorem PH.qG (o:Nat) (x:bO):H.over .nil (PH.nil.set o x)=H.set o x:=PH.ext fun q=>by
 rw[pH]; simp only[aT,sx]; split<;>simp_all
theorem PH.qH (o:Nat) (x y:bO):H.over (PH.nil.set o x) (PH.nil.set o y)=H.set o y:=PH.ext fun q=>by
 rw[pH]; simp only[aT,sx]; split<;>simp_all
theorem eO {name:Nat} {vs:List PV} {e:PH} {R:PV→PH→Prop} {args:List aN} {d:Option Nat} {K:PF→PH→Prop} (h:aG C name vs e R) (l:aN.evs F args=some vs) (j:e.le H)
  (u:∀ r H',R r H'→lS H e H'→K (F.put d r) (H.over e H')):hC C name args [] d K F H :=
 .inl ⟨vs,e,R,by rw[l]; simp,j,h,u⟩
theorem aV {res:List dY} {R:PV→PH→Prop} {vs:List PV} {e:kT} (he:e=.normal∨e=.ret) (j:PH) (h:dY.evs F H res=some vs) (l:j.le H) (A:R (bQ vs) j):aR res R e F H:=by
 have w:∃ vs,dY.evs F H res=some vs∧∃ x y H2,jE (PF.nil.set 0 (bQ vs)) H x y∧H2.le y∧∃ u,x 0=some u∧R u H2 :=
  ⟨vs,h,_,H,j,.refl _ _,l,bQ vs,by rw[mQ,if_pos rfl],A⟩
 rcases he with rfl | rfl<;>exact w
theorem ayH {t o s k:Nat} {rs:List (List PV)} {R:PV→PH→Prop} {e:kT} (he:e=.normal∨e=.ret) (h:F t=some (.osl o s 0 k)) (y:H o=some (.rows s rs)) (A:k≤rs.length) (x:R (.sl s (rs.take k)) .nil) :
  aR [.tmp t] R e F H:=by
 have j:∃ vs,dY.evs F H [.tmp t]=some vs∧∃ l w H2,jE (PF.nil.set 0 (bQ vs)) H l w∧H2.le w∧∃ u,l 0=some u∧R u H2:=by refine⟨[.osl o s 0 k],by rw[lK,oI,h,pK],_,_,.nil,.step o y (.refl _ _),a_,.sl s (rs.take k),?_,x⟩;have:0+k≤rs.length:=Om;simp only[PF.frz,mQ,if_true,bQ,aUO,PV.frz,PV.qC,PV.cH,true_and,if_pos this,aUV]
 rcases he with rfl | rfl<;>exact j
def cB (v:PV) (r:PV) (H:PH):Prop:=Co r v∧H=PH.nil
theorem aG.ayQ {name:Nat} {args:List PV} {H:PH} {v:PV} (h:aG C name args H (cB v)):aG C name args H (aI v) :=
 h.post fun r H' ⟨e,j⟩=>⟨v,e,rfl,j⟩
theorem aI.ayQ {v r:PV} {H:PH} (h:aI v r H):cB v r H:=by
 obtain⟨rfl,rfl⟩:=h;exact⟨.refl _,rfl⟩
theorem BV {s b:Nat} {y:PV} {src:List (List PV)} {K:PV→PH→Prop} (u:eR H s y=some src) (l:roomFor 0 src.length b) (e:src=[]→K .aB H)
  (j:src≠[]→∀ o,H o=none→K (.osl o s 0 src.length) (H.set o (.rows s src))):lM H s b .aB y K:=⟨src,u,l,e,j⟩
theorem S5 {o s b len:Nat} {rs:List (List PV)} {y:PV} {src:List (List PV)} {K:PV→PH→Prop} (A:eR H s y=some src) (x:roomFor len src.length b) (w:H o=some (.rows s rs)) (u:len≤rs.length)
  (j:K (.osl o s 0 (len+src.length)) (H.set o (.rows s (rs.take len++src))))
  (l:∀ e,H e=none→K (.osl e s 0 (len+src.length)) (H.set e (.rows s (rs.take len++src)))):lM H s b (.osl o s 0 len) y K :=
 ⟨src,A,rfl,rfl,x,rs,w,u,j,l⟩
end
def cA (H:PH) (s:Nat) (v:PV) (rows:List (List PV)):Prop :=
 (rows=[]∧v=.aB)∨∃ q rs,v=.osl q s 0 rows.length∧H q=some (.rows s rs)∧rows.length≤rs.length∧rs.take rows.length=rows
def Seen (s:Nat) (v:PV) (rows:List (List PV)):Prop:=(rows=[]∧v=.aB)∨v=.sl s rows
section
variable {C:Ctx} {K:cE} {F:PF} {H:PH} {s b:Nat} {v y:PV} {rows src:List (List PV)}
theorem cA.nil:cA H s .aB []:=.inl ⟨rfl,rfl⟩
theorem cA.ext {H':PH} (h:cA H s v rows) (e:∀ o x,H o=some x→H' o=some x):cA H' s v rows:=by
 rcases h with h | ⟨q,rs,h0,h1,h2,h3⟩
 ·exact .inl h
 ·exact .inr ⟨q,rs,h0,e q _ h1,h2,h3⟩
theorem jF {K:PV→PH→Prop} (h:cA H s v rows) (J:eR H s y=some src) (I:roomFor rows.length src.length b)
  (E:∀ v' H',cA H' s v' (rows++src)→(∀ o x,H o=some x→(∀ l,v≠.osl o s 0 l)→H' o=some x)→K v' H'):lM H s b v y K:=by
 rcases h with ⟨rfl,rfl⟩ | ⟨q,rs,rfl,h1,h2,h3⟩
 ·refine⟨src,J,I,fun e=>?_,fun e o A=>?_⟩
  ·subst e;exact E _ _ (.inl ⟨rfl,rfl⟩) fun o x A _=>A
  ·refine E _ _ (.inr ⟨o,src,rfl,by simp only[aT,if_true],aTO _,by simp⟩) fun B x j _=>?_;have:B≠o:=by rintro rfl; rw[A] at j; cases j
   simp only[aT,if_neg this,j]
 ·have u:(rows++src).length=rows.length+src.length:=aTM;refine⟨src,J,rfl,rfl,I,rs,h1,h2,?_,fun o A=>?_⟩
  ·rw[h3];refine E _ _ (.inr ⟨q,rows++src,by rw[u],by simp only[aT,if_true],aTO _,aUS⟩) fun B x j w=>?_;have:B≠q:=by rintro rfl; exact w _ rfl
   simp only[aT,if_neg this,j]
  ·rw[h3];refine E _ _ (.inr ⟨o,rows++src,by rw[u],by simp only[aT,if_true],aTO _,aUS⟩) fun B x j w=>?_;have M:B≠o:=by rintro rfl; rw[A] at j; cases j
   simp only[aT,if_neg M,j]
def Pure (u:PV):Prop:=∀ q s rs,PV.frz q s rs u=u
theorem cA.frz (h:cA H s v rows):∃ j,Seen s j rows∧∀ F:PF,∃ e l,jE F H e l∧(∀ t,F t=some v→e t=some j)∧∀ i u,F i=some u→Pure u→e i=some u:=by
 rcases h with ⟨rfl,rfl⟩ | ⟨q,rs,rfl,h1,h2,h3⟩
 ·exact⟨.aB,.inl ⟨rfl,rfl⟩,fun F=>⟨F,H,.refl _ _,fun t h=>h,fun i u h _=>h⟩⟩
 ·refine⟨.sl s rows,.inr rfl,fun F=>⟨_,_,.step q h1 (.refl _ _),fun t x=>?_,fun i u hi w=>?_⟩⟩
  ·have:0+rows.length≤rs.length:=Om;simp only[PF.frz,x,aUO,PV.frz,PV.qC,PV.cH,if_true,true_and,if_pos this,aUV,h3]
  ·simp only[PF.frz,hi,aUO];rw[w]
theorem LJ {t:Nat} {e:kT} (he:e=.normal∨e=.ret) (h:cA H s v rows) (j:F t=some v):aR [.tmp t] (cB (.sl s rows)) e F H:=by
 rcases h with ⟨rfl,rfl⟩ | ⟨q,rs,rfl,h1,h2,h3⟩
 ·exact aV (vs:=[.aB]) he .nil (by rw[lK,oI,j,pK]) a_ ⟨.nil s,rfl⟩
 ·exact ayH he j h1 h2 ⟨by rw[h3]; exact .refl _,rfl⟩
end
end Go.PM
namespace Go.PM
open Go
section
variable {C:Ctx} {F:PF} {H:PH}
@[go_sem] theorem oF (o s:Nat) (rs:List (List PV)) (i:Nat):(F.frz o s rs) i=(F i).map (PV.frz o s rs):=(rfl)
theorem rH {name t o s k:Nat} {rs:List (List PV)} {v:PV} {d:Option Nat} {K:PF→PH→Prop} (h:aG C name [.sl s (rs.take k)] .nil (aI v)) (l:F t=some (.osl o s 0 k)) (j:H o=some (.rows s rs)) (u:k≤rs.length)
  (e:K ((F.frz o s rs).put d v) (H.frz o s rs)):hC C name [.tmp t] [] d K F H:=by
 refine .inr ⟨_,_,.step o j (.refl _ _),[.sl s (rs.take k)],.nil,aI v,?_,a_,h,?_⟩
 ·have:0+k≤rs.length:=Om;simp only[AR,UD,io,oF,l,aUO,PV.frz,PV.qC,PV.cH,if_true,true_and,if_pos this,aUV,aVC]
 ·rintro r H' ⟨rfl,rfl⟩ -;rw[PH.nJ];exact e
end
end Go.PM
namespace Go.Na
def val:List Nat→Nat
 | []=>0
 | x::xs=>x+4294967296*val xs
def Lim (xs:List Nat):Prop:=∀ x∈xs,x<4294967296
def aJ (n:Nat):List Nat:=if h:n=0 then [] else (n%4294967296)::aJ (n/4294967296)
termination_by n
decreasing_by exact Nat.div_lt_self (aWD h) (by decide)
def nl (n:Nat):Nat:=(aJ n).length
theorem gE:aJ 0=[]:=by rw[aJ]; simp
theorem sZ {n:Nat} (h:n≠0):aJ n=(n%4294967296)::aJ (n/4294967296):=by rw[aJ]; simp[h]
theorem pF {n:Nat} (h:n≠0) (hb:n<4294967296):aJ n=[n]:=by
 rw[sZ h,aUZ hb,aWQ hb,gE]
theorem aS (n:Nat):val (aJ n)=n:=by
 induction n using Nat.strongRecOn with
 | _ n e =>
  by_cases h:n=0
  ·subst h; rw[gE]; rfl
  ·rw[sZ h,val,e _ (Nat.div_lt_self (aWD h) (by decide))];exact Nat.mod_add_div n 4294967296
theorem aU (n:Nat):Lim (aJ n):=by
 induction n using Nat.strongRecOn with
 | _ n e =>
  by_cases h:n=0
  ·subst h; rw[gE]; intro x hx; cases hx
  ·rw[sZ h];intro x hx;rw[aTW] at hx;rcases hx with rfl | hx
   ·exact aVF _ (by decide)
   ·exact e _ (Nat.div_lt_self (aWD h) (by decide)) x hx
theorem AD:nl 0=0:=by rw[nl,gE]; rfl
theorem aoV {n:Nat} (h:n≠0):nl n=nl (n/4294967296)+1:=by rw[nl,sZ h]; rfl
theorem jU (n k:Nat):nl n≤k↔n<4294967296 ^ k:=by
 induction k generalizing n with
 | zero =>
  by_cases h:n=0
  ·subst h; simp[AD]
  ·rw[aoV h]; simp; omega
 | succ k e =>
  by_cases h:n=0
  ·subst h; simp[AD,aWJ]
  ·rw[aoV h,Nat.succ_le_succ_iff,e,aVL,aWS (by decide)]
theorem jL {n:Nat}:nl n=0↔n=0:=by
 have:=jU n 0;simp at this;exact this
theorem gZ (xs e:List Nat):val (xs++e)=val xs+4294967296 ^ xs.length*val e:=by
 induction xs with
 | nil=>simp[val]
 | cons x xs j =>simp only[List.cons_append,val,aVA,j,aVL];rw[aTX,aWB,← aUI,aUL 4294967296 (4294967296 ^ xs.length)]
theorem fP {xs:List Nat} (h:Lim xs):val xs<4294967296 ^ xs.length:=by
 induction xs with
 | nil=>simp[val]
 | cons x xs l =>have u:=h x (by simp);have e:=l fun y j=>h y (by simp[j]);simp only[val,aVA,aVL];have:4294967296*(val xs+1)≤4294967296*4294967296 ^ xs.length:=aWC _ e;rw[aTX,Nat.mul_one] at this;rw[aUL (4294967296 ^ xs.length)];omega
theorem Lim.app {xs j:List Nat} (h:Lim xs) (k:Lim j):Lim (xs++j):=fun x e=>by
 rw[aUR] at e;exact e.elim (h x) (k x)
theorem Lim.take {xs:List Nat} (h:Lim xs) (n:Nat):Lim (xs.take n):=fun x e=>h x (List.mem_of_mem_take e)
theorem Lim.drop {xs:List Nat} (h:Lim xs) (n:Nat):Lim (xs.drop n):=fun x e=>h x (List.mem_of_mem_drop e)
theorem Lim.set {xs:List Nat} (h:Lim xs) (i:Nat) {v:Nat} (e:v<4294967296):Lim (xs.set i v):=fun x j=>by
 rcases List.mem_or_eq_of_mem_set j with h1 | h1
 ·exact h x h1
 ·subst h1; exact e
theorem xG (n:Nat):Lim (aTK n 0):=fun x e=>by
 rw[List.mem_replicate] at e; rw[e.2]; decide
theorem tH (n:Nat):val (aTK n 0)=0:=by
 induction n with
 | zero=>rfl
 | succ n e=>simp[List.replicate_succ,val,e]
theorem aoA {xs:List Nat} (h:Lim xs) (B:∀ x,xs.getLast?=some x→x≠0):aJ (val xs)=xs:=by
 induction xs with
 | nil=>simp[val,gE]
 | cons x xs M =>
  have w:=h x (by simp);have A:Lim xs:=fun y J=>h y (by simp[J]);cases xs with
  | nil =>have:=B x (by simp);simp only[val,Nat.mul_zero,aVB];exact pF this w
  | cons y l =>
   have j:=M A fun z K=>B z (by rw[List.getLast?_cons_cons]; exact K);have I:val (y::l)≠0:=fun e=>by rw[e,gE] at j; cases j
   have u:x+4294967296*val (y::l)≠0:=by have:0<4294967296*val (y::l):=Nat.mul_pos (by decide) (aWD I);omega
   show aJ (x+4294967296*val (y::l))=_;rw[sZ u];have E:(x+4294967296*val (y::l))%4294967296=x:=by rw[Nat.add_mul_mod_self_left,aUZ w]
   have F:(x+4294967296*val (y::l))/4294967296=val (y::l):=by rw[Nat.add_mul_div_left _ _ (by decide),aWQ w,aUF]
   rw[E,F,j]
theorem R9 {xs:List Nat} {n:Nat} (h:∀ j x,n≤j→xs[j]?=some x→x=0):val (xs.take n)=val xs:=by
 have e:xs.drop n=aTK (xs.drop n).length 0:=by apply List.ext_getElem (by simp);intro i l u;rw[List.getElem_replicate,List.getElem_drop];exact h (n+i) _ Om (aTP _)
 conv=>rhs; rw[← aWH n xs,gZ,e,tH]
 simp
theorem MB {xs:List Nat} (y:Lim xs) {n:Nat} (w:n≤xs.length) (h:∀ j x,n≤j→xs[j]?=some x→x=0) (u:∀ x,0<n→xs[n-1]?=some x→x≠0):xs.take n=aJ (val xs):=by
 rw[← R9 h,aoA (y.take n)];intro x l;rw[List.getLast?_eq_getElem?,aUA,aVT w] at l;rcases aVP n with e | e
 ·subst e; simp at l
 ·rw[List.getElem?_take_of_lt Om] at l;exact u x e l
theorem acE {xs:List Nat} (u:Lim xs) {n:Nat} (l:n≤xs.length) (h:∀ j x,n≤j→xs[j]?=some x→x=0) (e:∀ x,0<n→xs[n-1]?=some x→x≠0):nl (val xs)=n:=by
 rw[nl,← MB u l h e,aUA]; omega
theorem fZ {xs:List Nat} (h:Lim xs):nl (val xs)≤xs.length:=(jU _ _).2 (fP h)
theorem lL {xs : List Nat} (h : Lim xs) : xs.take (nl (val xs)) = aJ (val xs) := by
  have hl := fZ h;have e : val (xs.take (nl (val xs)) ++ xs.drop (nl (val xs))) = val xs := by rw [aWH]
  rw [gZ, aUA, aVT hl] at e;have h1 := fP (h.take (nl (val xs)));rw [aUA, aVT hl] at h1;have h2 := (jU (val xs) (nl (val xs))).1 (aTO _);have hd : val (xs.drop (nl (val xs))) = 0 := by
    rcases aVP (val (xs.drop (nl (val xs)))) with h | h
    · exact h
    · have := aWC (4294967296 ^ nl (val xs)) h
      omega
  have hz : ∀ j x, nl (val xs) ≤ j → xs[j]? = some x → x = 0 := by
    have zero : ∀ ys : List Nat, val ys = 0 → ∀ y ∈ ys, y = 0 := by
      intro ys
      induction ys with
      | nil => intro _ y hy; cases hy
      | cons z zs ih =>
        intro hv y hy;simp only [val] at hv;rw [aTW] at hy;rcases hy with rfl | hy
        · omega
        · exact ih (by have : 4294967296 * val zs = 0 := Om
                       rcases Nat.mul_eq_zero.1 this with h | h
                       · cases h
                       · exact h) y hy
    intro j x hj hx;refine zero _ hd x ?_;rw [List.mem_iff_getElem?];exact ⟨j - nl (val xs), by rw [aWX, Nat.add_sub_cancel' hj]; exact hx⟩
  refine MB h hl hz fun x hpos hx e => ?_;subst e;have hz2 : ∀ j x, nl (val xs) - 1 ≤ j → xs[j]? = some x → x = 0 := fun j y hj hy => by
    rcases aUE j (nl (val xs)) with h3 | h3
    · have : j = nl (val xs) - 1 := Om
      subst this; rw [hx] at hy; cases hy; rfl
    · exact hz j y h3 hy
  have h3 := R9 hz2;have h4 := fP (h.take (nl (val xs) - 1));rw [h3, aUA, aVT Om] at h4;have := (jU (val xs) (nl (val xs) - 1)).2 h4;omega
theorem Qn {xs:List Nat} (h:Lim xs) {n:Nat} (w:nl (val xs)=n+1):∃ x,xs[n]?=some x∧x≠0:=by
 have y:=fZ h;refine⟨xs[n]'Om,aTP _,fun e=>?_⟩;have u:=lL h;have j:=aS (val xs);rw[← u,w,aVS Om,e,gZ] at j;simp only[val,Nat.mul_zero,aVB] at j;have l:=fP (h.take n);rw[j,aUA,aVT Om] at l;have:=(jU (val xs) n).2 l;omega
theorem tF (xs:List Nat) {k:Nat} (h:k<xs.length):val xs=val (xs.take k)+4294967296 ^ k*(xs[k]+4294967296*val (xs.drop (k+1))):=by
 conv=>lhs; rw[← aWH k xs,gZ,aUA,aVT Om,aVV h]
 rfl
theorem ig {xs e:List Nat} (y:Lim xs) {k:Nat} (j:k<xs.length) (l:k<e.length) (x:xs.drop (k+1)=e.drop (k+1)) (h:xs[k]<e[k]):val xs<val e:=by
 rw[tF xs j,tF e l,x];have u:=fP (y.take k);rw[aUA,aVT Om] at u;have w:4294967296 ^ k*(xs[k]+4294967296*val (e.drop (k+1))+1)≤4294967296 ^ k*(e[k]+4294967296*val (e.drop (k+1))):=aWC _ Om;rw[aTX _ _ 1,Nat.mul_one] at w;omega
def dU (a b:Nat):Int:=if a<b then -1 else if b<a then 1 else 0
theorem v7 {xs e:List Nat} {k:Nat} (j:k<xs.length) (l:k<e.length) (u:xs.drop (k+1)=e.drop (k+1)) (h:xs[k]=e[k]):xs.drop k=e.drop k:=by
 rw[aVV j,aVV l,u,h]
theorem gT {a b:Nat} (h:a≤b):nl a≤nl b:=(jU a _).2 (Nat.lt_of_le_of_lt h ((jU b _).1 (aTO _)))
theorem E7 {xs:List Nat} (h:Lim xs) {j:Nat} (l:j<nl (val xs)):∃ (u:j<xs.length) (w:j<(aJ (val xs)).length),xs[j]=(aJ (val xs))[j]:=by
 have x:=fZ h;refine⟨by omega,l,?_⟩;have e:=lL h;have:(xs.take (nl (val xs)))[j]?=(aJ (val xs))[j]?:=by rw[e]
 rw[List.getElem?_take_of_lt l,aTP Om,aTP l] at this;exact aVU.inj this
def cW (n:Nat):Nat:=if h:n=0 then 0 else cW (n/2)+1
termination_by n
decreasing_by exact Nat.div_lt_self (aWD h) (by decide)
theorem kJ:cW 0=0:=by rw[cW]; simp
theorem pX {n:Nat} (h:n≠0):cW n=cW (n/2)+1:=by rw[cW]; simp[h]
theorem mV (n k:Nat):cW n≤k↔n<2 ^ k:=by
 induction k generalizing n with
 | zero =>
  by_cases h:n=0
  ·subst h; simp[kJ]
  ·rw[pX h]; simp; omega
 | succ k e =>
  by_cases h:n=0
  ·subst h; simp[kJ,aWJ]
  ·rw[pX h,Nat.succ_le_succ_iff,e,aVL,aWS (by decide)]
theorem kV {n:Nat}:cW n=0↔n=0:=by
 have:=mV n 0;simp at this;exact this
theorem E8 {hi lo k:Nat} (u:lo<2 ^ k) (j:hi≠0):cW (lo+2 ^ k*hi)=k+cW hi:=by
 apply Nat.le_antisymm
 ·rw[mV,Nat.pow_add];have e:=(mV hi _).1 (aTO _);have:2 ^ k*(hi+1)≤2 ^ k*2 ^ cW hi:=aWC _ e;rw[aTX,Nat.mul_one] at this;omega
 ·obtain⟨b,hb⟩:∃ b,cW hi=b+1:=⟨cW hi-1,by have:=mt kV.1 j; omega⟩;rw[hb];rcases aUE (cW (lo+2 ^ k*hi)) (k+(b+1)) with h | h
  ·have e:=(mV (lo+2 ^ k*hi) (k+b)).1 Om;rw[Nat.pow_add] at e;have l:¬ hi<2 ^ b:=fun h=>by have:=(mV hi b).2 h; omega
   have:2 ^ k*2 ^ b≤2 ^ k*hi:=aWC _ Om;omega
  ·exact h
theorem mW (n k:Nat):cW n≤32*k↔nl n≤k:=by
 rw[mV,jU,Nat.pow_mul]
end Go.Na
namespace Go.PM
theorem Lq {F e:PF} (h:F.le e:=by (repeat' (first|exact c_|refine d_ ?_ ?_))<;>first|(simp only[go_sem]<;>rfl)|rfl|assumption):F.le e:=h
end Go.PM
namespace Go.PM
open Go Go.Na
abbrev aL (xs:List Nat):List (List PV):=xs.map fun (n:Nat)=>[PV.int .u32 (n:Int)]
abbrev aK (xs:List Nat):PV:=.sl 1 (xs.map fun (n:Nat)=>[PV.int .u32 (n:Int)])
theorem cF (xs:List Nat):(aL xs).length=xs.length:=by simp
theorem bT (xs:List Nat) {i:Nat} (h:i<xs.length):(aL xs)[i]?=some [.int .u32 (xs[i]:Nat)]:=by simp[h]
theorem zg (xs:List Nat) (k:Nat):aK (xs.take k)=.sl 1 ((xs.map fun (n:Nat)=>[PV.int .u32 (n:Int)]).take k):=by rw[aK,List.map_take]
theorem cU (n:Nat):IntKind.u32.wrap (n:Int)=((n%4294967296:Nat):Int):=by
 have e:IntKind.u32.wrap (n:Int)=(n:Int)%4294967296:=by simp[IntKind.wrap,IntKind.bits,IntKind.signed]
 rw[e]; rfl
theorem xQ {k:Nat} (h:k≤9223372036854775807) (e:0<k):IntKind.i64.wrap ((k:Int)-1)=((k-1:Nat):Int):=by
 rw[wrap_i64 Om Om]; omega
def ajC (xs:List Nat) (n:Nat):PF:=((PF.nil.set 0 (aK xs)).set 3 (.int .i64 n))
theorem ajE {C:Ctx} (xs:List Nat) (B:Lim xs) (F:xs.length≤35184372087808):qD.wp C (aR HA.res (aI (.int .i64 (nl (val xs):Nat)))) (PF.args [aK xs]) .nil:=by
 simp only[go_sem,qD,KO,KP,HA];refine wp_loop (α:=Nat) (ajC xs) (fun _=>.nil) (fun n=>n≤xs.length∧∀ j x,n≤j→xs[j]?=some x→x=0) (fun n=>n) xs.length ⟨aTO _,fun j x h e=>by rw[aUW h] at e; cases e⟩ ?_ a_ ?_
 ·unfold ajC;exact Lq
 rintro n ⟨A,y⟩;have out:(∀ x,0<n→xs[n-1]?=some x→x≠0)→nl (val xs)=n:=fun h=>acE B A y h;simp only[go_sem,KN,KQ,ajC];by_cases u:(n:Int)>0
 ·have w:0<n:=Om;have hi:=bT xs (Om:n-1<xs.length);simp only[go_sem,u,xQ (Om:n≤9223372036854775807) w,hi];by_cases l:xs[n-1]=0
  ·simp only[go_sem,bP (Om:((xs[n-1]:Nat):Int)=0),KR,xQ (Om:n≤9223372036854775807) w];refine aH (n-1) ⟨by omega,fun j x E he=>?_⟩ Om ?_ a_
   ·rcases aUE j n with h | h
    ·have:j=n-1:=Om;subst this;rw[aTP Om] at he;cases he; exact l
    ·exact y j x h he
   ·exact Lq
  ·simp only[go_sem,bE (Om:((xs[n-1]:Nat):Int)≠0),uH];refine aQ (.inr rfl) rfl ?_;rw[out fun x _ he=>by rw[aTP Om] at he; cases he; exact l];rfl
 ·simp only[go_sem,u,uH];refine aQ (.inr rfl) rfl ?_;rw[out fun x h=>by omega];rfl
theorem aoW {C:Ctx} (xs:List Nat) (e:aG C 138 [aK xs] .nil (aI (.int .i64 (nl (val xs):Nat)))):EP.wp C (aR Np.res (aI (.bool (decide (nl (val xs)>512))))) (PF.args [aK xs]) .nil:=by
 simp only[go_sem,EP,zj,zk,Np];refine aA e rfl ?_;simp only[go_sem];refine aQ (.inr rfl) rfl ?_;simp only[bQ,PV.bool.injEq,decide_eq_decide];omega
def szL (n:Nat):List Nat:=if nl n>512 then [] else aJ n
def szE (n:Nat):Int:=if nl n>512 then 2 else 0
def szV (n:Nat):PV:=.tup [aK (szL n),.int .i64 (szE n)]
theorem apB {C:Ctx} (xs:List Nat) (w:Lim xs) (e:aG C 138 [aK xs] .nil (aI (.int .i64 (nl (val xs):Nat)))):ER.wp C (aR N3.res (cB (szV (val xs)))) (PF.args [aK xs]) .nil:=by
 simp only[go_sem,ER,zy,zz,N3];refine aA e rfl ?_;simp only[go_sem,z8];by_cases h:nl (val xs)>512
 ·have u:((nl (val xs):Nat):Int)>512:=Om;simp only[go_sem,u,Aa];refine aV (vs:=[.aB,.int .i64 2]) (.inr rfl) .nil rfl a_ ⟨?_,rfl⟩;rw[szV,szL,szE,if_pos h,if_pos h];refine .tup rfl fun j p q l hq=>?_
  match j with
  | 0=>simp at l hq; subst l; subst hq; exact .nil 1
  | 1=>simp at l hq; subst l; subst hq; exact .refl _
  | j+2=>simp at l
 ·have u:¬ ((nl (val xs):Nat):Int)>512:=Om;have y:=fZ w;have x:((nl (val xs):Nat):Int)≤(xs.length:Nat):=Om;simp only[go_sem,u,Ab,x,or_true,aUV];refine aV (.inr rfl) .nil rfl a_ ⟨?_,rfl⟩;rw[szV,szL,szE,if_neg h,if_neg h,← lL w,zg];exact .refl _
theorem axK {C:Ctx} (v:Nat) (K:v<18446744073709551616) (j:∀ xs,Lim xs→xs.length≤35184372087808→aG C 138 [aK xs] .nil (aI (.int .i64 (nl (val xs):Nat)))) :
  KT.wp C (aR ajG.res (aI (aK (aJ v)))) (PF.args [.int .u64 v]) .nil:=by
 have B:IntKind.u32.wrap ((v:Nat):Int)=((v%4294967296:Nat):Int):=cU v;have E:Int.fdiv ((v:Nat):Int) 4294967296=((v/4294967296:Nat):Int):=by rw[Int.fdiv_eq_ediv_of_nonneg _ (by decide)]; rfl
 have w:v/4294967296<4294967296:=Om;have F:IntKind.u32.wrap ((v/4294967296:Nat):Int)=((v/4294967296:Nat):Int):=by rw[cU,aUZ w]
 have l:Lim [v%4294967296,v/4294967296]:=by
  intro x A;simp only[aTW,List.mem_nil_iff,or_false] at A;rcases A with rfl | rfl
  ·exact aVF _ (by decide)
  ·exact w
 have e:val [v%4294967296,v/4294967296]=v:=by simp only[val,Nat.mul_zero,aVB]; exact Nat.mod_add_div v 4294967296
 have J:∀ a b:Int,PV.bin .shr (.int .u64 a) (.int .u64 b)=shift .shr .u64 a b:=fun _ _=>rfl;have u:shift .shr .u64 (v:Int) 32=some (.int .u64 ((v/4294967296:Nat):Int)):=by
  unfold shift;rw[if_neg (by decide)];simp only;have:min (Int.toNat 32) IntKind.u64.bits=32:=by decide
  rw[this];rw[show (2:Int) ^ 32=4294967296 by decide,E]
 simp only[go_sem,KT,Nq,Nr,ajG,B,u,F];have hb:(2:Nat)*1≤16777216:=by decide
 simp only[go_sem,Ns];refine aA (j [v%4294967296,v/4294967296] l (by simp)) rfl ?_;have y:=fZ l;rw[e] at y ⊢;have I:((nl v:Nat):Int)≤((2:Nat):Int):=by simp at y; omega
 simp only[go_sem,I,or_true,aUV];refine aQ (.inr rfl) rfl ?_;have:=lL l;rw[e] at this;rw[← this,zg];rfl
theorem axP {C:Ctx} (xs:List Nat) (j:Lim xs) (w:xs.length≤35184372087808) (e:aG C 138 [aK xs] .nil (aI (.int .i64 (nl (val xs):Nat)))) :
  KU.wp C (aR ajI.res (cB (aK (aJ (val xs))))) (PF.args [aK xs]) .nil:=by
 simp only[go_sem,KU,Ob,Oc,ajI];refine aA e rfl ?_;have x:=fZ j;have l:((nl (val xs):Nat):Int)≤(xs.length:Nat):=Om;simp only[go_sem,l,or_true,aUV];refine jF (rows:=[]) (src:=aL (aJ (val xs))) .nil ?_ ?_ fun v H' u _=>?_
 ·simp only[go_sem];rw[← lL j,← List.map_take]
 ·unfold roomFor;rw[cF];have:(aJ (val xs)).length=nl (val xs):=rfl;simp only[aVR,maxLen];omega
 ·exact LJ (.inr rfl) (by simpa using u) rfl
end Go.PM
theorem Sq {p:Prop} (h:p:=by simp only[go_sem]):p:=h
theorem Ev {p:Prop} (h:p:=by simp only[go_sem]<;>rfl):p:=h
namespace Go.PM
open Go Go.Na
def aiS (xs e:List Nat) (i:Int):PF:=(((PF.nil.set 0 (aK xs)).set 1 (aK e)).set 7 (.int .i64 i))
theorem aFH {C:Ctx} (xs e:List Nat) (M:Lim xs) (N:Lim e) (lx:xs.length≤35184372087808) (ly:e.length≤35184372087808) (A:aG C 138 [aK xs] .nil (aI (.int .i64 (nl (val xs):Nat)))) (B:aG C 138 [aK e] .nil (aI (.int .i64 (nl (val e):Nat)))) :
  QY.wp C (aR axD.res (aI (.int .i64 (dU (val xs) (val e))))) (PF.args [aK xs,aK e]) .nil:=by
 simp only[go_sem,QY,Zs,Zt,axD];refine aA A Ev ?_;simp only[go_sem];refine aA B Ev ?_;simp only[go_sem,Zu];have Z:=fZ M;have V:=fZ N;by_cases c1:nl (val xs)<nl (val e)
 ·have j:((nl (val xs):Nat):Int)<(nl (val e):Nat):=Om;simp only[go_sem,j,Zv];refine aQ (.inr rfl) Ev ?_;have:val xs<val e:=by
   rcases aUE (val xs) (val e) with h | h
   ·exact h
   ·have:=gT h; omega
  simp[bQ,dU,this]
 have j:¬ ((nl (val xs):Nat):Int)<(nl (val e):Nat):=Om;simp only[go_sem,j,Zw];by_cases c2:nl (val xs)>nl (val e)
 ·have l:((nl (val xs):Nat):Int)>(nl (val e):Nat):=Om;simp only[go_sem,l,Zx];refine aQ (.inr rfl) Ev ?_;have:val e<val xs:=by
   rcases aUE (val e) (val xs) with h | h
   ·exact h
   ·have:=gT h; omega
  have x:¬ val xs<val e:=Om;simp[bQ,dU,this,x]
 have l:¬ ((nl (val xs):Nat):Int)>(nl (val e):Nat):=Om;have Y:nl (val xs)=nl (val e):=Om;simp only[go_sem,l,Zy];have ex:=aS (val xs);have w:=aS (val e);have S:=aU (val xs);have U:=aU (val e);refine wp_loop (α:=Nat) (fun k=>aiS xs e ((k:Int)-1)) (fun _=>.nil) (fun k=>k≤nl (val xs)∧(aJ (val xs)).drop k=(aJ (val e)).drop k) (fun k=>k) (nl (val xs)) ⟨aTO _,?_⟩ ?_ a_ ?_
 ·rw[aXE (by rw[nl]; exact aTO _),aXE (by rw[Y,nl]; exact aTO _)]
 ·unfold aiS
  (repeat' (first|exact c_|refine d_ ?_ ?_))<;>first|(simp only[go_sem,wrap_i64 (show -9223372036854775808≤((nl (val xs):Nat):Int)-1 by omega) (show ((nl (val xs):Nat):Int)-1≤9223372036854775807 by omega)]<;>rfl)|rfl
 rintro k ⟨hk,u⟩;simp only[go_sem,Nd,Zz,aiS];by_cases h0:0<k
 ·obtain⟨m,rfl⟩:∃ m,k=m+1:=⟨k-1,by omega⟩;have E:((m+1:Nat):Int)-1=(m:Int):=Om;have y:(m:Int)≥0:=Om;obtain⟨O,F,I⟩:=E7 M (Om:m<nl (val xs));obtain⟨R,J,K⟩:=E7 N (Om:m<nl (val e));simp only[go_sem,E,y];refine bC .nil cX a_ ?_;simp only[go_sem,Z1,bT xs O,bT e R];by_cases W:xs[m]<e[m]
  ·simp only[go_sem,show ((xs[m]:Nat):Int)<(e[m]:Nat) by omega,Z2];refine aQ (.inr rfl) Ev ?_;have:=ig S F J u (by rw[← I,← K]; exact W);rw[ex,w] at this;simp[bQ,dU,this]
  ·simp only[go_sem,show ¬ ((xs[m]:Nat):Int)<(e[m]:Nat) by omega];refine bC .nil cX a_ ?_;simp only[go_sem,Nf,bT xs O,bT e R];by_cases X:xs[m]>e[m]
   ·simp only[go_sem,show ((xs[m]:Nat):Int)>(e[m]:Nat) by omega,Ng];refine aQ (.inr rfl) Ev ?_;have:=ig U J F u.symm (by rw[← I,← K]; exact X);rw[ex,w] at this;have x:¬ val xs<val e:=Om;simp[bQ,dU,this,x]
   ·simp only[go_sem,show ¬ ((xs[m]:Nat):Int)>(e[m]:Nat) by omega,Nh];refine aH m ⟨by omega,v7 F J u (by rw[← I,← K]; omega)⟩ Om ?_ a_
    (repeat' (first|exact c_|refine d_ ?_ ?_))<;>first|(simp only[go_sem,wrap_i64 (Om:-9223372036854775808≤(m:Int)-1) (Om:(m:Int)-1≤9223372036854775807)]<;>rfl)|rfl
 ·have:k=0:=Om;subst this;have E:¬ ((0:Nat):Int)-1≥0:=by decide
  simp only[go_sem,E,Ni];refine aQ (.inr rfl) Ev ?_;rw[aUV,aUV] at u;have:val xs=val e:=by rw[← ex,← w,u]
  simp[bQ,dU,this]
def M1 (k:Nat) (v:Nat):PF:=((PF.nil.set 4 (.int .i64 k)).set 5 (.int .u32 v))
theorem axB {C:Ctx} (xs:List Nat) (A:Lim xs) (X:xs.length≤35184372087808) (B:aG C 138 [aK xs] .nil (aI (.int .i64 (nl (val xs):Nat)))) :
  KL.wp C (aR aiR.res (aI (.int .i64 (cW (val xs):Nat)))) (PF.args [aK xs]) .nil:=by
 simp only[go_sem,KL,M3,M4,aiR];refine aA B Ev ?_;simp only[go_sem,M5];have W:=fZ A;by_cases O:nl (val xs)=0
 ·simp only[go_sem,bP (show ((nl (val xs):Nat):Int)=0 by omega),M6];refine aQ (.inr rfl) Ev ?_;have:val xs=0:=jL.1 O;simp[bQ,this,kJ]
 obtain⟨n,N⟩:∃ n,nl (val xs)=n+1:=⟨nl (val xs)-1,by omega⟩;obtain⟨t,x,E⟩:=Qn A N;have y:t<4294967296:=A t (aVH x);have j:n<xs.length:=Om;have V:val xs=val (xs.take n)+4294967296 ^ n*t:=by
  have e:=lL A;have:=aS (val xs);have U:xs[n]=t:=by rw[aTP j] at x; exact aVU.inj x
  rw[← e,N,aVS j,U,gZ,aUA,aVT Om] at this;simp only[val,Nat.mul_zero,aVB] at this;exact this.symm
 have hb:cW (val xs)=32*n+cW t:=by
  have J:=fP (A.take n);rw[aUA,aVT Om] at J;rw[V,show (4294967296:Nat) ^ n=2 ^ (32*n) by rw[Nat.pow_mul]] at *
  exact E8 J E
 have l:(aL xs)[n]?=some [.int .u32 (t:Nat)]:=by rw[bT xs j];rw[aTP j] at x;rw[aVU.inj x]
 have R:IntKind.i64.wrap (((nl (val xs):Nat):Int)-1)=(n:Int):=by rw[wrap_i64 Om Om]; omega
 have S:IntKind.i64.wrap ((n:Int)*32)=((32*n:Nat):Int):=by rw[wrap_i64 Om Om]; omega
 simp only[go_sem,bE (show ((nl (val xs):Nat):Int)≠0 by omega),M7,M8,R,S,l];refine wp_loop (α:=Nat × Nat) (fun a=>M1 a.1 a.2) (fun _=>.nil) (fun a=>a.1+cW a.2=32*n+cW t∧a.2<4294967296) (fun a=>a.2) (32*n,t) ⟨rfl,y⟩ ?_ a_ ?_
 ·unfold M1;exact Lq
 rintro⟨k,v⟩ ⟨K,hlt⟩;simp only at K hlt;have M:cW t≤32:=(mV t 32).2 y;simp only[go_sem,M2,M9,M1];by_cases I:(v:Int)>0
 ·have F:v≠0:=Om;have u:PV.bin .shr (.int .u32 (v:Int)) (.int .u64 1)=some (.int .u32 ((v/2:Nat):Int)):=by
   show shift .shr .u32 (v:Int) 1=_;unfold shift;rw[if_neg (by decide)];simp only;have:min (Int.toNat 1) IntKind.u32.bits=1:=by decide
   rw[this,show (2:Int) ^ 1=2 by decide,Int.fdiv_eq_ediv_of_nonneg _ (by decide)];rfl
  have w:shift .shr .u32 (v:Int) 1=some (.int .u32 ((v/2:Nat):Int)):=u;simp only[go_sem,I,Nb,Nc,u,w,wZz k];refine aH (k+1,v/2) ⟨?_,?_⟩ (Nat.div_lt_self Om (by decide)) ?_ a_
  ·have:=pX F;simp only; omega
  ·simp only; omega
  ·exact Lq
 ·have:v=0:=Om;subst this;simp only[go_sem,I,zh];refine aQ (.inr rfl) Ev ?_;rw[kJ] at K;simp only[bQ,PV.int.injEq,true_and];omega
structure rT (C:Ctx):Prop where
 length:∀ xs,Lim xs→xs.length≤35184372087808→aG C 138 [aK xs] .nil (aI (.int .i64 (nl (val xs):Nat)))
 large:∀ xs,Lim xs→xs.length≤35184372087808→aG C 137 [aK xs] .nil (aI (.bool (decide (nl (val xs)>512))))
 sized:∀ xs,Lim xs→xs.length≤35184372087808→aG C 141 [aK xs] .nil (aI (szV (val xs)))
 trim:∀ xs,Lim xs→xs.length≤35184372087808→aG C 135 [aK xs] .nil (aI (aK (aJ (val xs))))
 make:∀ v:Nat,v<18446744073709551616→aG C 132 [.int .u64 v] .nil (aI (aK (aJ v)))
 cmp:∀ xs ys,Lim xs→Lim ys→xs.length≤35184372087808→ys.length≤35184372087808→aG C 129 [aK xs,aK ys] .nil (aI (.int .i64 (dU (val xs) (val ys))))
def jY:PV→List Nat
 | .sl _ rows=>rows.map fun r=>match r with | [.int _ n]=>n.toNat | _=>0
 | _=>[]
theorem eS (xs:List Nat):jY (aK xs)=xs:=by
 simp[jY,aWO,Function.comp_def]
def aiQ:Spec:=fun name vs=>match name,vs with
 | 138,[x]=>some ([],fun _=>aI (.int .i64 (nl (val (jY x)):Nat)))
 | _,_=>none
theorem pG (xs:List Nat):aiQ 138 [aK xs]=some ([],fun _=>aI (.int .i64 (nl (val xs):Nat))):=by
 show some _=_; rw[eS]
theorem AF (P:List Nat) (k v:Nat):(P++aTK (k+1) 0).set P.length v=(P++[v])++aTK k 0:=by
 rw[aWZ _ _ (aTO _),Nat.sub_self,List.replicate_succ,List.set_cons_zero,aUP];rfl
theorem gD (L:List Nat) (i v:Nat):(aL L).set i [.int .u32 (v:Int)]=aL (L.set i v):=by
 unfold aL; rw[List.map_set]
theorem kF (P:List Nat) (v:Nat):val (P++[v])=val P+4294967296 ^ P.length*v:=by
 rw[gZ]; simp[val]
theorem cM (xs:List Nat) {i:Nat} (h:i<xs.length):val (xs.take (i+1))=val (xs.take i)+4294967296 ^ i*xs[i]:=by
 rw[aVS h,kF,aUA,aVT Om]
theorem yZ {v:Nat}:shift .shr .u64 (v:Int) 32=some (.int .u64 ((v/4294967296:Nat):Int)):=by
 unfold shift;rw[if_neg (by decide)];simp only;have:min (Int.toNat 32) IntKind.u64.bits=32:=by decide
 rw[this,show (2:Int) ^ 32=4294967296 by decide,Int.fdiv_eq_ediv_of_nonneg _ (by decide)];rfl
theorem fQ {a b:Nat} (h:a+b<18446744073709551616):IntKind.u64.wrap ((a:Int)+(b:Int))=((a+b:Nat):Int):=by
 rw[wrap_u64 Om Om]; omega
theorem bD {a:Nat} (h:a<18446744073709551616):IntKind.u64.wrap (a:Int)=(a:Int):=wrap_u64 Om Om
def lm (a b:List Nat) (o i c:Nat):PF:=(((((((PF.nil.set 0 (aK a)).set 1 (aK b)).set 6 (.osl o 1 0 (a.length+1))).set 7 (.int .u64 c)).set 35 (.int .i64 (a.length:Nat))).set 34 (aK a)).set 36 (.int .i64 i))
theorem zf {C:Ctx} (L:rT C) (a b:List Nat) (ha:Lim a) (hb:Lim b) (hl:b.length≤a.length) (h1:a.length≤1000) (F:PF) (f0:F 0=some (aK a)) (f1:F 1=some (aK b)) :
  aC.wp C (.seq (.region tk) (.seq (.region tp) (.seq (.seq (.region tq) (.block 0 (.loop b8))) (.seq (.region cc) (.seq (.region ce) .ret))))) (aR [.tmp 4,.tmp 5] (cB (szV (val a+val b)))) F .nil:=by
 have S:IntKind.i64.wrap ((a.length:Int)+1)=((a.length+1:Nat):Int):=dM Om;have η:((a.length+1:Nat):Int)*((4:Nat):Int)≤140737488355328:=Om;have θ:((a.length+1:Nat):Int)≤9223372036854775807:=Om;have hz:aTK (a.length+1) [PV.int .u32 0]=aL ([]++aTK (a.length+1) 0):=by simp[aL]
 simp only[go_sem,tk,f0,S,η,θ,hz];refine aO fun o ho=>?_;simp only[go_sem,tp,tq,f0];refine wp_loop (α:=List Nat × Nat × Nat) (fun s=>lm a b s.2.2 s.1.length s.2.1) (fun s=>PH.nil.set s.2.2 (.rows 1 (aL (s.1++aTK (a.length+1-s.1.length) 0))))
  (fun s=>s.1.length≤a.length∧Lim s.1∧s.2.1≤1∧val s.1+4294967296 ^ s.1.length*s.2.1=val (a.take s.1.length)+val (b.take s.1.length)) (fun s=>a.length-s.1.length) ([],0,o) ⟨by simp,by simp[Lim],by simp,by simp[val]⟩ ?_ ?_ ?_
 ·unfold lm;exact Lq
 ·exact e_ a_ (by simp only[go_sem,aVR])
 rintro⟨P,c,q⟩ ⟨hP,j,hc,A⟩;simp only at hP j hc A;simp only[go_sem,b8,Zq,lm];by_cases Y:P.length<a.length
 ·have E:(P.length:Int)<(a.length:Nat):=Om;have ι:=ha _ (aTN Y);obtain⟨k,W⟩:∃ k,a.length+1-P.length=k+1:=⟨a.length-P.length,by omega⟩;have M:(aL (P++aTK (k+1) 0))[P.length]?=some [.int .u32 ((0:Nat):Int)]:=by rw[bT _ (by simp)]; simp
  have l:a.length+1-(P.length+1)=k:=Om;have I:(P.length:Int)<((a.length+1:Nat):Int):=Om;have fin:∀ (t:Nat) (w:PF) (H':PH),t<2*4294967296→val P+4294967296 ^ P.length*t=val (a.take (P.length+1))+val (b.take (P.length+1)) →
    w 0=some (aK a)→w 1=some (aK b)→w 6=some (.osl q 1 0 (a.length+1))→w 7=some (.int .u64 (t:Nat))→w 8=some (.int .i64 P.length)→w 34=some (aK a)→w 35=some (.int .i64 (a.length:Nat))→w 36=some (.int .i64 P.length) →
    H' q=some (.rows 1 (aL (P++aTK (k+1) 0)))→∀ K:cE,(∀ y B V H2,y.length=P.length+1→Lim y→B≤1→val y+4294967296 ^ y.length*B=val (a.take (P.length+1))+val (b.take (P.length+1))→(lm a b q y.length B).le V→H2 q=some (.rows 1 (aL (y++aTK k 0)))→K .normal V H2) →
    aC.wp C (.seq (.region b9) (.region ca)) (fA 1 (jV C (aC.wp C (.region cb)) K)) w H':=by
   intro t w H' ht hv g0 g1 g6 g7 g8 γ δ ε gH K hK;have u:(aL (P++aTK (k+1) 0)).set P.length [.int .u32 ((t%4294967296:Nat):Int)]=aL ((P++[t%4294967296])++aTK k 0):=by rw[gD,AF]
   simp only[go_sem,b9,g6,g8,g7,cU,I,gH,M,u,ca,yZ,cb,ε,dM (Om:P.length<9223372036854775807)];refine hK (P++[t%4294967296]) (t/4294967296) _ _ (by simp) (j.app fun x X=>by simp at X; subst X; exact aVF _ (by decide)) Om ?_ ?_ Sq
   ·rw[kF,aTM,aTT,aVL,aUI,aWB,← aTX,Nat.mod_add_div];exact hv
   ·unfold lm;rw[aTM,aTT];refine d_ (d_ (d_ (d_ (d_ (d_ (d_ c_ ?_) ?_) ?_) ?_) ?_) ?_) ?_<;>simp only[go_sem,g0,g1,g6,γ,δ]
  have U:=cM a Y;have ea:IntKind.u64.wrap ((a[P.length]:Nat):Int)=((a[P.length]:Nat):Int):=bD Om;have es:IntKind.u64.wrap ((c:Nat)+((a[P.length]:Nat):Int))=((c+a[P.length]:Nat):Int):=fQ Om;simp only[go_sem,E,Mw,Mx,bT a Y,ea,es,My];by_cases Z:P.length<b.length
  ·have J:(P.length:Int)<(b.length:Nat):=Om;have κ:=hb _ (aTN Z);have N:=cM b Z;have eb:IntKind.u64.wrap ((b[P.length]:Nat):Int)=((b[P.length]:Nat):Int):=bD Om;have β:IntKind.u64.wrap (((c+a[P.length]:Nat):Int)+((b[P.length]:Nat):Int))=((c+a[P.length]+b[P.length]:Nat):Int):=fQ Om;simp only[go_sem,J,Mz,bT b Z,eb,β];refine fin (c+a[P.length]+b[P.length]) _ _ Om ?_ ?_ ?_ ?_ ?_ ?_ ?_ ?_ ?_ ?_ _ ?_
   ·rw[U,N,aTX,aTX]; omega
   any_goals simp only[go_sem,W]
   intro y B V H2 O e2 e3 R e5 e6;rw[← O] at R;refine aH (y,B,q) ⟨by simp only; omega,e2,e3,R⟩ (by simp only; omega) e5 (e_ a_ ?_);simp only;rw[O,l]; exact e6
  ·have J:¬ (P.length:Int)<(b.length:Nat):=Om;have N:val (b.take (P.length+1))=val (b.take P.length):=by rw[aUB Om,aUB Om]
   simp only[go_sem,J];refine fin (c+a[P.length]) _ _ Om ?_ ?_ ?_ ?_ ?_ ?_ ?_ ?_ ?_ ?_ _ ?_
   ·rw[U,N,aTX]; omega
   any_goals simp only[go_sem,W]
   intro y B V H2 O e2 e3 R e5 e6;rw[← O] at R;refine aH (y,B,q) ⟨by simp only; omega,e2,e3,R⟩ (by simp only; omega) e5 (e_ a_ ?_);simp only;rw[O,l]; exact e6
 ·have e:P.length=a.length:=Om;have E:¬ (P.length:Int)<(a.length:Nat):=Om;have W:aTK (a.length+1-P.length) 0=[0]:=by rw[show a.length+1-P.length=1 by omega]; rfl
  have M:(aL (P++[0]))[a.length]?=some [.int .u32 ((0:Nat):Int)]:=by rw[bT _ (by simp; omega)];simp[e]
  have u:(aL (P++[0])).set a.length [.int .u32 ((c%4294967296:Nat):Int)]=aL (P++[c]):=by have:=AF P 0 (c%4294967296);simp only[List.replicate_zero,aVC,aUF,List.replicate_one] at this;rw[← e,gD,this,aUZ Om]
  have I:(a.length:Int)<((a.length+1:Nat):Int):=Om;have hV:val (P++[c])=val a+val b:=by rw[kF,A,e,aUS,aUB hl]
  have ζ:Lim (P++[c]):=j.app fun x X=>by simp at X; omega
  simp only[go_sem,E,cc,cU,W,M,I,u,ce];have hs:=L.sized _ ζ (by simp; omega);rw[hV] at hs;refine rH (o:=q) (s:=1) (k:=a.length+1) (rs:=aL (P++[c])) (v:=szV (val a+val b)) ?_ rfl Sq (by rw[cF]; simp; omega) ?_
  ·rw[aUB (by rw[cF]; simp; omega)]; exact hs
  ·simp only[go_sem,szV];exact aV (.inr rfl) .nil rfl a_ ⟨.refl _,rfl⟩
def opV (big:Bool) (n:Nat):PV:=if big then .tup [aK [],.int .i64 2] else szV n
def eI (a b:Nat):Bool:=decide (nl a>512)||decide (nl b>512)
theorem fF {res:List dY} {F:PF} {H:PH} {e:Int} (h:dY.evs F H res=some [.aB,.int .i64 e]):aR res (cB (.tup [aK [],.int .i64 e])) .ret F H:=by
 refine aV (.inr rfl) .nil h a_ ⟨?_,rfl⟩;refine .tup rfl fun j p q l hq=>?_
 match j with
 | 0=>simp at l hq; subst l; subst hq; exact .nil 1
 | 1=>simp at l hq; subst l; subst hq; exact .refl _
 | j+2=>simp at l
theorem aY (n:Nat):(aJ n).length=nl n:=rfl
theorem kA {xs:List Nat} (h:Lim xs):(xs.map fun (n:Nat)=>[PV.int .u32 (n:Int)]).take (nl (val xs))=(aJ (val xs)).map fun (n:Nat)=>[PV.int .u32 (n:Int)]:=by
 rw[← List.map_take,lL h]
theorem aFC {C:Ctx} (L:rT C) (a b:List Nat) (w:Lim a) (hb:Lim b) (A:a.length≤35184372087808) (B:b.length≤35184372087808) :
  QW.wp C (aR awZ.res (cB (opV (eI (val a) (val b)) (val a+val b)))) (PF.args [aK a,aK b]) .nil:=by
 simp only[go_sem,QW,Zl,Zm,awZ];refine aA (L.large a w A) rfl ?_;by_cases l:nl (val a)>512
 ·simp only[go_sem,l,tj];rw[show opV (eI (val a) (val b)) (val a+val b)=.tup [aK [],.int .i64 2] by simp[opV,eI,l]];exact fF rfl
 simp only[go_sem,l];refine aA (L.large b hb B) rfl ?_;by_cases u:nl (val b)>512
 ·simp only[go_sem,u,tj];rw[show opV (eI (val a) (val b)) (val a+val b)=.tup [aK [],.int .i64 2] by simp[opV,eI,u]];exact fF rfl
 have e:opV (eI (val a) (val b)) (val a+val b)=szV (val a+val b):=by simp[opV,eI,l,u]
 rw[e];simp only[go_sem,u];refine bC .nil aiQ a_ ?_;simp only[go_sem,Zn];have J:=fZ w;have K:=fZ hb;have x:((nl (val a):Nat):Int)≤(a.length:Nat):=Om;have y:((nl (val b):Nat):Int)≤(b.length:Nat):=Om;refine bX (pG a) (L.length a w A) rfl a_ ?_;simp only[go_sem,x,or_true,aUV,kA w];refine bX (pG b) (L.length b hb B) rfl a_ ?_;simp only[go_sem,y,or_true,aUV,kA hb,Zo,aY];have E:=aS (val a);have F:=aS (val b);by_cases I:nl (val a)<nl (val b)
 ·have j:((nl (val a):Nat):Int)<(nl (val b):Nat):=Om;simp only[go_sem,j,Zp];have:=zf L (aJ (val b)) (aJ (val a)) (aU _) (aU _) (by rw[aY,aY]; omega) (by rw[aY]; omega);rw[E,F,Nat.add_comm] at this;exact this _ rfl rfl
 ·have j:¬ ((nl (val a):Nat):Int)<(nl (val b):Nat):=Om;simp only[go_sem,j];have:=zf L (aJ (val a)) (aJ (val b)) (aU _) (aU _) (by rw[aY,aY]; omega) (by rw[aY]; omega);rw[E,F] at this;exact this _ rfl rfl
theorem gU (n:Int):IntKind.u64.wrap n=n%18446744073709551616:=by simp[IntKind.wrap,IntKind.bits,IntKind.signed]
theorem XS (n:Int):IntKind.u32.wrap n=n%4294967296:=by simp[IntKind.wrap,IntKind.bits,IntKind.signed]
theorem ajZ {v:Int}:shift .shr .u64 v 63=some (.int .u64 (v/9223372036854775808)):=by
 unfold shift;rw[if_neg (by decide)];simp only;have:min (Int.toNat 63) IntKind.u64.bits=63:=by decide
 rw[this,show (2:Int) ^ 63=9223372036854775808 by decide,Int.fdiv_eq_ediv_of_nonneg _ (by decide)]
def SQ (a bor b:Nat):Nat:=(a+4294967296-bor-b)%4294967296
def fe (a bor b:Nat):Nat:=if a<bor+b then 1 else 0
theorem Qf {a bor b:Nat} (e:a<4294967296) (hb:b<4294967296) (j:bor≤1) (v:Int) (l:v=((a:Int)-bor-b)%18446744073709551616) :
  IntKind.u32.wrap v=((SQ a bor b:Nat):Int)∧v/9223372036854775808=((fe a bor b:Nat):Int)∧a+4294967296*fe a bor b=SQ a bor b+b+bor∧SQ a bor b<4294967296:=by
 rw[XS];unfold SQ fe;split<;>omega
def mg (a b:List Nat) (o i c:Nat):PF:=(((((((PF.nil.set 0 (aK a)).set 1 (aK b)).set 6 (.osl o 1 0 a.length)).set 7 (.int .u64 c)).set 33 (aK a)).set 34 (.int .i64 (a.length:Nat))).set 35 (.int .i64 i))
theorem apD {C:Ctx} (L:rT C) (a b:List Nat) (ha:Lim a) (hb:Lim b) (κ:val b≤val a) (hl:b.length≤a.length) (h1:a.length≤1000) (F:PF) (f0:F 0=some (aK a)) (f1:F 1=some (aK b)) :
  aC.wp C (.seq (.region uk) (.seq (.region ul) (.seq (.seq (.region um) (.block 1 (.loop cu))) (.seq (.region cz) .ret)))) (aR [.tmp 4,.tmp 5] (cB (szV (val a-val b)))) F .nil:=by
 have η:(a.length:Int)*((4:Nat):Int)≤140737488355328:=Om;have θ:(a.length:Int)≤9223372036854775807:=Om;have hz:aTK a.length [PV.int .u32 0]=aL ([]++aTK a.length 0):=by simp[aL]
 simp only[go_sem,uk,f0,η,θ,hz];refine aO fun o ho=>?_;simp only[go_sem,ul,um,f0];refine wp_loop (α:=List Nat × Nat × Nat) (fun s=>mg a b s.2.2 s.1.length s.2.1) (fun s=>PH.nil.set s.2.2 (.rows 1 (aL (s.1++aTK (a.length-s.1.length) 0))))
  (fun s=>s.1.length≤a.length∧Lim s.1∧s.2.1≤1∧val (a.take s.1.length)+4294967296 ^ s.1.length*s.2.1=val s.1+val (b.take s.1.length)) (fun s=>a.length-s.1.length) ([],0,o) ⟨by simp,by simp[Lim],by simp,by simp[val]⟩ ?_ ?_ ?_
 ·unfold mg;exact Lq
 ·exact e_ a_ (by simp only[go_sem,aVR])
 rintro⟨P,c,q⟩ ⟨hP,j,hc,B⟩;simp only at hP j hc B;simp only[go_sem,cu,aaW,mg];by_cases V:P.length<a.length
 ·have A:(P.length:Int)<(a.length:Nat):=Om;have δ:=ha _ (aTN V);obtain⟨k,U⟩:∃ k,a.length-P.length=k+1:=⟨a.length-P.length-1,by omega⟩;have ζ:(aL (P++aTK (k+1) 0))[P.length]?=some [.int .u32 ((0:Nat):Int)]:=by rw[bT _ (by simp)]; simp
  have l:a.length-(P.length+1)=k:=Om;have ι:=cM a V;have fin:∀ (t:Nat) (v:Int) (w:PF) (H':PH),t<4294967296→v=((a[P.length]:Int)-c-t)%18446744073709551616→val (b.take (P.length+1))=val (b.take P.length)+4294967296 ^ P.length*t →
    w 0=some (aK a)→w 1=some (aK b)→w 6=some (.osl q 1 0 a.length)→w 9=some (.int .u64 v)→w 8=some (.int .i64 P.length)→w 33=some (aK a)→w 34=some (.int .i64 (a.length:Nat))→w 35=some (.int .i64 P.length) →
    H' q=some (.rows 1 (aL (P++aTK (k+1) 0)))→∀ K:cE,(∀ y E S H2,y.length=P.length+1→Lim y→E≤1→val (a.take (P.length+1))+4294967296 ^ y.length*E=val y+val (b.take (P.length+1))→(mg a b q y.length E).le S→H2 q=some (.rows 1 (aL (y++aTK k 0)))→K .normal S H2) →
    aC.wp C (.seq (.region cv) (.region cw)) (fA 2 (jV C (aC.wp C (.region cx)) K)) w H':=by
   intro t v w H' ht hv u g0 g1 g6 g9 g8 Z β γ gH K hK;obtain⟨J,N,O,M⟩:=Qf δ ht hc v hv;have R:(aL (P++aTK (k+1) 0)).set P.length [.int .u32 ((SQ a[P.length] c t:Nat):Int)]=aL ((P++[SQ a[P.length] c t])++aTK k 0):=by rw[gD,AF]
   simp only[go_sem,cv,g6,g8,g9,J,A,gH,ζ,R,cw,ajZ,N,cx,γ,dM (Om:P.length<9223372036854775807)];refine hK (P++[SQ a[P.length] c t]) (fe a[P.length] c t) _ _ (by simp) (j.app fun x hx=>by simp at hx; subst hx; exact M) (by unfold fe; split<;>omega) ?_ ?_ Sq
   ·rw[kF,aTM,aTT,aVL,aUI,ι,u,aWB,← aTX,O,aTX,aTX];omega
   ·unfold mg;rw[aTM,aTT];refine d_ (d_ (d_ (d_ (d_ (d_ (d_ c_ ?_) ?_) ?_) ?_) ?_) ?_) ?_<;>simp only[go_sem,g0,g1,g6,Z,β]
  have ea:IntKind.u64.wrap ((a[P.length]:Nat):Int)=((a[P.length]:Nat):Int):=bD Om;simp only[go_sem,A,N4,N5,bT a V,ea,N6];by_cases W:P.length<b.length
  ·have I:(P.length:Int)<(b.length:Nat):=Om;have ε:=hb _ (aTN W);have u:=cM b W;have eb:IntKind.u64.wrap ((b[P.length]:Nat):Int)=((b[P.length]:Nat):Int):=bD Om;simp only[go_sem,I,N7,bT b W,eb];refine fin b[P.length] (IntKind.u64.wrap (IntKind.u64.wrap ((a[P.length]:Int)-(c:Int))-(b[P.length]:Int))) _ _ ε (by rw[gU,gU]; omega) u ?_ ?_ ?_ ?_ ?_ ?_ ?_ ?_ ?_ _ ?_
   any_goals simp only[go_sem,U]
   intro y E S H2 J N O M X Y;rw[← J] at M;refine aH (y,E,q) ⟨by simp only; omega,N,O,M⟩ (by simp only; omega) X (e_ a_ ?_);simp only;rw[J,l]; exact Y
  ·have I:¬ (P.length:Int)<(b.length:Nat):=Om;have u:val (b.take (P.length+1))=val (b.take P.length)+4294967296 ^ P.length*0:=by rw[aUB Om,aUB Om]; simp
   simp only[go_sem,I];refine fin 0 (IntKind.u64.wrap ((a[P.length]:Int)-(c:Int))) _ _ (by decide) (by rw[gU]; omega) u ?_ ?_ ?_ ?_ ?_ ?_ ?_ ?_ ?_ _ ?_
   any_goals simp only[go_sem,U]
   intro y E S H2 J N O M X Y;rw[← J] at M;refine aH (y,E,q) ⟨by simp only; omega,N,O,M⟩ (by simp only; omega) X (e_ a_ ?_);simp only;rw[J,l]; exact Y
 ·have e:P.length=a.length:=Om;have A:¬ (P.length:Int)<(a.length:Nat):=Om;have U:aTK (a.length-P.length) 0=[]:=by rw[show a.length-P.length=0 by omega]; rfl
  have hV:val P=val a-val b:=by
   rw[e,aUS,aUB hl] at B;have hlt:=fP j;rw[e] at hlt;rcases aVP c with h | h
   ·subst h; omega
   ·have:c=1:=Om;subst this; omega
  simp only[go_sem,A,U,aVC,cz];have hs:=L.sized _ j Om;rw[hV] at hs;refine rH (o:=q) (s:=1) (k:=a.length) (rs:=aL P) (v:=szV (val a-val b)) ?_ rfl Sq (by rw[cF]; omega) ?_
  ·rw[aUB (by rw[cF]; omega)]; exact hs
  ·simp only[go_sem,szV];exact aV (.inr rfl) .nil rfl a_ ⟨.refl _,rfl⟩
def sQ (a b:Nat):PV:=if eI a b then .tup [aK [],.int .i64 2] else if a<b then .tup [aK [],.int .i64 4] else szV (a-b)
theorem aFV {C:Ctx} (L:rT C) (a b:List Nat) (l:Lim a) (hb:Lim b) (A:a.length≤35184372087808) (B:b.length≤35184372087808) :
  RI.wp C (aR axO.res (cB (sQ (val a) (val b)))) (PF.args [aK a,aK b]) .nil:=by
 simp only[go_sem,RI,aaR,aaS,axO];refine aA (L.large a l A) rfl ?_;by_cases e:nl (val a)>512
 ·simp only[go_sem,e,uj];rw[show sQ (val a) (val b)=.tup [aK [],.int .i64 2] by simp[sQ,eI,e]];exact fF rfl
 simp only[go_sem,e];refine aA (L.large b hb B) rfl ?_;by_cases j:nl (val b)>512
 ·simp only[go_sem,j,uj];rw[show sQ (val a) (val b)=.tup [aK [],.int .i64 2] by simp[sQ,eI,j]];exact fF rfl
 simp only[go_sem,j,aaT];refine aA (L.cmp a b l hb A B) rfl ?_;by_cases u:val a<val b
 ·have y:dU (val a) (val b)<0:=by simp[dU,u]
  simp only[go_sem,y,aaU];rw[show sQ (val a) (val b)=.tup [aK [],.int .i64 4] by simp[sQ,eI,e,j,u]];exact fF rfl
 have y:¬ dU (val a) (val b)<0:=by unfold dU;rw[if_neg u];split<;>decide
 rw[show sQ (val a) (val b)=szV (val a-val b) by simp[sQ,eI,e,j,u]];simp only[go_sem,y];refine bC .nil aiQ a_ ?_;simp only[go_sem,aaV];have I:=fZ l;have J:=fZ hb;have w:((nl (val a):Nat):Int)≤(a.length:Nat):=Om;have x:((nl (val b):Nat):Int)≤(b.length:Nat):=Om;refine bX (pG a) (L.length a l A) rfl a_ ?_;simp only[go_sem,w,or_true,aUV,kA l];refine bX (pG b) (L.length b hb B) rfl a_ ?_;simp only[go_sem,x,or_true,aUV,kA hb];have E:=aS (val a);have F:=aS (val b);have K:=gT (Om:val b≤val a);have:=apD L (aJ (val a)) (aJ (val b)) (aU _) (aU _) Om (by rw[aY,aY]; omega) (by rw[aY]; omega);rw[E,F] at this;exact this _ rfl rfl
end Go.PM
namespace Go.Na
def eF:Nat→Nat→List Nat
 | 0,_=>[]
 | k+1,n=>(n%4294967296)::eF k (n/4294967296)
theorem mJ:∀ k n,(eF k n).length=k
 | 0,_=>rfl
 | k+1,n=>by simp[eF,mJ k]
theorem HW {xs:List Nat} (h:Lim xs):eF xs.length (val xs)=xs:=by
 induction xs with
 | nil=>rfl
 | cons x xs u =>have w:=h x (by simp);have e:(x+4294967296*val xs)%4294967296=x:=Om;have j:(x+4294967296*val xs)/4294967296=val xs:=Om;simp only[aVA,eF,val];rw[e,j,u fun y l=>h y (by simp[l])]
theorem nH:∀ k n,Lim (eF k n)
 | 0,_=>fun x hx=>by cases hx
 | k+1,n=>fun x hx=>by
  simp only[eF,aTW] at hx;rcases hx with rfl | hx
  ·exact aVF _ (by decide)
  ·exact nH k _ x hx
theorem BP:∀ k n,val (eF k n)=n%4294967296 ^ k
 | 0,n=>by simp[eF,val,Nat.mod_one]
 | k+1,n=>by simp only[eF,val,BP k];rw[aVL,aUL (4294967296 ^ k) 4294967296,Nat.mod_mul]
theorem pM {k n:Nat} (h:n<4294967296 ^ k):val (eF k n)=n:=by rw[BP,aUZ h]
end Go.Na
namespace Go.PM
open Go Go.Na
theorem aLW {a b:Nat} (e:a<18446744073709551616) (hb:b<18446744073709551616):(BitVec.ofInt 64 (a:Int) ||| BitVec.ofInt 64 (b:Int)).toNat=a ||| b:=by
 rw[BitVec.ofInt_natCast,BitVec.ofInt_natCast,BitVec.toNat_or,BitVec.toNat_ofNat,BitVec.toNat_ofNat,aUZ (by simpa using e),aUZ (by simpa using hb)]
theorem Oh {c x s:Nat} (e:c<2 ^ s) (h:c+2 ^ s*x<18446744073709551616):c ||| (2 ^ s*x)=c+2 ^ s*x:=by
 rw[Nat.or_comm,← Nat.two_pow_add_eq_or_of_lt e,Nat.add_comm]
theorem orI {a b n:Nat} (e:a<18446744073709551616) (hb:b<18446744073709551616) (h:a ||| b=n) (j:n<18446744073709551616):mH .or .u64 (a:Int) (b:Int)=some (.int .u64 (n:Int)):=by
 show some (PV.int .u64 (IntKind.u64.wrap (((BitVec.ofInt 64 (a:Int) ||| BitVec.ofInt 64 (b:Int)).toNat:Nat):Int)))=_;rw[aLW e hb,h,bD j]
theorem LT {x s:Nat} (e:s≤64) (h:x*2 ^ s<18446744073709551616):shift .shl .u64 (x:Int) (s:Int)=some (.int .u64 ((2 ^ s*x:Nat):Int)):=by
 unfold shift;rw[if_neg Om];simp only;have:min (Int.toNat (s:Int)) IntKind.u64.bits=s:=by rw[show IntKind.u64.bits=64 from rfl]; omega
 rw[this,show (x:Int)*2 ^ s=((x*2 ^ s:Nat):Int) by simp,bD h,aUL]
def axR (a:List Nat) (s o i c:Nat):PF:=(((((((PF.nil.set 0 (aK a)).set 1 (.int .u64 s)).set 5 (.osl o 1 0 (a.length+1))).set 6 (.int .u64 c)).set 13 (aK a)).set 14 (.int .i64 (a.length:Nat))).set 15 (.int .i64 i))
def upR (a:List Nat) (s:Nat) (r:PV) (H:PH):Prop:=∃ o,r=.osl o 1 0 (a.length+1)∧H=PH.nil.set o (.rows 1 (aL (eF (a.length+1) (val a*2 ^ s))))
theorem aJL {C:Ctx} (a:List Nat) (s:Nat) (ha:Lim a) (hs:s<32) (h1:a.length≤1000):c7.wp C (aR nup.res (upR a s)) (PF.args [aK a,.int .u64 s]) .nil:=by
 have J:IntKind.i64.wrap ((a.length:Int)+1)=((a.length+1:Nat):Int):=dM Om;have W:((a.length+1:Nat):Int)*((4:Nat):Int)≤140737488355328:=Om;have X:((a.length+1:Nat):Int)≤9223372036854775807:=Om;have hz:aTK (a.length+1) [PV.int .u32 0]=aL ([]++aTK (a.length+1) 0):=by simp[aL]
 have R:2 ^ s≤2147483648:=Nat.pow_le_pow_right (show 0<2 by decide) (Om:s≤31);have F:0<2 ^ s:=aWJ (by decide);simp only[go_sem,c7,apE,apF,nup,J,W,X,hz];refine aO fun o ho=>?_;simp only[go_sem,apG,apH];refine wp_loop (α:=List Nat × Nat × Nat) (fun t=>axR a s t.2.2 t.1.length t.2.1) (fun t=>PH.nil.set t.2.2 (.rows 1 (aL (t.1++aTK (a.length+1-t.1.length) 0))))
  (fun t=>t.1.length≤a.length∧Lim t.1∧t.2.1<2 ^ s∧val t.1+4294967296 ^ t.1.length*t.2.1=val (a.take t.1.length)*2 ^ s) (fun t=>a.length-t.1.length) ([],0,o) ⟨by simp,by simp[Lim],F,by simp[val]⟩ ?_ ?_ ?_
 ·unfold axR;exact Lq
 ·exact e_ a_ (by simp only[go_sem,aVR])
 rintro⟨P,c,q⟩ ⟨hP,j,hc,u⟩;simp only at hP j hc u;simp only[go_sem,aaX,apI,axR];by_cases M:P.length<a.length
 ·have w:(P.length:Int)<(a.length:Nat):=Om;have β:=ha _ (aTN M);obtain⟨k,V⟩:∃ k,a.length+1-P.length=k+1:=⟨a.length-P.length,by omega⟩;have B:(aL (P++aTK (k+1) 0))[P.length]?=some [.int .u32 ((0:Nat):Int)]:=by rw[bT _ (by simp)]; simp
  have E:a.length+1-(P.length+1)=k:=Om;have A:(P.length:Int)<((a.length+1:Nat):Int):=Om;have Y:=cM a M;generalize Z:a[P.length]=x at *
  have γ:x*2 ^ s≤4294967295*2147483648:=aWT Om R;have ex:IntKind.u64.wrap ((x:Nat):Int)=((x:Nat):Int):=bD Om;have K:2 ^ s*x=x*2 ^ s:=aUL _ _;have O:shift .shl .u64 (x:Int) (s:Int)=some (.int .u64 ((2 ^ s*x:Nat):Int)):=LT Om Om;have N:=orI (a:=c) (b:=2 ^ s*x) (n:=c+2 ^ s*x) Om Om (Oh hc Om) Om;have I:(c+2 ^ s*x)/4294967296<2 ^ s:=by rw[aWS (by decide)];have:2 ^ s*(x+1)≤2 ^ s*4294967296:=aWC _ Om;rw[aTX,Nat.mul_one] at this;omega
  have l:(aL (P++aTK (k+1) 0)).set P.length [.int .u32 (((c+2 ^ s*x)%4294967296:Nat):Int)]=aL ((P++[(c+2 ^ s*x)%4294967296])++aTK k 0):=by rw[gD,AF]
  have U:(aL a)[P.length]?=some [.int .u32 ((x:Nat):Int)]:=by rw[bT a M,Z]
  simp only[go_sem,w,apJ,apK,U,ex,O,N,apL,cU,V,A,B,l,apM,yZ,apN,dM (Om:P.length<9223372036854775807)];refine aH (P++[(c+2 ^ s*x)%4294967296],(c+2 ^ s*x)/4294967296,q) ⟨by simp; omega,j.app fun y hy=>by simp at hy; subst hy; exact aVF _ (by decide),I,?_⟩ (by simp; omega) ?_ (e_ a_ ?_)
  ·simp only;rw[kF,aTM,aTT,aVL,aUI,aWB,← aTX,Nat.mod_add_div,Y,aTX,aUT,← aWB,u,K,aUI]
  ·simp only;rw[aTM,aTT];exact Lq
  ·simp only;rw[aTM,aTT,E];simp only[go_sem]
 ·have e:P.length=a.length:=Om;have w:¬ (P.length:Int)<(a.length:Nat):=Om;have V:aTK (a.length+1-P.length) 0=[0]:=by rw[show a.length+1-P.length=1 by omega]; rfl
  have B:(aL (P++[0]))[a.length]?=some [.int .u32 ((0:Nat):Int)]:=by rw[bT _ (by simp; omega)];simp[e]
  have l:(aL (P++[0])).set a.length [.int .u32 ((c%4294967296:Nat):Int)]=aL (P++[c]):=by have:=AF P 0 (c%4294967296);simp only[List.replicate_zero,aVC,aUF,List.replicate_one] at this;rw[← e,gD,this,aUZ Om]
  have A:(a.length:Int)<((a.length+1:Nat):Int):=Om;have hV:val (P++[c])=val a*2 ^ s:=by rw[kF,u,e,aUS]
  have S:Lim (P++[c]):=j.app fun x Z=>by simp at Z; omega
  have hD:eF (a.length+1) (val a*2 ^ s)=P++[c]:=by have:=HW S;rw[hV,aTM,aTT,e] at this;exact this
  simp only[go_sem,w,aaY,cU,V,B,A,l,aaZ];exact aV (vs:=[.osl q 1 0 (a.length+1)]) (.inr rfl) (PH.nil.set q (.rows 1 (aL (P++[c])))) Ev (e_ a_ Sq) ⟨q,rfl,by rw[hD]⟩
def ui (a:List Nat) (d o k r:Nat):PF:=(((((PF.nil.set 0 (aK a)).set 1 (.int .u32 d)).set 6 (.osl o 1 0 a.length)).set 7 (.int .u64 r)).set 8 (.int .i64 ((k:Int)-1)))
theorem aoZ {C:Ctx} (L:rT C) (a:List Nat) (d:Nat) (ha:Lim a) (l:0<d) (hd:d<4294967296) (h1:a.length≤1000) :
  EQ.wp C (aR N2.res (aI (.tup [aK (aJ (val a/d)),.int .u32 ((val a%d:Nat):Int)]))) (PF.args [aK a,.int .u32 d]) .nil:=by
 have Y:(a.length:Int)*((4:Nat):Int)≤140737488355328:=Om;have Z:(a.length:Int)≤9223372036854775807:=Om;have hz:aTK a.length [PV.int .u32 0]=aL (aTK a.length 0++[]):=by simp[aL]
 simp only[go_sem,EQ,zn,zo,N2,Y,Z,hz];refine aO fun o ho=>?_;simp only[go_sem,zp,zq];refine wp_loop (α:=Nat × List Nat × Nat × Nat) (fun t=>ui a d t.2.2.2 t.1 t.2.2.1) (fun t=>PH.nil.set t.2.2.2 (.rows 1 (aL (aTK t.1 0++t.2.1))))
  (fun t=>t.1+t.2.1.length=a.length∧Lim t.2.1∧t.2.2.1<d∧val t.2.1*d+t.2.2.1=val (a.drop t.1)) (fun t=>t.1) (a.length,[],0,o) ⟨by simp,by simp[Lim],l,by simp[val]⟩ ?_ ?_ ?_
 ·unfold ui
  (repeat' (first|exact c_|refine d_ ?_ ?_))<;>first|(simp only[go_sem,wrap_i64 (Om:-9223372036854775808≤(a.length:Int)-1) (Om:(a.length:Int)-1≤9223372036854775807)]<;>rfl)|rfl
 ·exact e_ a_ Sq
 rintro⟨k,S,r,q⟩ ⟨hk,e,M,j⟩;simp only at hk e M j;simp only[go_sem,zm,zr,ui];by_cases h0:0<k
 ·obtain⟨m,rfl⟩:∃ m,k=m+1:=⟨k-1,by omega⟩;have A:((m+1:Nat):Int)-1=(m:Int):=Om;have W:(m:Int)≥0:=Om;have w:m<a.length:=Om;have hlt:(m:Int)<(a.length:Nat):=Om;have γ:=ha _ (aTN w);have u:val (a.drop m)=a[m]+4294967296*val (a.drop (m+1)):=by rw[aVV w]; rfl
  generalize hx:a[m]=x at *
  have O:(aL a)[m]?=some [.int .u32 ((x:Nat):Int)]:=by rw[bT a w,hx]
  have ex:IntKind.u64.wrap ((x:Nat):Int)=((x:Nat):Int):=bD Om;have ed:IntKind.u64.wrap ((d:Nat):Int)=((d:Nat):Int):=bD Om;have I:shift .shl .u64 (r:Int) 32=some (.int .u64 ((2 ^ 32*r:Nat):Int)):=LT (s:=32) Om Om;have N:(2:Nat) ^ 32=4294967296:=by decide
  have B:=orI (a:=2 ^ 32*r) (b:=x) (n:=2 ^ 32*r+x) Om Om (Nat.two_pow_add_eq_or_of_lt Om r).symm Om;rw[N] at I B;have hq:(4294967296*r+x)/d<4294967296:=by rw[aWS l];have:4294967296*(r+1)≤4294967296*d:=aWC _ M;omega
  have R:¬ ((d:Nat):Int)=0:=Om;have E:IntKind.u64.wrap (Int.tdiv ((4294967296*r+x:Nat):Int) ((d:Nat):Int))=(((4294967296*r+x)/d:Nat):Int):=by rw[show Int.tdiv ((4294967296*r+x:Nat):Int) ((d:Nat):Int)=(((4294967296*r+x)/d:Nat):Int) from rfl];exact bD Om
  have F:Int.tmod ((4294967296*r+x:Nat):Int) ((d:Nat):Int)=(((4294967296*r+x)%d:Nat):Int):=rfl;have ec:IntKind.u32.wrap (((4294967296*r+x)/d:Nat):Int)=(((4294967296*r+x)/d:Nat):Int):=by rw[cU,aUZ hq]
  have J:aTK (m+1) 0++S=aTK m 0++(0::S):=by rw[List.replicate_succ',aUP]; rfl
  have X:(aL (aTK m 0++(0::S)))[m]?=some [.int .u32 ((0:Nat):Int)]:=by rw[bT _ (by simp)]; simp
  have K:(aL (aTK m 0++(0::S))).set m [.int .u32 (((4294967296*r+x)/d:Nat):Int)]=aL (aTK m 0++(((4294967296*r+x)/d)::S)):=by rw[gD,aWZ _ _ (by simp)]; simp
  simp only[go_sem,A,W,zt,I,O,ex,B,zu,ed,R,E,ec,hlt,J,X,K,zw,F,zx];refine aH (m,((4294967296*r+x)/d)::S,(4294967296*r+x)%d,q) ⟨by simp only[aVA]; omega,fun y hy=>?_,aVF _ l,?_⟩ (by simp only; omega) ?_ (e_ a_ Sq)
  ·rw[aTW] at hy;rcases hy with rfl | hy
   ·exact hq
   ·exact e y hy
  ·simp only[val];rw[u,← j,aUT,aTX,aUI];have:=aXA (4294967296*r+x) d;rw[aUL d] at this;omega
  ·(repeat' (first|exact c_|refine d_ ?_ ?_))<;>first|(simp only[go_sem,wrap_i64 (Om:-9223372036854775808≤(m:Int)-1) (Om:(m:Int)-1≤9223372036854775807)]<;>rfl)|rfl
 ·have:k=0:=Om;subst this;have A:¬ ((0:Nat):Int)-1≥0:=by decide
  rw[aUV] at j;have hS:S.length=a.length:=Om;have hq:val S=val a/d:=by rw[← j,aUL,Nat.mul_add_div l,aWQ M,aVB]
  have β:r=val a%d:=by rw[← j,aUL,Nat.mul_add_mod,aUZ M]
  have δ:aTK 0 0++S=S:=by simp
  simp only[go_sem,A,mf,aWP];have hl:=L.length S e Om;have ε:=fZ e;have hc:((nl (val S):Nat):Int)≤(S.length:Nat):=Om;refine rH (o:=q) (s:=1) (k:=a.length) (rs:=aL S) (v:=.int .i64 (nl (val S):Nat)) ?_ Sq Sq (by rw[cF]; omega) ?_
  ·rw[aUB (by rw[cF]; omega)]; exact hl
  ·have V:PV.frz q 1 (aL S) (.osl q 1 0 a.length)=aK S:=by
    have:0+a.length≤(aL S).length:=by rw[cF]; omega
    simp only[PV.frz,PV.qC,PV.cH,if_true,true_and,if_pos this,aUV];rw[aUB (by rw[cF]; omega)]
   have U:∀ n:Int,∀ k,PV.frz q 1 (aL S) (.int k n)=.int k n:=fun _ _=>rfl;have er:IntKind.u32.wrap ((r:Nat):Int)=((r:Nat):Int):=by rw[cU,aUZ Om]
   simp only[go_sem,V,U,hc,or_true,aUV,kA e,er];refine aV (vs:=[aK (aJ (val S)),.int .u32 ((r:Nat):Int)]) (.inr rfl) .nil Ev a_ ⟨?_,rfl⟩;simp only[bQ,← hq,← β]
end Go.PM
namespace Go.Na
theorem HH {L:List Nat} {i:Nat} (h:i<L.length) (v:Nat):val (L.set i v)+4294967296 ^ i*L[i]=val L+4294967296 ^ i*v:=by
 have e:i<(L.set i v).length:=by rw[aVJ]; exact h
 rw[tF L h,tF (L.set i v) e,List.getElem_set_self,List.take_set_of_le (aTO _),List.drop_set_of_lt Om,aTX,aTX];omega
theorem pq {L:List Nat} {i:Nat} (h:∀ (j x:Nat),i≤j→L[j]?=some x→x=0) (k v:Nat) (u:k<i):∀ (j x:Nat),i≤j→(L.set k v)[j]?=some x→x=0:=fun j x l e=>by
 rw[List.getElem?_set_ne Om] at e;exact h j x l e
end Go.Na
namespace Go.PM
open Go Go.Na
def lY (a b:List Nat) (o i:Nat):PF:=((((((PF.nil.set 0 (aK a)).set 1 (aK b)).set 6 (.osl o 1 0 (a.length+b.length))).set 32 (aK a)).set 33 (.int .i64 (a.length:Nat))).set 34 (.int .i64 i))
def ajH (a b:List Nat) (o i x c j:Nat):PF:=((((((((((((PF.nil.set 0 (aK a)).set 1 (aK b)).set 6 (.osl o 1 0 (a.length+b.length))).set 32 (aK a)).set 33 (.int .i64 (a.length:Nat))).set 34 (.int .i64 i)).set 7 (.int .i64 i)).set 8 (.int .u32 x)).set 9 (.int .u64 c)).set 39 (aK b)).set 40 (.int .i64 (b.length:Nat))).set 41 (.int .i64 j))
structure GG (a b L:List Nat) (i:Nat):Prop where
 len:L.length=a.length+b.length
 lim:Lim L
 v:val L=val (a.take i)*val b
 z:∀ j x,i+b.length≤j→L[j]?=some x→x=0
theorem Zj {x y:Nat} (e:x<4294967296) (j:y<4294967296):IntKind.u64.wrap ((x:Int)*(y:Int))=((x*y:Nat):Int):=by
 have:x*y≤4294967295*4294967295:=aWT Om Om;rw[show (x:Int)*(y:Int)=((x*y:Nat):Int) by simp];exact bD Om
theorem iD {a b:Nat} (h:a+b≤9223372036854775807):IntKind.i64.wrap ((a:Int)+(b:Int))=((a+b:Nat):Int):=by
 rw[wrap_i64 Om Om]; omega
theorem axN {C:Ctx} (a b:List Nat) (ha:Lim a) (hb:Lim b) (h1:a.length≤1000) (h2:b.length≤1000) (L:List Nat) (i:Nat) (hi:i<a.length) (O:GG a b L i) (q:Nat) (K:cE) (F:PF) (H:PH) (N:(lY a b q i).le F) (hH:H q=some (.rows 1 (aL L)))
  (hK:∀ L' F' H',GG a b L' (i+1)→(lY a b q i).le F'→H' q=some (.rows 1 (aL L'))→K .normal F' H') :
  aC.wp C (.block 1 (.seq (.region ue) (.seq (.region ug) (.seq (.seq (.region uh) (.block 2 (.loop ci))) (.region ck))))) K F H:=by
 have f0:=N 0 _ (by unfold lY; simp only[go_sem]; rfl);have f1:=N 1 _ (by unfold lY; simp only[go_sem]; rfl);have f6:=N 6 _ (by unfold lY; simp only[go_sem]; rfl);have V:=N 32 _ (by unfold lY; simp only[go_sem]; rfl);have θ:=N 33 _ (by unfold lY; simp only[go_sem]; rfl);have W:=N 34 _ (by unfold lY; simp only[go_sem]; rfl);have hx:=ha _ (aTN hi);have γ:=cM a hi;generalize ε:a[i]=x at *
 have Z:(aL a)[i]?=some [.int .u32 ((x:Nat):Int)]:=by rw[bT a hi,ε]
 simp only[go_sem,ue,ug,uh,V,W,f1,Z];refine wp_loop (α:=List Nat × Nat × Nat) (fun t=>ajH a b q i x t.2.1 t.2.2) (fun t=>PH.nil.set q (.rows 1 (aL t.1)))
  (fun t=>t.2.2≤b.length∧t.1.length=a.length+b.length∧Lim t.1∧t.2.1<4294967296∧val t.1+4294967296 ^ (i+t.2.2)*t.2.1=val (a.take i)*val b+4294967296 ^ i*(x*val (b.take t.2.2))∧∀ j y,i+b.length≤j→t.1[j]?=some y→y=0) (fun t=>b.length-t.2.2) (L,0,0)
  ⟨by simp,O.len,O.lim,by simp,by simp[val,O.v],O.z⟩ ?_ (e_ a_ hH) ?_
 ·unfold ajH;exact Lq
 rintro⟨M,c,j⟩ ⟨hj,Y,l,hc,A,S⟩;simp only at hj Y l hc A S;simp only[go_sem,ci,Nt,ajH];by_cases U:j<b.length
 ·have B:(j:Int)<(b.length:Nat):=Om;have R:=hb _ (aTN U);have δ:=cM b U;generalize ζ:b[j]=y at *
  have β:(aL b)[j]?=some [.int .u32 ((y:Nat):Int)]:=by rw[bT b U,ζ]
  have e:i+j<M.length:=Om;have J:=l _ (aTN e);have w:=HH e;generalize η:M[i+j]=z at *
  have I:(aL M)[i+j]?=some [.int .u32 ((z:Nat):Int)]:=by rw[bT M e,η]
  have ex:IntKind.u64.wrap ((x:Nat):Int)=((x:Nat):Int):=bD Om;have ey:IntKind.u64.wrap ((y:Nat):Int)=((y:Nat):Int):=bD Om;have ez:IntKind.u64.wrap ((z:Nat):Int)=((z:Nat):Int):=bD Om;have em:=Zj hx R;have κ:x*y≤4294967295*4294967295:=aWT Om Om;have e1:IntKind.u64.wrap (((x*y:Nat):Int)+(z:Int))=((x*y+z:Nat):Int):=fQ Om;have e2:IntKind.u64.wrap ((c:Int)+((x*y+z:Nat):Int))=((c+(x*y+z):Nat):Int):=fQ Om;have E:IntKind.i64.wrap ((i:Int)+(j:Int))=((i+j:Nat):Int):=iD Om;have hlt:((i+j:Nat):Int)<((a.length+b.length:Nat):Int):=Om;generalize ht:c+(x*y+z)=t at *
  have ι:t<4294967296*4294967296:=Om;have u:(aL M).set (i+j) [.int .u32 ((t%4294967296:Nat):Int)]=aL (M.set (i+j) (t%4294967296)):=gD M (i+j) _;simp only[go_sem,B,Nu,β,Nv,ex,ey,em,E,hlt,I,ez,e1,e2,Nw,cU,u,Nx,yZ,Ny,wZz j];refine aH (M.set (i+j) (t%4294967296),t/4294967296,j+1) ⟨by simp only; omega,by simp only[aVJ]; exact Y,l.set _ (aVF _ (by decide)),by simp only; omega,?_,pq S _ _ Om⟩ (by simp only; omega) ?_ (e_ a_ Sq)
  ·simp only;have X:=w (t%4294967296);have h4:4294967296 ^ (i+(j+1))*(t/4294967296)+4294967296 ^ (i+j)*(t%4294967296)=4294967296 ^ (i+j)*t:=by rw[← aWB,aVL,aUI,← aTX,aXA]
   have h5:4294967296 ^ (i+j)*t=4294967296 ^ (i+j)*c+(4294967296 ^ (i+j)*(x*y)+4294967296 ^ (i+j)*z):=by rw[← ht,aTX,aTX]
   have h6:4294967296 ^ i*(x*val (b.take (j+1)))=4294967296 ^ i*(x*val (b.take j))+4294967296 ^ (i+j)*(x*y):=by rw[δ,aTX,aTX,Nat.pow_add];congr 1;rw[Nat.mul_left_comm x,aUI]
   omega
  ·exact Lq
 ·have he:j=b.length:=Om;have B:¬ (j:Int)<(b.length:Nat):=Om;subst he;have e:i+b.length<M.length:=Om;have J:M[i+b.length]=0:=S _ _ (aTO _) (aTP e);have w:=HH e;have I:(aL M)[i+b.length]?=some [.int .u32 ((0:Nat):Int)]:=by rw[bT M e,J]
  have E:IntKind.i64.wrap ((i:Int)+(b.length:Int))=((i+b.length:Nat):Int):=iD Om;have hlt:((i+b.length:Nat):Int)<((a.length+b.length:Nat):Int):=Om;have u:(aL M).set (i+b.length) [.int .u32 ((c%4294967296:Nat):Int)]=aL (M.set (i+b.length) c):=by rw[aUZ hc]; exact gD M _ _
  simp only[go_sem,B,ck,E,cU,hlt,I,u];refine hK (M.set (i+b.length) c) _ _ ⟨by rw[aVJ]; exact Y,l.set _ hc,?_,fun j y hj R=>?_⟩ (by unfold lY; exact Lq) Sq
  ·have X:=w c;rw[J,Nat.mul_zero,aVB] at X;rw[X,A,aUS,γ,aUT,aUI]
  ·rw[List.getElem?_set_ne Om] at R;exact S j y Om R
theorem aoY {C:Ctx} (L:rT C) (a b:List Nat) (W:Lim a) (hb:Lim b) (U:a.length≤1000) (V:b.length≤1000) (F:PF) (f0:F 0=some (aK a)) (f1:F 1=some (aK b)) :
  aC.wp C (.seq (.region uc) (.seq (.seq (.region ud) (.block 0 (.loop cj))) (.seq (.region cl) .ret))) (aR [.tmp 4,.tmp 5] (cB (szV (val a*val b)))) F .nil:=by
 have w:IntKind.i64.wrap ((a.length:Int)+(b.length:Int))=((a.length+b.length:Nat):Int):=iD Om;have I:((a.length+b.length:Nat):Int)*((4:Nat):Int)≤140737488355328:=Om;have J:((a.length+b.length:Nat):Int)≤9223372036854775807:=Om;have X:aTK (a.length+b.length) [PV.int .u32 0]=aL (aTK (a.length+b.length) 0):=by simp[aL]
 simp only[go_sem,uc,f0,f1,w,I,J,X];refine aO fun o ho=>?_;simp only[go_sem,ud,f0];refine wp_loop (α:=List Nat × Nat) (fun t=>lY a b o t.2) (fun t=>PH.nil.set o (.rows 1 (aL t.1))) (fun t=>t.2≤a.length∧GG a b t.1 t.2) (fun t=>a.length-t.2) (aTK (a.length+b.length) 0,0)
  ⟨by simp,by simp,xG _,by simp[val,tH],fun j x _ N=>by rw[List.getElem?_replicate] at N; split at N<;>simp_all⟩ ?_ (e_ a_ Sq) ?_
 ·unfold lY;exact Lq
 rintro⟨M,i⟩ ⟨hi,l⟩;simp only at hi l;simp only[go_sem,cj,aaQ,lY];by_cases O:i<a.length
 ·have u:(i:Int)<(a.length:Nat):=Om;have y:=axN (C:=C) a b W hb U V M i O l o;simp only[go_sem] at y;simp only[go_sem,u];refine y _ _ _ (by unfold lY; exact Lq) Sq ?_;intro L' Y H' E e B;have A:=e 34 _ (by unfold lY; simp only[go_sem]; rfl);have g0:=e 0 _ (by unfold lY; simp only[go_sem]; rfl);have g1:=e 1 _ (by unfold lY; simp only[go_sem]; rfl);have Z:=e 6 _ (by unfold lY; simp only[go_sem]; rfl);have R:=e 32 _ (by unfold lY; simp only[go_sem]; rfl);have S:=e 33 _ (by unfold lY; simp only[go_sem]; rfl);simp only[go_sem,Nz,A,wZz i];refine aH (L',i+1) ⟨by simp only; omega,E⟩ (by simp only; omega) ?_ (e_ a_ B);exact Lq
 ·have he:i=a.length:=Om;subst he;have u:¬ (a.length:Int)<(a.length:Nat):=Om;have hV:val M=val a*val b:=by rw[l.v,aUS]
  simp only[go_sem,cl];have K:=L.sized _ l.lim (by rw[l.len]; omega);rw[hV] at K;refine rH (o:=o) (s:=1) (k:=a.length+b.length) (rs:=aL M) (v:=szV (val a*val b)) ?_ rfl Sq (by rw[cF,l.len]; exact aTO _) ?_
  ·rw[aUB (by rw[cF,l.len]; exact aTO _)]; exact K
  ·simp only[go_sem,szV];exact aV (.inr rfl) .nil rfl a_ ⟨.refl _,rfl⟩
theorem aFT {C:Ctx} (L:rT C) (a b:List Nat) (u:Lim a) (hb:Lim b) (y:a.length≤35184372087808) (A:b.length≤35184372087808) :
  RE.wp C (aR axM.res (cB (opV (eI (val a) (val b)) (val a*val b)))) (PF.args [aK a,aK b]) .nil:=by
 simp only[go_sem,RE,aaN,aaO,axM];refine aA (L.large a u y) rfl ?_;by_cases j:nl (val a)>512
 ·simp only[go_sem,j,t8];rw[show opV (eI (val a) (val b)) (val a*val b)=.tup [aK [],.int .i64 2] by simp[opV,eI,j]];exact fF rfl
 simp only[go_sem,j];refine aA (L.large b hb A) rfl ?_;by_cases l:nl (val b)>512
 ·simp only[go_sem,l,t8];rw[show opV (eI (val a) (val b)) (val a*val b)=.tup [aK [],.int .i64 2] by simp[opV,eI,l]];exact fF rfl
 have e:opV (eI (val a) (val b)) (val a*val b)=szV (val a*val b):=by simp[opV,eI,j,l]
 rw[e];simp only[go_sem,l];refine bC .nil aiQ a_ ?_;simp only[go_sem,aaP];have I:=fZ u;have J:=fZ hb;have w:((nl (val a):Nat):Int)≤(a.length:Nat):=Om;have x:((nl (val b):Nat):Int)≤(b.length:Nat):=Om;refine bX (pG a) (L.length a u y) rfl a_ ?_;simp only[go_sem,w,or_true,aUV,kA u];refine bX (pG b) (L.length b hb A) rfl a_ ?_;simp only[go_sem,x,or_true,aUV,kA hb];have B:=aS (val a);have E:=aS (val b);have:=aoY L (aJ (val a)) (aJ (val b)) (aU _) (aU _) (by rw[aY]; omega) (by rw[aY]; omega);rw[B,E] at this;have:=fun F f0 f1=>this F f0 f1;simp only[go_sem] at this;exact this _ rfl rfl
open Go Go.Na
theorem mp {A P W Z:List Nat} {i:Nat} (j:P.length=i) (hi:i<W.length):(aL (A++(P++W.drop i)++Z))[A.length+i]?=some [.int .u32 ((W[i]:Nat):Int)]:=by
 have e:A.length+i<(A++(P++W.drop i)++Z).length:=by simp; omega
 rw[bT _ e];congr 4;rw[List.getElem_append_left (by simp; omega),List.getElem_append_right Om,List.getElem_append_right Om,List.getElem_drop];congr 1;omega
theorem HF {A P W Z:List Nat} {i:Nat} (e:P.length=i) (hi:i<W.length) (v:Nat):(aL (A++(P++W.drop i)++Z)).set (A.length+i) [.int .u32 (v:Int)]=aL (A++((P++[v])++W.drop (i+1))++Z):=by
 rw[gD];congr 1;rw[List.set_append_left _ _ (by simp; omega),aWZ _ _ Om,aWZ _ _ Om,aVV hi];rw[show A.length+i-A.length-P.length=0 by omega,List.set_cons_zero];simp
theorem atA {t:Nat} (h:t<18446744073709551616):mH .and .u64 (t:Int) 4294967295=some (.int .u64 ((t%4294967296:Nat):Int)):=by
 show some (PV.int .u64 (IntKind.u64.wrap (((BitVec.ofInt 64 (t:Int) &&& BitVec.ofInt 64 (4294967295:Int)).toNat:Nat):Int)))=_;have e:BitVec.ofInt 64 (4294967295:Int)=BitVec.ofNat 64 4294967295:=by rfl
 rw[e,BitVec.ofInt_natCast,BitVec.toNat_and,BitVec.toNat_ofNat,BitVec.toNat_ofNat,aUZ (by simpa using h)];have j:(4294967295:Nat)%2 ^ 64=2 ^ 32-1:=by decide
 rw[j,Nat.and_two_pow_sub_one_eq_mod];rw[bD (Nat.lt_of_lt_of_le (aVF _ (by decide)) (by decide))]
theorem atF {c f x:Nat} (j:c<4294967296) (e:f≤4294967296) (l:x<4294967296):c+f*x<18446744073709551616∧(c+f*x)/4294967296<4294967296∧f*x≤4294967296*4294967295:=by
 have:f*x≤4294967296*4294967295:=aWT e Om;refine⟨by omega,?_,this⟩;omega
def N8 (v:List Nat) (j o i c b:Nat) (f:Nat):PF:=((((((((PF.nil.set 0 (.osl o 1 j (v.length+1))).set 1 (aK v)).set 2 (.int .u64 f)).set 7 (.int .u64 c)).set 8 (.int .u64 b)).set 13 (aK v)).set 14 (.int .i64 (v.length:Nat))).set 15 (.int .i64 i))
def LY (n w m:Nat):Nat:=if w<m then w+4294967296 ^ n-m else w-m
theorem N9 {C:Ctx} (A W Z v:List Nat) (f:Nat) (hW:Lim W) (hv:Lim v) (hl:W.length=v.length+1) (h1:A.length+v.length≤100000) (hf:f≤4294967296) (ν:val v*f≤val W+4294967296 ^ (v.length+1)) (o:Nat) :
  vS.wp C (aR RJ.res (fun r H'=>r=.bool (decide (val W<val v*f))∧H'=PH.nil.set o (.rows 1 (aL (A++eF (v.length+1) (LY (v.length+1) (val W) (val v*f))++Z)))))
   (PF.args [.osl o 1 A.length (v.length+1),aK v,.int .u64 f]) (PH.nil.set o (.rows 1 (aL (A++W++Z)))):=by
 simp only[go_sem,vS,RK,RL,RM,RJ];refine wp_loop (α:=List Nat × Nat × Nat) (fun t=>N8 v A.length o t.1.length t.2.1 t.2.2 f) (fun t=>PH.nil.set o (.rows 1 (aL (A++(t.1++W.drop t.1.length)++Z))))
  (fun t=>t.1.length≤v.length∧Lim t.1∧t.2.1<4294967296∧t.2.2≤1∧val (W.take t.1.length)+4294967296 ^ t.1.length*t.2.2+4294967296 ^ t.1.length*t.2.1=val t.1+val (v.take t.1.length)*f) (fun t=>v.length-t.1.length) ([],0,0)
  ⟨by simp,by simp[Lim],by simp,by simp,by simp[val]⟩ ?_ (e_ a_ (by simp only[go_sem,aVR,aUV,aWP])) ?_
 ·unfold N8;exact Lq
 rintro⟨P,c,b⟩ ⟨hP,j,hc,hb,w⟩;simp only at hP j hc hb w;simp only[go_sem,OL,RN,N8];by_cases c1:P.length<v.length
 ·have I:(P.length:Int)<(v.length:Nat):=Om;have E:P.length<W.length:=Om;have J:(P.length:Int)<((v.length+1:Nat):Int):=Om;have hx:=hv _ (aTN c1);have hw:=hW _ (aTN E);have η:=cM v c1;have F:=cM W E;have M:=mp (A:=A) (Z:=Z) (P:=P) rfl E;have u:=HF (A:=A) (Z:=Z) (P:=P) rfl E;generalize μ:v[P.length]=x at *
  generalize κ:W[P.length]=y at *
  have ι:(aL v)[P.length]?=some [.int .u32 ((x:Nat):Int)]:=by rw[bT v c1,μ]
  obtain⟨k1,k2,k3⟩:=atF hc hf hx;have ex:IntKind.u64.wrap ((x:Nat):Int)=((x:Nat):Int):=bD Om;have ey:IntKind.u64.wrap ((y:Nat):Int)=((y:Nat):Int):=bD Om;have em:IntKind.u64.wrap ((f:Int)*(x:Int))=((f*x:Nat):Int):=by rw[show (f:Int)*(x:Int)=((f*x:Nat):Int) by simp];exact bD Om
  have l:c+f*x<18446744073709551616:=k1;have ea:IntKind.u64.wrap ((c:Int)+((f*x:Nat):Int))=((c+f*x:Nat):Int):=fQ l;have S:=atA l;have θ:val (v.take (P.length+1))*f=val (v.take P.length)*f+4294967296 ^ P.length*(f*x):=by rw[η,aUT,aUI,aUL x f]
  generalize f*x=B at *
  have V:(c+B)%4294967296<4294967296:=aVF _ (by decide);obtain⟨s1,s2,s3,s4⟩:=Qf (a:=y) (bor:=b) (b:=(c+B)%4294967296) hw V hb (IntKind.u64.wrap (IntKind.u64.wrap ((y:Int)-(((c+B)%4294967296:Nat):Int))-(b:Int))) (by rw[gU,gU]; omega);generalize hd:SQ y b ((c+B)%4294967296)=d at *
  generalize δ:fe y b ((c+B)%4294967296)=Y at *
  have γ:Y≤1:=by rw[← δ]; unfold fe; split<;>omega
  have hs:=u d;simp only[go_sem,I,RO,ι,RP,ex,em,ea,RQ,J,M,ey,S,RR,s1,hs,RT,ajZ,s2,RU,yZ,OM,dM (Om:P.length<9223372036854775807)];refine aH (P++[d],(c+B)/4294967296,Y) ⟨by simp; omega,j.app fun z hz=>by simp at hz; omega,k2,γ,?_⟩ (by simp; omega) ?_ (e_ a_ ?_)
  ·simp only;rw[aTM,aTT,kF,F,θ,aVL,aUI,aUI];have h4:4294967296 ^ P.length*y+4294967296 ^ P.length*(4294967296*Y)=4294967296 ^ P.length*d+4294967296 ^ P.length*((c+B)%4294967296)+4294967296 ^ P.length*b:=by rw[← aTX,s3,aTX,aTX]
   have h5:4294967296 ^ P.length*(4294967296*((c+B)/4294967296))+4294967296 ^ P.length*((c+B)%4294967296)=4294967296 ^ P.length*c+4294967296 ^ P.length*B:=by rw[← aTX,aXA,aTX]
   omega
  ·simp only;rw[aTM,aTT];exact Lq
  ·simp only;rw[aTM,aTT];simp only[go_sem]
 ·have e:P.length=v.length:=Om;have I:¬ (P.length:Int)<(v.length:Nat):=Om;have E:v.length<W.length:=Om;have J:(v.length:Int)<((v.length+1:Nat):Int):=Om;have hw:=hW _ (aTN E);have F:=cM W E;have M:=mp (A:=A) (Z:=Z) (P:=P) e E;have u:=HF (A:=A) (Z:=Z) (P:=P) e E;have K:val (W.take (v.length+1))=val W:=by rw[aUB Om]
  generalize κ:W[v.length]=y at *
  have ey:IntKind.u64.wrap ((y:Nat):Int)=((y:Nat):Int):=bD Om;have β:=fP j;rw[e] at w β;rw[aUS] at w;rw[K] at F;have X:4294967296 ^ (v.length+1)=4294967296 ^ v.length*4294967296:=aVL _ _;have ο:val W+4294967296 ^ v.length*(b+c)=val P+val v*f+4294967296 ^ v.length*y:=by rw[F,aTX]; omega
  have ξ:b+c≤y+4294967296:=by
   rcases aUE (y+4294967296) (b+c) with h | h
   ·exfalso;have:4294967296 ^ v.length*(y+4294967296+1)≤4294967296 ^ v.length*(b+c):=aWC _ h;rw[aTX,aTX,Nat.mul_one] at this;omega
   ·exact h
  have O:∃ d k:Nat,d<4294967296∧k≤1∧y+4294967296*k=d+(b+c)∧IntKind.u32.wrap (IntKind.u64.wrap (IntKind.u64.wrap ((y:Int)-(c:Int))-(b:Int)))=(d:Int)∧((IntKind.u64.wrap (IntKind.u64.wrap ((y:Int)-(c:Int))-(b:Int))/9223372036854775808==1)=decide (k=1)):=by
   rw[XS,gU,gU];by_cases h:y<b+c
   ·refine⟨y+4294967296-(b+c),1,by omega,by omega,by omega,by omega,?_⟩;simp only[decide_true];exact bP Om
   ·refine⟨y-(b+c),0,by omega,by omega,by omega,by omega,?_⟩;exact bE Om
  obtain⟨d,k,hd,hk,hy,w1,w2⟩:=O;have hs:=u d;have hN:val (P++[d])+val v*f=val W+4294967296 ^ (v.length+1)*k:=by
   have:4294967296 ^ v.length*y+4294967296 ^ v.length*(4294967296*k)=4294967296 ^ v.length*d+4294967296 ^ v.length*(b+c):=by rw[← aTX,hy,aTX]
   rw[kF,e,X,aUI];omega
  have U:Lim (P++[d]):=j.app fun z hz=>by simp at hz; omega
  have ε:=fP U;rw[aTM,aTT,e] at ε;have N:decide (k=1)=decide (val W<val v*f):=by
   congr 1;apply propext;constructor
   ·intro h; subst h; omega
   ·intro h;rcases aVP k with h0 | h0
    ·subst h0; omega
    ·omega
  have R:LY (v.length+1) (val W) (val v*f)=val (P++[d]):=by
   unfold LY;split
   ·rename_i h;have:k=1:=by simpa [h] using N
    subst this; omega
   ·rename_i h;have:k=0:=by
     have:¬ k=1:=by simpa [h] using N
     omega
    subst this; omega
  have hD:eF (v.length+1) (LY (v.length+1) (val W) (val v*f))=P++[d]:=by have:=HW U;rw[aTM,aTT,e] at this;rw[R,this]
  have ζ:W.drop (v.length+1)=[]:=aXE Om;simp only[go_sem,I,ON,e,J,M,ey,OO,w1,hs,OP,ajZ,w2,N];refine aV (vs:=[.bool (decide (val W<val v*f))]) (.inr rfl) (PH.nil.set o (.rows 1 (aL (A++(P++[d]++W.drop (v.length+1))++Z)))) rfl (e_ a_ Sq) ⟨rfl,?_⟩;rw[hD,ζ,aVC]
end Go.PM
namespace Go.Na
theorem Yh {xs e:List Nat} (u:Lim xs) (w:Lim e) (j:xs.length=e.length) (l:val xs=val e):xs=e:=by
 rw[← HW u,← HW w,j,l]
theorem aCN {k n:Nat} {xs:List Nat} (l:Lim xs) (e:xs.length=k) (j:val xs=n%4294967296 ^ k):eF k n=xs :=
 Yh (nH k n) l (by rw[mJ,e]) (by rw[BP,j])
end Go.Na
namespace Go.PM
open Go Go.Na
def N1 (v:List Nat) (j o i c:Nat):PF:=((((((PF.nil.set 0 (.osl o 1 j (v.length+1))).set 1 (aK v)).set 4 (.int .u64 c)).set 7 (aK v)).set 8 (.int .i64 (v.length:Nat))).set 9 (.int .i64 i))
theorem Ul {C:Ctx} (A W Z v:List Nat) (hW:Lim W) (hv:Lim v) (hl:W.length=v.length+1) (h1:A.length+v.length≤100000) (o:Nat) :
  xU.wp C (aR cq.res (fun r H'=>r=.tup []∧H'=PH.nil.set o (.rows 1 (aL (A++eF (v.length+1) (val W+val v)++Z)))))
   (PF.args [.osl o 1 A.length (v.length+1),aK v]) (PH.nil.set o (.rows 1 (aL (A++W++Z)))):=by
 simp only[go_sem,xU,WI,WJ,cq];refine wp_loop (α:=List Nat × Nat) (fun t=>N1 v A.length o t.1.length t.2) (fun t=>PH.nil.set o (.rows 1 (aL (A++(t.1++W.drop t.1.length)++Z))))
  (fun t=>t.1.length≤v.length∧Lim t.1∧t.2≤1∧val (W.take t.1.length)+val (v.take t.1.length)=val t.1+4294967296 ^ t.1.length*t.2) (fun t=>v.length-t.1.length) ([],0)
  ⟨by simp,by simp[Lim],by simp,by simp[val]⟩ ?_ (e_ a_ (by simp only[go_sem,aVR,aUV,aWP])) ?_
 ·unfold N1;exact Lq
 rintro⟨P,c⟩ ⟨hP,j,hc,u⟩;simp only at hP j hc u;simp only[go_sem,WH,WK,N1];by_cases O:P.length<v.length
 ·have B:(P.length:Int)<(v.length:Nat):=Om;have w:P.length<W.length:=Om;have E:(P.length:Int)<((v.length+1:Nat):Int):=Om;have hx:=hv _ (aTN O);have hw:=hW _ (aTN w);have X:=cM v O;have J:=cM W w;have I:=mp (A:=A) (Z:=Z) (P:=P) rfl w;have l:=HF (A:=A) (Z:=Z) (P:=P) rfl w;generalize γ:v[P.length]=x at *
  generalize β:W[P.length]=y at *
  have Y:(aL v)[P.length]?=some [.int .u32 ((x:Nat):Int)]:=by rw[bT v O,γ]
  have ex:IntKind.u64.wrap ((x:Nat):Int)=((x:Nat):Int):=bD Om;have R:IntKind.u64.wrap ((y:Nat):Int)=((y:Nat):Int):=bD Om;have e1:IntKind.u64.wrap ((y:Int)+(x:Int))=((y+x:Nat):Int):=fQ Om;have e2:IntKind.u64.wrap ((c:Int)+((y+x:Nat):Int))=((c+(y+x):Nat):Int):=fQ Om;have V:=l ((c+(y+x))%4294967296);simp only[go_sem,B,WL,Y,WM,E,I,ex,R,e1,e2,WN,cU,V,WP,yZ,WQ,dM (Om:P.length<9223372036854775807)];refine aH (P++[(c+(y+x))%4294967296],(c+(y+x))/4294967296) ⟨by simp; omega,j.app fun z N=>by simp at N; subst N; exact aVF _ (by decide),by simp only; omega,?_⟩ (by simp; omega) ?_ (e_ a_ ?_)
  ·simp only;rw[aTM,aTT,kF,J,X,aVL,aUI];have h5:4294967296 ^ P.length*(4294967296*((c+(y+x))/4294967296))+4294967296 ^ P.length*((c+(y+x))%4294967296)=4294967296 ^ P.length*c+(4294967296 ^ P.length*y+4294967296 ^ P.length*x):=by rw[← aTX,aXA,aTX,aTX]
   omega
  ·simp only;rw[aTM,aTT];exact Lq
  ·simp only;rw[aTM,aTT];simp only[go_sem]
 ·have e:P.length=v.length:=Om;have B:¬ (P.length:Int)<(v.length:Nat):=Om;have w:v.length<W.length:=Om;have E:(v.length:Int)<((v.length+1:Nat):Int):=Om;have hw:=hW _ (aTN w);have J:=cM W w;have I:=mp (A:=A) (Z:=Z) (P:=P) e w;have l:=HF (A:=A) (Z:=Z) (P:=P) e w;have F:val (W.take (v.length+1))=val W:=by rw[aUB Om]
  generalize β:W[v.length]=y at *
  have S:=fP j;rw[e] at u S;rw[aUS] at u;rw[F] at J;have ec:IntKind.u32.wrap ((c:Nat):Int)=((c:Nat):Int):=by rw[cU,aUZ Om]
  have R:IntKind.u32.wrap ((y:Int)+(c:Int))=(((y+c)%4294967296:Nat):Int):=by rw[show (y:Int)+(c:Int)=((y+c:Nat):Int) by omega,cU]
  have V:=l ((y+c)%4294967296);have K:Lim (P++[(y+c)%4294967296]):=j.app fun z N=>by simp at N; subst N; exact aVF _ (by decide)
  have M:=fP K;rw[aTM,aTT,e] at M;have hD:eF (v.length+1) (val W+val v)=P++[(y+c)%4294967296]:=by
   refine aCN K (by rw[aTM,aTT,e]) ?_;have:val W+val v=val (P++[(y+c)%4294967296])+4294967296 ^ (v.length+1)*((y+c)/4294967296):=by rw[kF,e,aVL,aUI,aWB,← aTX,Nat.mod_add_div,aTX];omega
   rw[this,Nat.add_mul_mod_self_left,aUZ M]
  have U:W.drop (v.length+1)=[]:=aXE Om;simp only[go_sem,B,WR,e,E,I,ec,R,V];refine aV (vs:=[]) (.inl rfl) (PH.nil.set o (.rows 1 (aL (A++(P++[(y+c)%4294967296]++W.drop (v.length+1))++Z)))) rfl (e_ a_ Sq) ⟨rfl,?_⟩;rw[hD,U,aVC]
def ajD (o n:Nat) (len:Nat):PF:=((PF.nil.set 0 (.osl o 1 0 len)).set 3 (.int .i64 n))
theorem Uk {C:Ctx} (xs:List Nat) (B:Lim xs) (F:xs.length≤35184372087808) (o:Nat):qD.wp C (aR HA.res (fun r H'=>r=.int .i64 (nl (val xs):Nat)∧H'=PH.nil.set o (.rows 1 (aL xs)))) (PF.args [.osl o 1 0 xs.length]) (PH.nil.set o (.rows 1 (aL xs))):=by
 simp only[go_sem,qD,KO,KP,HA];refine wp_loop (α:=Nat) (fun n=>ajD o n xs.length) (fun _=>PH.nil.set o (.rows 1 (aL xs))) (fun n=>n≤xs.length∧∀ j x,n≤j→xs[j]?=some x→x=0) (fun n=>n) xs.length ⟨aTO _,fun j x h e=>by rw[aUW h] at e; cases e⟩ ?_ b_ ?_
 ·unfold ajD;exact Lq
 rintro n ⟨A,y⟩;have out:(∀ x,0<n→xs[n-1]?=some x→x≠0)→nl (val xs)=n:=fun h=>acE B A y h;simp only[go_sem,KN,KQ,ajD];by_cases u:(n:Int)>0
 ·have w:0<n:=Om;have hi:=bT xs (Om:n-1<xs.length);have hlt:((n-1:Nat):Int)<(xs.length:Nat):=Om;simp only[go_sem,u,xQ (Om:n≤9223372036854775807) w,hi,hlt];by_cases l:xs[n-1]=0
  ·simp only[go_sem,bP (Om:((xs[n-1]:Nat):Int)=0),KR,xQ (Om:n≤9223372036854775807) w];refine aH (n-1) ⟨by omega,fun j x E he=>?_⟩ Om ?_ b_
   ·rcases aUE j n with h | h
    ·have:j=n-1:=Om;subst this;rw[aTP Om] at he;cases he; exact l
    ·exact y j x h he
   ·exact Lq
  ·simp only[go_sem,bE (Om:((xs[n-1]:Nat):Int)≠0),uH];refine aV (.inr rfl) _ rfl b_ ⟨?_,rfl⟩;rw[out fun x _ he=>by rw[aTP Om] at he; cases he; exact l];rfl
 ·simp only[go_sem,u,uH];refine aV (.inr rfl) _ rfl b_ ⟨?_,rfl⟩;rw[out fun x h=>by omega];rfl
end Go.PM
namespace Go.Na
structure Kn (V W top next Vr head u2 Wr p:Nat):Prop where
 hV:V=top*(4294967296*p)+next*p+Vr
 hW:W=head*(4294967296*p)+u2*p+Wr
 hVr:Vr<p
 hWr:Wr<p
 htop:2147483648≤top
 aSR:next<4294967296
 hu2:u2<4294967296
 hlt:W<V*4294967296
section
variable {V W top next Vr head u2 Wr p:Nat}
theorem Kn.low (K:Kn V W top next Vr head u2 Wr p):next*p+Vr<4294967296*p∧u2*p+Wr<4294967296*p:=by
 have e:(next+1)*p≤4294967296*p:=aUM _ K.aSR;have j:(u2+1)*p≤4294967296*p:=aUM _ K.hu2;rw[aUT,Nat.one_mul] at e j;have:=K.hVr;have:=K.hWr;omega
theorem Kn.Ex (K:Kn V W top next Vr head u2 Wr p):0<V∧4294967296*p≤V∧0<p:=by
 have:=K.hVr;have h:1*(4294967296*p)≤top*(4294967296*p):=aUM _ (by have:=K.htop; omega);have:=K.hV;omega
theorem Kn.aJS (K:Kn V W top next Vr head u2 Wr p):W/V<4294967296:=by
 rw[aWS K.Ex.1,aUL]; exact K.hlt
theorem Kn.g0 (K:Kn V W top next Vr head u2 Wr p):W/V≤head/top:=by
 have e:0<top:=by have:=K.htop; omega
 rw[Nat.le_div_iff_mul_le e];have j:W/V*V≤W:=Nat.div_mul_le_self W V;have l:W/V*(top*(4294967296*p))≤W/V*V:=aWC _ (by have:=K.hV; omega);have u:=K.low.2;have w:=K.hW;have h5:(W/V*top)*(4294967296*p)<(head+1)*(4294967296*p):=by rw[aUI,aUT,Nat.one_mul]; omega
 have:=Nat.lt_of_mul_lt_mul_right h5;omega
theorem Kn.g1 (K:Kn V W top next Vr head u2 Wr p) {g r:Nat} (u:g*top+r=head) (hq:W/V≤g) (h:g≥4294967296∨g*next>r*4294967296+u2):1≤g∧W/V≤g-1:=by
 have x:=K.aJS;have j:=Nat.div_mul_le_self W V;generalize W/V=Q at *
 rcases h with h | h
 ·omega
 ·have w:Q≠g:=by
   intro e;have y:g*V≤W:=by rw[← e]; exact j
   have A:g*V=g*top*(4294967296*p)+g*next*p+g*Vr:=by rw[K.hV,aTX,aTX,aUI,aUI]
   have l:(r*4294967296+u2+1)*p≤g*next*p:=aUM _ h
   rw[aUT,aUT,Nat.one_mul,aUI r] at l;have B:g*top*(4294967296*p)+r*(4294967296*p)=head*(4294967296*p):=by rw[← aUT,u]
   have:=K.hW;have:=K.hWr;omega
  omega
theorem Kn.g2 (K:Kn V W top next Vr head u2 Wr p) {g r:Nat} (w:g*top+r=head) (x:g≤4294967296) (h:g*next≤r*4294967296+u2):g≤W/V+1:=by
 rcases aVP g with e | e
 ·rw[e]; exact aTQ _
 have l:g*V=g*top*(4294967296*p)+g*next*p+g*Vr:=by rw[K.hV,aTX,aTX,aUI,aUI]
 have j:g*next*p≤(r*4294967296+u2)*p:=aUM _ h
 rw[aUT,aUI r] at j;have u:g*top*(4294967296*p)+r*(4294967296*p)=head*(4294967296*p):=by rw[← aUT,w]
 have h5:g*Vr≤4294967296*Vr:=aUM _ x;have y:4294967296*(Vr+1)≤4294967296*p:=aWC _ K.hVr;have hV:=K.Ex;have hW:=K.hW;have h7:(g-1)*V≤W:=by
  have:g*V=(g-1)*V+V:=by obtain⟨k,rfl⟩:∃ k,g=k+1:=⟨g-1,by omega⟩;rw[aUT,Nat.one_mul]; rfl
  omega
 have:=(Nat.le_div_iff_mul_le hV.1).2 h7;generalize W/V=Q at *
 clear l j u h5 h7;omega
theorem Kn.g3 (K:Kn V W top next Vr head u2 Wr p) {g r:Nat} (w:g*top+r=head) (x:g≤4294967296) (y:4294967296≤r):g≤W/V+1:=by
 have e:=K.low.1;have hV:=K.Ex;have j:g*V=g*top*(4294967296*p)+g*(next*p+Vr):=by rw[K.hV,aWB,aTX,aUI]
 have l:g*(next*p+Vr)≤4294967296*(4294967296*p):=aWT x Om;have u:g*top*(4294967296*p)+r*(4294967296*p)=head*(4294967296*p):=by rw[← aUT,w]
 have h5:4294967296*(4294967296*p)≤r*(4294967296*p):=aUM _ y;have hW:=K.hW;have h7:g*V≤W:=Om;have:=(Nat.le_div_iff_mul_le hV.1).2 h7;generalize W/V=Q at *
 clear j l u h5 h7;omega
theorem Kn.g4 (K:Kn V W top next Vr head u2 Wr p):head/top≤4294967296+1:=by
 have e:=K.low.1;have hV:=K.Ex;have hW:=K.hW;have hlt:=K.hlt;have x:=K.htop;have u:head<(top+1)*4294967296:=by
  have j:V<(top+1)*(4294967296*p):=by rw[K.hV,aUT,Nat.one_mul]; omega
  have w:V*4294967296≤(top+1)*(4294967296*p)*4294967296:=aUM _ (Nat.le_of_lt j);have l:head*(4294967296*p)<(top+1)*4294967296*(4294967296*p):=by
   have:(top+1)*(4294967296*p)*4294967296=(top+1)*4294967296*(4294967296*p):=by rw[aUI,aUL (4294967296*p) 4294967296,← aUI]
   omega
  exact Nat.lt_of_mul_lt_mul_right l
 have h5:head/top<4294967296+2:=by rw[aWS Om];omega
 omega
end
theorem xB:∀ (k n:Nat),eF (k+1) n=eF k n++[n/4294967296 ^ k%4294967296]
 | 0,n=>by simp[eF]
 | k+1,n=>by show (n%4294967296)::eF (k+1) (n/4294967296)=(n%4294967296)::eF k (n/4294967296)++[n/4294967296 ^ (k+1)%4294967296];rw[xB k (n/4294967296),Nat.div_div_eq_div_mul,aVL,aUL 4294967296];rfl
theorem wD {xs:List Nat} (h:Lim xs):∀ {k:Nat},k≤xs.length→val (xs.drop k)=val xs/4294967296 ^ k:=by
 intro k j;have e:val xs=val (xs.take k)+4294967296 ^ k*val (xs.drop k):=by
  conv=>lhs; rw[← aWH k xs,gZ,aUA,aVT j]
 have l:=fP (h.take k);rw[aUA,aVT j] at l;rw[e,Nat.add_mul_div_left _ _ (aWJ (by decide)),aWQ l,aUF]
theorem XA {R s i j l X:Nat} (w:s<32) (h:R/4294967296 ^ i=j+4294967296*(l+4294967296*X)):(R/2 ^ s)/4294967296 ^ i%4294967296=(4294967296*l+j)/2 ^ s%4294967296:=by
 rw[Nat.div_div_eq_div_mul,aUL (2 ^ s),← Nat.div_div_eq_div_mul,h];have u:4294967296*4294967296=2 ^ s*(2 ^ (32-s)*4294967296):=by rw[← aUI,← Nat.pow_add,show s+(32-s)=32 by omega]
 have e:j+4294967296*(l+4294967296*X)=(4294967296*l+j)+2 ^ s*(2 ^ (32-s)*X*4294967296):=by
  have:4294967296*(4294967296*X)=2 ^ s*(2 ^ (32-s)*X*4294967296):=by rw[← aUI,u,aUI,aUI,aUI,aUL 4294967296 X]
  rw[aTX,this]; omega
 rw[e,Nat.add_mul_div_left _ _ (aWJ (by decide)),Nat.add_mul_mod_self_right]
end Go.Na
namespace Go.PM
open Go Go.Na
theorem aGN {A W Z:List Nat} {i:Nat} (hi:i<W.length):(aL (A++W++Z))[A.length+i]?=some [.int .u32 ((W[i]:Nat):Int)]:=by
 have e:A.length+i<(A++W++Z).length:=by simp; omega
 rw[bT _ e];congr 4;rw[List.getElem_append_left (by simp; omega),List.getElem_append_right Om];congr 1;omega
def dF (u v:PV) (n:Nat) (q:PV) (e next j s:Nat):PF:=((((((((PF.nil.set 8 (.int .u64 s)).set 9 (u)).set 10 (v)).set 11 (.int .i64 n)).set 12 (q)).set 13 (.int .u64 e)).set 14 (.int .u64 next)).set 15 (.int .i64 j))
def dG (u v:PV) (n:Nat) (q:PV) (e next j s g r:Nat):PF:=((((((((((PF.nil.set 8 (.int .u64 s)).set 9 (u)).set 10 (v)).set 11 (.int .i64 n)).set 12 (q)).set 13 (.int .u64 e)).set 14 (.int .u64 next)).set 15 (.int .i64 j)).set 17 (.int .u64 g)).set 18 (.int .u64 r))
theorem Dm {C:Ctx} {V J e next Vr l w Wr p:Nat} (x:Kn V J e next Vr l w Wr p) (htop:e<4294967296) (o y m j s:Nat) (v q:PV) (θ:j+m+2<y) (ι:y≤100000) (U:List Nat) (hU:(aL U)[j+m]?=some [.int .u32 (w:Nat)]) (K:cE) (F:PF) (H:PH)
  (hF:(dG (.osl o 1 0 y) v (m+2) q e next j s (l/e) (l%e)).le F) (hH:H o=some (.rows 1 (aL U)))
  (hK:∀ g r I,J/V≤g→g≤J/V+1→g≤4294967296→(dG (.osl o 1 0 y) v (m+2) q e next j s g r).le I→K .normal I H) :
  aC.wp C (.block 4 (.loop wN)) K F H:=by
 have γ:0<e:=by have:=x.htop; omega
 have hn:=x.aSR;have hu2:=x.hu2;simp only[go_sem];refine wp_loop (α:=Nat × Nat) (fun t=>dG (.osl o 1 0 y) v (m+2) q e next j s t.1 t.2) (fun _=>H) (fun t=>t.1*e+t.2=l∧J/V≤t.1∧t.1≤4294967296+1∧t.2<4294967296) (fun t=>t.1) (l/e,l%e)
  ⟨by simp only; rw[aUL]; exact aXA l e,x.g0,x.g4,Nat.lt_trans (aVF _ γ) htop⟩ hF b_ ?_
 rintro⟨g,r⟩ ⟨R,hq,β,hr⟩;simp only at R hq β hr;have e1:IntKind.i64.wrap ((j:Int)+((m+2:Nat):Int))=((j+(m+2):Nat):Int):=iD Om;have e2:IntKind.i64.wrap (((j+(m+2):Nat):Int)-2)=((j+m:Nat):Int):=by rw[wrap_i64 Om Om]; omega
 have hlt:((j+m:Nat):Int)<(y:Nat):=Om;have X:IntKind.u64.wrap ((w:Nat):Int)=((w:Nat):Int):=bD Om;have N:shift .shl .u64 (r:Int) 32=some (.int .u64 ((2 ^ 32*r:Nat):Int)):=LT (s:=32) Om Om;have W:(2:Nat) ^ 32=4294967296:=by decide
 have M:=orI (a:=2 ^ 32*r) (b:=w) (n:=2 ^ 32*r+w) Om Om (Nat.two_pow_add_eq_or_of_lt Om r).symm Om;rw[W] at N M;have A:(g≥4294967296∨g*next>r*4294967296+w)→∀ I:PF,(dG (.osl o 1 0 y) v (m+2) q e next j s g r).le I→aC.wp C (.block 5 (.seq (.region EH) (.seq (.region EI) (.seq (.region EJ) (.cond (.tmp 136) (.exit 4) .skip)))))
   (fN (fun t:Nat × Nat=>dG (.osl o 1 0 y) v (m+2) q e next j s t.1 t.2) (fun _=>H) (fun t=>t.1*e+t.2=l∧J/V≤t.1∧t.1≤4294967296+1∧t.2<4294967296) (fun t=>t.1) g (fA 4 K)) I H:=by
  intro hc I u;obtain⟨g1,g2⟩:=x.g1 R hq hc;have f8:=u 8 _ (by unfold dG; simp only[go_sem]; rfl);have f9:=u 9 _ (by unfold dG; simp only[go_sem]; rfl);have δ:=u 10 _ (by unfold dG; simp only[go_sem]; rfl);have f11:=u 11 _ (by unfold dG; simp only[go_sem]; rfl);have ε:=u 12 _ (by unfold dG; simp only[go_sem]; rfl);have f13:=u 13 _ (by unfold dG; simp only[go_sem]; rfl);have f14:=u 14 _ (by unfold dG; simp only[go_sem]; rfl);have ζ:=u 15 _ (by unfold dG; simp only[go_sem]; rfl);have Y:=u 17 _ (by unfold dG; simp only[go_sem]; rfl);have Z:=u 18 _ (by unfold dG; simp only[go_sem]; rfl);have w1:IntKind.u64.wrap ((g:Int)-1)=((g-1:Nat):Int):=by rw[wrap_u64 Om Om]; omega
  have w2:IntKind.u64.wrap ((r:Int)+(e:Int))=((r+e:Nat):Int):=fQ Om;have O:(g-1)*e+(r+e)=l:=by obtain⟨k,rfl⟩:∃ k,g=k+1:=⟨g-1,by omega⟩;rw[aUT,Nat.one_mul] at R;simp only[Nat.add_sub_cancel];omega
  simp only[go_sem,EH,EI,EJ,Y,Z,f13,w1,w2];by_cases c:r+e≥4294967296
  ·have S:((r+e:Nat):Int)≥4294967296:=Om;simp only[go_sem,S];refine hK (g-1) (r+e) _ g2 (x.g3 O Om c) Om ?_;unfold dG;exact Lq
  ·have S:¬ ((r+e:Nat):Int)≥4294967296:=Om;simp only[go_sem,S];refine aH (g-1,r+e) ⟨O,g2,by simp only; omega,by simp only; omega⟩ (by simp only; omega) ?_ b_;unfold dG;exact Lq
 simp only[go_sem,wN,WA,dG];by_cases c1:g≥4294967296
 ·have B:(g:Int)≥4294967296:=Om;simp only[go_sem,B];have:=A (.inl c1);simp only[go_sem,dG] at this;refine this _ ?_;exact Lq
 ·have B:¬ (g:Int)≥4294967296:=Om;have η:g*next≤4294967295*4294967295:=aWT Om Om
  have em:IntKind.u64.wrap ((g:Int)*(next:Int))=((g*next:Nat):Int):=by rw[show (g:Int)*(next:Int)=((g*next:Nat):Int) by simp];exact bD Om
  simp only[go_sem,B,em,N,e1,e2,hlt,hH,hU,X,M];by_cases c2:g*next>r*4294967296+w
  ·have E:((g*next:Nat):Int)>((4294967296*r+w:Nat):Int):=Om;simp only[go_sem,E];have:=A (.inr c2);simp only[go_sem,dG] at this;refine this _ ?_;exact Lq
  ·have E:¬ ((g*next:Nat):Int)>((4294967296*r+w:Nat):Int):=Om;simp only[go_sem,E];refine hK g r _ hq (x.g2 R Om Om) Om ?_;unfold dG;exact Lq
end Go.PM
namespace Go.Na
theorem aML {W v:List Nat} {m:Nat} (hW:Lim W) (e:Lim v) (y:v.length=m+2) (x:W.length=m+3) (A:2147483648≤v[m+1]) (hlt:val W<val v*4294967296) :
  Kn (val v) (val W) (v[m+1]) (v[m]) (val (v.take m)) (W[m+2]*4294967296+W[m+1]) (W[m]) (val (W.take m)) (4294967296 ^ m):=by
 have u:val v=val (v.take m)+4294967296 ^ m*(v[m]+4294967296*v[m+1]):=by
  rw[tF v (Om:m<v.length)];congr 4;have:v.drop (m+1)=[v[m+1]]:=by rw[aVV Om,aXE Om]
  rw[this]; simp[val]
 have w:val W=val (W.take m)+4294967296 ^ m*(W[m]+4294967296*(W[m+1]+4294967296*W[m+2])):=by
  rw[tF W (Om:m<W.length)];congr 4;have:W.drop (m+1)=[W[m+1],W[m+2]]:=by rw[aVV Om,aVV Om,aXE Om]
  rw[this]; simp[val]
 have j:=fP (e.take m);have l:=fP (hW.take m);rw[aUA,aVT Om] at j l;refine⟨?_,?_,j,l,A,e _ (aTN _),hW _ (aTN _),hlt⟩
 ·rw[u,aTX,aUL (4294967296 ^ m) (v[m]),← aUI (4294967296 ^ m),aUL (4294967296 ^ m*4294967296),aUL (4294967296 ^ m) 4294967296];omega
 ·rw[w,aTX,aUL (4294967296 ^ m) (W[m]),← aUI (4294967296 ^ m),aUL (4294967296 ^ m*4294967296),aUL (4294967296 ^ m) 4294967296,aUL (W[m+2]),Nat.add_comm (4294967296*W[m+2])];omega
end Go.Na
namespace Go.PM
open Go Go.Na
structure Dy (C:Ctx):Prop where
 subtract:∀ (A W Z v:List Nat) (f o:Nat),Lim W→Lim v→W.length=v.length+1→A.length+v.length≤100000→f≤4294967296→val v*f≤val W+4294967296 ^ (v.length+1) →
  aG C 142 [.osl o 1 A.length (v.length+1),aK v,.int .u64 f] (PH.nil.set o (.rows 1 (aL (A++W++Z)))) (fun r H'=>r=.bool (decide (val W<val v*f))∧H'=PH.nil.set o (.rows 1 (aL (A++eF (v.length+1) (LY (v.length+1) (val W) (val v*f))++Z))))
 restore:∀ (A W Z v:List Nat) (o:Nat),Lim W→Lim v→W.length=v.length+1→A.length+v.length≤100000 →
  aG C 139 [.osl o 1 A.length (v.length+1),aK v] (PH.nil.set o (.rows 1 (aL (A++W++Z)))) (fun r H'=>r=.tup []∧H'=PH.nil.set o (.rows 1 (aL (A++eF (v.length+1) (val W+val v)++Z))))
theorem Fj (k n:Nat):eF k (n%4294967296 ^ k)=eF k n :=
 Yh (nH _ _) (nH _ _) (by rw[mJ,mJ]) (by rw[BP,BP,Nat.mod_mod])
theorem Dl {C:Ctx} (D:Dy C) (A W Z v Q:List Nat) (m o S R s:Nat) (β:S≠o) (hW:Lim W) (hv:Lim v) (ο:v.length=m+2) (ξ:W.length=m+3) (ht:2147483648≤v[m+1]) (hlt:val W<val v*4294967296)
  (p':R=A.length+(m+3)+Z.length) (k':R≤10000) (a':A.length<Q.length) (K:cE) (F:PF) (H:PH) (U:(dF (.osl o 1 0 R) (aK v) (m+2) (.osl S 1 0 Q.length) (v[m+1]) (v[m]) A.length s).le F)
  (hH:H o=some (.rows 1 (aL (A++W++Z)))) (κ:H S=some (.rows 1 (aL Q)))
  (hK:∀ F' H',(dF (.osl o 1 0 R) (aK v) (m+2) (.osl S 1 0 Q.length) (v[m+1]) (v[m]) A.length s).le F'→H' o=some (.rows 1 (aL (A++eF (m+3) (val W%val v)++Z)))→H' S=some (.rows 1 (aL (Q.set A.length (val W/val v))))→K .normal F' H') :
  aC.wp C (.block 3 (.seq (.draw EF) (.seq (.draw EG) (.seq (.block 4 (.loop wN)) (.seq (.seq (.region EK) (.cond (.tmp 146) (.seq (.region EL) (.region EM)) .skip)) (.region wO)))))) K F H:=by
 have Kk:=aML hW hv ο ξ ht hlt;have x:∀ i (h:i<W.length),(aL (A++W++Z))[A.length+i]?=some [.int .u32 ((W[i]:Nat):Int)]:=fun i h=>aGN h;have g0:=x (m+2) Om;have g1:=x (m+1) Om;have g2:=x m Om;have hq:=Kk.aJS;have htop:v[m+1]<4294967296:=hv _ (aTN _);have t':=hW _ (aTN (Om:m+2<W.length));have u':=hW _ (aTN (Om:m+1<W.length));have α:=Kk.Ex.1;generalize s':v[m+1]=l at *
 generalize q':v[m]=next at *
 generalize v':W[m+2]=I at *
 generalize w':W[m+1]=u1 at *
 generalize x':W[m]=u2 at *
 have f8:=U 8 _ (by unfold dF; simp only[go_sem]; rfl);have f9:=U 9 _ (by unfold dF; simp only[go_sem]; rfl);have Θ:=U 10 _ (by unfold dF; simp only[go_sem]; rfl);have f11:=U 11 _ (by unfold dF; simp only[go_sem]; rfl);have Λ:=U 12 _ (by unfold dF; simp only[go_sem]; rfl);have f13:=U 13 _ (by unfold dF; simp only[go_sem]; rfl);have f14:=U 14 _ (by unfold dF; simp only[go_sem]; rfl);have ζ:=U 15 _ (by unfold dF; simp only[go_sem]; rfl);have e1:IntKind.i64.wrap ((A.length:Int)+((m+2:Nat):Int))=((A.length+(m+2):Nat):Int):=iD Om;have e2:IntKind.i64.wrap (((A.length+(m+2):Nat):Int)-1)=((A.length+(m+1):Nat):Int):=by rw[wrap_i64 Om Om]; omega
 have c0:((A.length+(m+2):Nat):Int)<(R:Nat):=Om;have c1:((A.length+(m+1):Nat):Int)<(R:Nat):=Om;have Γ:IntKind.u64.wrap ((I:Nat):Int)=((I:Nat):Int):=bD Om;have Δ:IntKind.u64.wrap ((u1:Nat):Int)=((u1:Nat):Int):=bD Om;have ε:shift .shl .u64 (I:Int) 32=some (.int .u64 ((2 ^ 32*I:Nat):Int)):=LT (s:=32) Om Om;have ω:(2:Nat) ^ 32=4294967296:=by decide
 have X:=orI (a:=2 ^ 32*I) (b:=u1) (n:=2 ^ 32*I+u1) Om Om (Nat.two_pow_add_eq_or_of_lt Om I).symm Om;rw[ω] at ε X;have Φ:4294967296*I+u1=I*4294967296+u1:=Om;rw[Φ] at X;simp only[go_sem];refine bC H cX b_ ?_;simp only[go_sem,EF,f9,ζ,f11,e1,e2,c0,c1,hH,g0,g1,Γ,Δ,ε,X];refine bC H cX b_ ?_;have r':0<l:=Om;have e':¬ ((l:Nat):Int)=0:=Om;generalize o':I*4294967296+u1=e at *
 have γ:IntKind.u64.wrap (Int.tdiv ((e:Nat):Int) ((l:Nat):Int))=((e/l:Nat):Int):=by rw[show Int.tdiv ((e:Nat):Int) ((l:Nat):Int)=((e/l:Nat):Int) from rfl];exact bD (by have:=Kk.g4; omega)
 have δ:Int.tmod ((e:Nat):Int) ((l:Nat):Int)=((e%l:Nat):Int):=rfl;simp only[go_sem,EG,f13,e',γ,δ];have w:=Dm (C:=C) Kk htop o R m A.length s (aK v) (.osl S 1 0 Q.length) Om Om (A++W++Z) g2;simp only[go_sem] at w;refine w _ _ H ?_ hH ?_
 ·unfold dG;refine d_ (d_ (d_ (d_ (d_ (d_ (d_ (d_ (d_ (d_ c_ ?_) ?_) ?_) ?_) ?_) ?_) ?_) ?_) ?_) ?_<;>simp only[go_sem,f8,f9,Θ,f11,Λ,f13,f14,ζ]
 clear w;intro g r F' q1 q2 q3 j;have h8:=j 8 _ (by unfold dG; simp only[go_sem]; rfl);have h9:=j 9 _ (by unfold dG; simp only[go_sem]; rfl);have J:=j 10 _ (by unfold dG; simp only[go_sem]; rfl);have M:=j 11 _ (by unfold dG; simp only[go_sem]; rfl);have η:=j 12 _ (by unfold dG; simp only[go_sem]; rfl);have θ:=j 13 _ (by unfold dG; simp only[go_sem]; rfl);have ι:=j 14 _ (by unfold dG; simp only[go_sem]; rfl);have N:=j 15 _ (by unfold dG; simp only[go_sem]; rfl);have Y:=j 17 _ (by unfold dG; simp only[go_sem]; rfl);have e3:IntKind.i64.wrap (((A.length+(m+2):Nat):Int)+1)=((A.length+(m+3):Nat):Int):=by rw[wrap_i64 Om Om]; omega
 have c3:(A.length:Int)≤((A.length+(m+3):Nat):Int):=Om;have c4:((A.length+(m+3):Nat):Int)≤(R:Nat):=Om;have e4:A.length+(m+3)-A.length=v.length+1:=Om;have B:v.length+1=m+3:=Om;have n':val v*(val W/val v)+val W%val v=val W:=aXA _ _;have μ:=fP hW;rw[ξ] at μ;have ψ:val W%val v<val v:=aVF _ α;have υ:=fP hv;rw[ο] at υ;have σ:4294967296 ^ (m+3)=4294967296 ^ (m+2)*4294967296:=aVL _ _;generalize l':val W/val v=E at *
 generalize m':val W%val v=rd at *
 have V:∀ (y:PF) (H2:PH),y 8=some (.int .u64 s)→y 9=some (.osl o 1 0 R)→y 10=some (aK v)→y 11=some (.int .i64 ((m+2:Nat):Int))→y 12=some (.osl S 1 0 Q.length)→y 13=some (.int .u64 l)→y 14=some (.int .u64 next)→y 15=some (.int .i64 A.length)→y 17=some (.int .u64 E) →
   H2 o=some (.rows 1 (aL (A++eF (m+3) rd++Z)))→H2 S=some (.rows 1 (aL Q))→aC.wp C (.region wO) (fA 3 K) y H2:=by
  intro y H2 k8 k9 f' g' φ h' i' χ j' kH kQ;have d':(aL Q)[A.length]?=some [.int .u32 ((Q[A.length]:Nat):Int)]:=bT Q a';have c':(A.length:Int)<(Q.length:Nat):=Om;have eq:IntKind.u32.wrap ((E:Nat):Int)=((E:Nat):Int):=by rw[cU,aUZ hq]
  have τ:=gD Q A.length E;have ρ:¬ o=S:=fun h=>β h.symm;simp only[go_sem,wO,φ,χ,j',eq,c',kQ,d',τ];refine hK _ _ ?_ (by simp only[go_sem,ρ,kH]) Sq;unfold dF;refine d_ (d_ (d_ (d_ (d_ (d_ (d_ (d_ c_ ?_) ?_) ?_) ?_) ?_) ?_) ?_) ?_<;>simp only[go_sem,k8,k9,f',g',φ,h',i',χ]
 have b':(PH.nil.set o (.rows 1 (aL (A++W++Z)))).le H:=e_ a_ hH;have ν:val v*g≤val W+4294967296 ^ (v.length+1):=by have:val v*g≤val v*(E+1):=aWC _ q2;rw[aTX,Nat.mul_one] at this;rw[B,σ]; omega
 simp only[go_sem,EK,h9,N,M,e1,e3,c3,c4,e4,J,Y];refine eO (D.subtract A W Z v g o hW hv Om Om q3 ν) rfl b' ?_;rintro rr H' ⟨rfl,rfl⟩ -;rw[PH.qH];by_cases Ω:g=E
 ·subst Ω;have u:¬ val W<val v*g:=Om;have hN:LY (v.length+1) (val W) (val v*g)=rd:=by unfold LY; rw[if_neg u]; omega
  rw[hN,B];simp only[go_sem,u];have:=V;simp only[go_sem] at this;refine this _ _ ?_ ?_ ?_ ?_ ?_ ?_ ?_ ?_ ?_ ?_ ?_<;>simp only[go_sem,h8,h9,J,M,η,θ,ι,N,Y,β,κ]
 ·have Ψ:g=E+1:=Om;subst Ψ;rw[aTX,Nat.mul_one];have u:val W<val v*E+val v:=Om;have hN:LY (v.length+1) (val W) (val v*E+val v)=rd+4294967296 ^ (m+3)-val v:=by unfold LY; rw[if_pos u,B]; omega
  rw[hN];have w1:IntKind.u64.wrap (((E+1:Nat):Int)-1)=((E:Nat):Int):=by rw[wrap_u64 Om Om]; omega
  simp only[go_sem,u,EL,Y,w1,EM,h9,N,M,e1,e3,c3,c4,e4,J];have Ξ:val (eF (v.length+1) (rd+4294967296 ^ (m+3)-val v))=rd+4294967296 ^ (m+3)-val v:=pM (by rw[B]; omega);refine eO (D.restore A (eF (v.length+1) (rd+4294967296 ^ (m+3)-val v)) Z v o (nH _ _) hv (mJ _ _) Om) rfl (e_ a_ Sq) ?_;rintro rr H' ⟨rfl,rfl⟩ -;rw[PH.qH,PH.set_set,Ξ];have O:eF (v.length+1) (rd+4294967296 ^ (m+3)-val v+val v)=eF (m+3) rd:=by rw[B,← Fj (m+3) (rd+4294967296 ^ (m+3)-val v+val v)];rw[show rd+4294967296 ^ (m+3)-val v+val v=rd+4294967296 ^ (m+3) by omega,Nat.add_mod_right,Fj]
  rw[O];simp only[go_sem];have:=V;simp only[go_sem] at this;refine this _ _ ?_ ?_ ?_ ?_ ?_ ?_ ?_ ?_ ?_ ?_ ?_<;>simp only[go_sem,h8,h9,J,M,η,θ,ι,N,β,κ]
open Go
section
variable {C:Ctx} {K:cE} {F:PF} {H Hs:PH} {S:Spec}
theorem Vg {name:Nat} {vs:List PV} {R:PV→PH→Prop} {args:List aN} {st:Bool} {d:Option Nat} {K:PF→PH→Prop} (w:S name vs=some ([],fun _=>R)) (h:aG C name vs .nil R) (e:aN.evs F args=some vs)
  (j:∀ G:PH,∃ r H',R r H'∧lS G .nil H') (y:∀ r H',R r H'→lS H .nil H'→Hs.le (H.over .nil H')∧K (F.put d r) (H.over .nil H')):dOp C Hs S st (.call name args) d K F H:=by
 refine⟨vs,[],fun _=>R,e,w,fun o A=>by simp at A,by rw[KX]; exact h,fun G=>?_,fun r H' B e=>?_⟩
 ·obtain⟨r,H',l,u⟩:=j G;exact⟨r,H',l,fun o x E I=>u o x E (by simp[PH.nil])⟩
 ·rw[KX] at e ⊢;exact y r H' B e
theorem PH.over_self (j:PH) (h:j.le H):H.over j j=H:=PH.ext fun q=>by
 rw[pH];cases e:j q with
 | none=>rfl
 | some x=>exact (h q x e).symm
theorem Og {o:Nat} {x:bO} (h:H o=some x):H.only [o]=PH.nil.set o x:=PH.ext fun q=>by
 rw[rA,aT];by_cases e:q=o
 ·subst e; simp[h]
 ·simp[e,sx]
theorem HV {name o:Nat} {x:bO} {vs:List PV} {v:PV} {R:PH→PV→PH→Prop} {args:List aN} {st:Bool} {d:Option Nat} {K:PF→PH→Prop} (E:S name vs=some ([o],R)) (B:H o=some x)
  (h:aG C name vs (PH.nil.set o x) (fun r H'=>r=v∧H'=PH.nil.set o x)) (j:R (PH.nil.set o x) v (PH.nil.set o x)) (u:∀ r H',R (PH.nil.set o x) r H'→r=v∧H'=PH.nil.set o x) (I:aN.evs F args=some vs) (w:Hs.le H) (J:K (F.put d v) H) :
  dOp C Hs S st (.call name args) d K F H:=by
 have e:=Og B;refine⟨vs,[o],_,I,E,fun q hq=>?_,?_,fun G=>⟨v,_,by rw[e]; exact j,fun q y M A=>?_⟩,fun r H' l _=>?_⟩
 ·simp at hq; subst hq; exact⟨x,B⟩
 ·rw[e];exact h.post fun r H' l=>⟨r,.refl _,by rw[l.1,l.2]; exact j⟩
 ·rw[e] at A; rw[M] at A; cases A
 ·rw[e] at l;obtain⟨rfl,rfl⟩:=u r H' l;rw[e,PH.over_self _ (by rw[← e]; exact UV H [o])];exact⟨w,J⟩
theorem U2 {c:aC} {α:Type} (e:α→PF) (Hs:α→PH) (j:α→Prop) (m:α→Nat) (l:α) (o:Nat) {s:Nat} {rs:List (List PV)} (y:H o=some (.rows s rs)) (u:j l) (w:(e l).le (F.frz o s rs)) (x:(Hs l).le (H.frz o s rs))
  (hb:∀ a,j a→c.wp C (fN e Hs j m (m a) K) (e a) (Hs a)):aC.wp C (.loop c) K F H :=
 ⟨α,e,Hs,j,m,l,_,_,.step o y (.refl _ _),u,w,x,hb⟩
@[go_sem] theorem zY (o s:Nat) (rs:List (List PV)) (q:Nat):(H.frz o s rs) q=if q=o then none else (H q).map (bO.frz o s rs):=(rfl)
theorem aqG {t u o1 o2 s1 s2 k1 k2:Nat} {rs1 rs2:List (List PV)} {R:PV→PH→Prop} {e:kT} (he:e=.normal∨e=.ret) (l:o1≠o2) (M:F t=some (.osl o1 s1 0 k1)) (N:F u=some (.osl o2 s2 0 k2)) (x:H o1=some (.rows s1 rs1)) (y:H o2=some (.rows s2 rs2))
  (U:k1≤rs1.length) (V:k2≤rs2.length) (A:rs2.map (fun r=>r.map (PV.cH o1 s1 rs1))=rs2) (W:(rs1.take k1)=rs1.take k1) (O:R (.tup [.sl s1 (rs1.take k1),.sl s2 (rs2.take k2)]) .nil):aR [.tmp t,.tmp u] R e F H:=by
 have B:∃ vs,dY.evs F H [.tmp t,.tmp u]=some vs∧∃ E I H2,jE (PF.nil.set 0 (bQ vs)) H E I∧H2.le I∧∃ w,E 0=some w∧R w H2:=by
  have j:o2≠o1:=fun h=>l h.symm;have J:(H.frz o1 s1 rs1) o2=some (.rows s2 rs2):=by rw[zY,if_neg j,y]; simp only[aUO,bO.frz,A]
  refine⟨[.osl o1 s1 0 k1,.osl o2 s2 0 k2],by rw[lK,oI,M,lK,oI,N,pK],_,_,.nil,.step o1 x (.step o2 J (.refl _ _)),a_,_,?_,O⟩;have a1:0+k1≤rs1.length:=Om;have a2:0+k2≤rs2.length:=Om;simp only[PF.frz,mQ,if_true,bQ,aUO,PV.frz,PV.qC,PV.cH,aUQ,aVZ,true_and,if_pos a1,if_pos a2,aUV,if_neg j]
 rcases he with rfl | rfl<;>exact B
end
end Go.PM
namespace Go.Na
structure pT (U0 V n lu lq:Nat) (k:Nat) (U Q:List Nat):Prop where
 lu':U.length=lu
 lq':Q.length=lq
 limU:Lim U
 limQ:Lim Q
 v:val U+val Q*V=U0
 r:val (U.drop k)<V
 z:∀ i x,i<k→Q[i]?=some x→x=0
theorem Fk {N V n M A j:Nat} {U Q:List Nat} (h:pT N V n M A (j+1) U Q) (hV:V<4294967296 ^ n) (hj:j<A) (hl:M=A+n) :
  val ((U.drop j).take (n+1))<V*4294967296∧pT N V n M A j (U.take j++eF (n+1) (val ((U.drop j).take (n+1))%V)++U.drop (j+(n+1))) (Q.set j (val ((U.drop j).take (n+1))/V)):=by
 have Z:=h.lu';have J:=h.lq';have e:0<V:=by have:=h.r; omega
 have u:j<U.length:=Om;have e1:val (U.drop j)=U[j]+4294967296*val (U.drop (j+1)):=by rw[aVV u]; rfl
 have X:=h.limU _ (aTN u);have hlt:val (U.drop j)<V*4294967296:=by have:=h.r; omega
 have I:((U.drop j).take (n+1)).length=n+1:=by rw[aUA,aVE]; omega
 have O:val (U.drop j)=val ((U.drop j).take (n+1))+4294967296 ^ (n+1)*val (U.drop (j+(n+1))):=by
  conv=>lhs; rw[← aWH (n+1) (U.drop j),gZ,I,List.drop_drop]
 have R:4294967296 ^ (n+1)=4294967296 ^ n*4294967296:=aVL _ _;have Y:V*4294967296≤4294967296 ^ n*4294967296:=aUM _ (Nat.le_of_lt hV);have E:val (U.drop (j+(n+1)))=0:=by
  rcases aVP (val (U.drop (j+(n+1)))) with h0 | h0
  ·exact h0
  ·have:=aWC (4294967296 ^ (n+1)) h0;omega
 rw[E,Nat.mul_zero,aVB] at O;generalize hW:val ((U.drop j).take (n+1))=W at *
 have e3:val U=val (U.take j)+4294967296 ^ j*W:=by
  conv=>lhs; rw[← aWH j U,gZ,aUA,aVT Om,O]
 have y:W%V<V:=aVF _ e;have F:V*(W/V)+W%V=W:=aXA _ _;have K:W/V<4294967296:=by rw[aWS e,aUL]; omega
 have hD:val (eF (n+1) (W%V))=W%V:=pM Om;have B:Q[j]=0:=h.z j _ Om (aTP Om);have l:=HH (Om:j<Q.length) (W/V);rw[B,Nat.mul_zero,aVB] at l;have w:(U.take j).length=j:=by rw[aUA]; omega
 refine⟨by omega,?_,?_,?_,?_,?_,?_,?_⟩
 ·simp only[aTM,mJ,aVE,aUA]; omega
 ·rw[aVJ]; exact J
 ·exact ((h.limU.take j).app (nH _ _)).app (h.limU.drop _)
 ·exact h.limQ.set _ K
 ·rw[aUP,gZ,gZ,w,hD,mJ,E,Nat.mul_zero,aVB,l];have:=h.v;have h5:(val Q+4294967296 ^ j*(W/V))*V=val Q*V+4294967296 ^ j*(V*(W/V)):=by rw[aUT,aUI,aUL (W/V) V]
  have h6:4294967296 ^ j*W=4294967296 ^ j*(V*(W/V))+4294967296 ^ j*(W%V):=by rw[← aTX,F]
  omega
 ·rw[aUP,List.drop_append_of_le_length Om,aXE Om,aWP,gZ,hD,E,Nat.mul_zero,aVB];exact y
 ·intro i x hi S;rw[List.getElem?_set_ne Om] at S;exact h.z i x Om S
end Go.Na
namespace Go.PM
open Go Go.Na
def dI (u v:PV) (n:Nat) (q:PV) (e next s:Nat) (j:Int):PF:=((((((((PF.nil.set 8 (.int .u64 s)).set 9 (u)).set 10 (v)).set 11 (.int .i64 n)).set 12 (q)).set 13 (.int .u64 e)).set 14 (.int .u64 next)).set 15 (.int .i64 j))
theorem sX (o s:Nat) (rs:List (List PV)) (L:List Nat):(aL L).map (fun r=>r.map (PV.cH o s rs))=aL L:=by
 unfold aL;rw[aWO];rfl
theorem Nk {C:Ctx} (D:Dy C) (X m y w o o2 x s:Nat) (v e:List Nat) (h2:o2≠o) (h3:x≠o) (h4:x≠o2) (hv:Lim v) (R:v.length=m+2) (Δ:(aL e).take (m+2)=aL v) (Θ:m+2≤e.length) (ht:2147483648≤v[m+1])
  (Γ:y=w+(m+2)) (S:y≤10000) (U:List Nat) (E:pT X (val v) (m+2) y w w U (aTK w 0)) (K:cE) (F:PF) (H:PH)
  (B:(dI (.osl o 1 0 y) (.osl o2 1 0 (m+2)) (m+2) (.osl x 1 0 w) (v[m+1]) (v[m]) s ((w:Int)-1)).le F) (hH:H o=some (.rows 1 (aL U))) (ν:H o2=some (.rows 1 (aL e))) (μ:H x=some (.rows 1 (aL (aTK w 0))))
  (hK:∀ U' Q' W,pT X (val v) (m+2) y w 0 U' Q'→(dI (.osl o 1 0 y) (aK v) (m+2) (.osl x 1 0 w) (v[m+1]) (v[m]) s (-1)).le W→K .normal W ((PH.nil.set o (.rows 1 (aL U'))).set x (.rows 1 (aL Q')))) :
  aC.wp C (.block 2 (.loop ED)) K F H:=by
 have f8:=B 8 _ (by unfold dI; simp only[go_sem]; rfl);have f9:=B 9 _ (by unfold dI; simp only[go_sem]; rfl);have Z:=B 10 _ (by unfold dI; simp only[go_sem]; rfl);have f11:=B 11 _ (by unfold dI; simp only[go_sem]; rfl);have β:=B 12 _ (by unfold dI; simp only[go_sem]; rfl);have f13:=B 13 _ (by unfold dI; simp only[go_sem]; rfl);have f14:=B 14 _ (by unfold dI; simp only[go_sem]; rfl);have γ:=B 15 _ (by unfold dI; simp only[go_sem]; rfl);have I:¬ o=o2:=fun h=>h2 h.symm;have J:¬ x=o2:=h4;have V:¬ o=x:=fun h=>h3 h.symm;have υ:∀ (k:IntKind) (n:Int),PV.frz o2 1 (aL e) (.int k n)=.int k n:=fun _ _=>rfl;have χ:∀ l,PV.frz o2 1 (aL e) (.osl o 1 0 l)=.osl o 1 0 l:=fun l=>by simp only[PV.frz,PV.qC,PV.cH,if_neg I]
 have φ:∀ l,PV.frz o2 1 (aL e) (.osl x 1 0 l)=.osl x 1 0 l:=fun l=>by simp only[PV.frz,PV.qC,PV.cH,if_neg J]
 have ψ:PV.frz o2 1 (aL e) (.osl o2 1 0 (m+2))=aK v:=by
  have:0+(m+2)≤(aL e).length:=by rw[cF]; omega
  simp only[PV.frz,PV.qC,PV.cH,if_true,true_and,if_pos this,aUV,Δ]
 simp only[go_sem];refine U2 (α:=Nat × List Nat × List Nat) (fun t=>dI (.osl o 1 0 y) (aK v) (m+2) (.osl x 1 0 w) (v[m+1]) (v[m]) s ((t.1:Int)-1)) (fun t=>(PH.nil.set o (.rows 1 (aL t.2.1))).set x (.rows 1 (aL t.2.2)))
  (fun t=>t.1≤w∧pT X (val v) (m+2) y w t.1 t.2.1 t.2.2) (fun t=>t.1) (w,U,aTK w 0) o2 ν ⟨aTO _,E⟩ ?_ ?_ ?_
 ·unfold dI;refine d_ (d_ (d_ (d_ (d_ (d_ (d_ (d_ c_ ?_) ?_) ?_) ?_) ?_) ?_) ?_) ?_<;>simp only[go_sem,f8,f9,Z,f11,β,f13,f14,γ,υ,χ,φ,ψ]
 ·refine e_ (e_ a_ ?_) ?_
  ·simp only[go_sem,I,hH,bO.frz,sX]
  ·simp only[go_sem,J,μ,bO.frz,sX]
 rintro⟨k,U,Q⟩ ⟨hk,E⟩;simp only at hk E;simp only[go_sem,ED,VZ,dI];by_cases h0:0<k
 ·obtain⟨j,rfl⟩:∃ j,k=j+1:=⟨k-1,by omega⟩;have hz:((j+1:Nat):Int)-1=(j:Int):=Om;have ω:(j:Int)≥0:=Om;have O:val v<4294967296 ^ (m+2):=by have:=fP hv; rw[R] at this; exact this
  obtain⟨hlt,ξ⟩:=Fk E O Om Γ;have ρ:=E.lu';have ο:=E.lq';have hA:(U.take j).length=j:=by rw[aUA]; omega
  have σ:((U.drop j).take (m+3)).length=m+3:=by rw[aUA,aVE]; omega
  have A:U.take j++(U.drop j).take (m+3)++U.drop (j+(m+3))=U:=by rw[aUP,← List.drop_drop,aWH,aWH]
  have τ:(U.drop (j+(m+3))).length=y-(j+(m+3)):=by rw[aVE,ρ]
  have M:=Dl (C:=C) D (U.take j) ((U.drop j).take (m+3)) (U.drop (j+(m+3))) v Q m o x y s h3 ((E.limU.drop _).take _) hv R σ ht hlt (by rw[hA,τ]; omega) S (by rw[hA]; omega);rw[hA,A,ο] at M;have Y:IntKind.i64.wrap ((j:Int)-1)=(j:Int)-1:=wrap_i64 Om Om;simp only[go_sem,hz,ω];simp only[go_sem] at M;refine M _ _ _ ?_ (by simp only[go_sem,V]) Sq ?_
  ·unfold dF;exact Lq
  ·intro W H' u κ N;have g8:=u 8 _ (by unfold dF; simp only[go_sem]; rfl);have g9:=u 9 _ (by unfold dF; simp only[go_sem]; rfl);have δ:=u 10 _ (by unfold dF; simp only[go_sem]; rfl);have ε:=u 11 _ (by unfold dF; simp only[go_sem]; rfl);have ζ:=u 12 _ (by unfold dF; simp only[go_sem]; rfl);have η:=u 13 _ (by unfold dF; simp only[go_sem]; rfl);have θ:=u 14 _ (by unfold dF; simp only[go_sem]; rfl);have ι:=u 15 _ (by unfold dF; simp only[go_sem]; rfl);simp only[go_sem,WB,ι,Y];refine aH (j,_,_) ⟨by simp only; omega,ξ⟩ (by simp only; omega) ?_ (e_ (e_ a_ κ) N);refine d_ (d_ (d_ (d_ (d_ (d_ (d_ (d_ c_ ?_) ?_) ?_) ?_) ?_) ?_) ?_) ?_<;>simp only[go_sem,g8,g9,δ,ε,ζ,η,θ]
 ·have:k=0:=Om;subst this;have hz:¬ ((0:Nat):Int)-1≥0:=by decide
  simp only[go_sem,hz];refine hK U Q _ E ?_;unfold dI
  (repeat' (first|exact c_|refine d_ ?_ ?_))<;>first|(simp only[go_sem,show ((0:Nat):Int)-1=-1 from rfl]<;>rfl)|rfl
open Go Go.Na
def rFr (o j l e or n s i:Nat):PF:=((((((PF.nil.set 8 (.int .u64 s)).set 9 (.osl o 1 0 j)).set 12 (.osl l 1 0 e)).set 19 (.osl or 1 0 n)).set 166 (.int .i64 n)).set 167 (.int .i64 i))
theorem aJY {x s:Nat} (e:s≤64):shift .shr .u64 (x:Int) (s:Int)=some (.int .u64 ((x/2 ^ s:Nat):Int)):=by
 unfold shift;rw[if_neg Om];simp only;have:min (Int.toNat (s:Int)) IntKind.u64.bits=s:=by rw[show IntKind.u64.bits=64 from rfl]; omega
 rw[this,Int.fdiv_eq_ediv_of_nonneg _ (by exact_mod_cast aTQ _)]
 norm_cast
theorem Nl {C:Ctx} (o w j lq n s:Nat) (U Q:List Nat) (hs:s<32) (h3:j≠o) (Z:Lim U) (hl:U.length=w) (hn:n<w) (ε:w≤10000) (K:cE) (F:PF)
  (f8:F 8=some (.int .u64 s)) (f9:F 9=some (.osl o 1 0 w)) (f11:F 11=some (.int .i64 n)) (ζ:F 12=some (.osl j 1 0 lq))
  (hK:∀ or F' H',or≠o→or≠j→(rFr o w j lq or n s n).le F'→H' j=some (.rows 1 (aL Q))→H' or=some (.rows 1 (aL (eF n (val U/2 ^ s))))→K .normal F' H') :
  aC.wp C (.seq (.region EN) (.seq (.region EO) (.block 6 (.loop EE)))) K F ((PH.nil.set o (.rows 1 (aL U))).set j (.rows 1 (aL Q))):=by
 have γ:((n:Nat):Int)*((4:Nat):Int)≤140737488355328:=Om;have δ:((n:Nat):Int)≤9223372036854775807:=Om;have hz:aTK n [PV.int .u32 0]=aL ([]++aTK n 0):=by simp[aL]
 simp only[go_sem,EN,f11,γ,δ,hz];refine aO fun or O=>?_;have n1:¬ or=j:=(jR.1 O).1;have n2:¬ or=o:=(jR.1 (jR.1 O).2).1;have A:¬ j=or:=fun h=>n1 h.symm;have B:¬ o=or:=fun h=>n2 h.symm;have n3:¬ j=o:=h3;have E:¬ o=j:=fun h=>n3 h.symm;simp only[go_sem,EO];refine wp_loop (α:=List Nat) (fun P=>rFr o w j lq or n s P.length) (fun P=>((PH.nil.set o (.rows 1 (aL U))).set j (.rows 1 (aL Q))).set or (.rows 1 (aL (P++aTK (n-P.length) 0)))) (fun P=>P.length≤n∧P=eF P.length (val U/2 ^ s)) (fun P=>n-P.length) []
  ⟨by simp,rfl⟩ ?_ ?_ ?_
 ·unfold rFr;exact Lq
 ·refine e_ (e_ (e_ a_ ?_) ?_) ?_<;>simp only[go_sem,n1,A,n2,B,n3,E,aVR]
 rintro P ⟨hP,hD⟩;simp only[go_sem,EE,WC,rFr];by_cases c1:P.length<n
 ·have u:(P.length:Int)<(n:Nat):=Om;obtain⟨k,hk⟩:∃ k,n-P.length=k+1:=⟨n-P.length-1,by omega⟩;have β:(aL (P++aTK (k+1) 0))[P.length]?=some [.int .u32 ((0:Nat):Int)]:=by rw[bT _ (by simp)]; simp
  have V:P.length<U.length:=Om;have a1:P.length+1<U.length:=Om;have b0:(P.length:Int)<(w:Nat):=Om;have b1:((P.length+1:Nat):Int)<(w:Nat):=Om;have η:=Z _ (aTN V);have θ:=Z _ (aTN a1);have e:val U/4294967296 ^ P.length=U[P.length]+4294967296*(U[P.length+1]+4294967296*val (U.drop (P.length+2))):=by rw[← wD Z Om,aVV V,aVV a1];rfl
  have N:=XA hs e;have g0:=bT U V;have g1:=bT U a1;generalize ι:U[P.length]=y at *
  generalize κ:U[P.length+1]=l at *
  have e1:IntKind.i64.wrap ((P.length:Int)+1)=((P.length+1:Nat):Int):=dM Om;have X:IntKind.u64.wrap ((y:Nat):Int)=((y:Nat):Int):=bD Om;have Y:IntKind.u64.wrap ((l:Nat):Int)=((l:Nat):Int):=bD Om;have J:shift .shl .u64 (l:Int) 32=some (.int .u64 ((2 ^ 32*l:Nat):Int)):=LT (s:=32) Om Om;have W:(2:Nat) ^ 32=4294967296:=by decide
  have I:=orI (a:=2 ^ 32*l) (b:=y) (n:=2 ^ 32*l+y) Om Om (Nat.two_pow_add_eq_or_of_lt Om l).symm Om;rw[W] at J I;have M:=aJY (x:=4294967296*l+y) (s:=s) Om;have S:(aL (P++aTK (k+1) 0)).set P.length [.int .u32 (((4294967296*l+y)/2 ^ s%4294967296:Nat):Int)]=aL ((P++[(4294967296*l+y)/2 ^ s%4294967296])++aTK k 0):=by rw[gD,AF]
  simp only[go_sem,u,WD];refine bC .nil cX a_ ?_;simp only[go_sem,WE,u,e1,b0,b1,B,E,g0,g1,X,Y,J,I,M,cU,hk,β,S];refine⟨a_,?_⟩;simp only[go_sem,WF,e1];refine aH (P++[(4294967296*l+y)/2 ^ s%4294967296]) ⟨by simp; omega,?_⟩ (by simp; omega) ?_ (e_ (e_ (e_ a_ ?_) ?_) ?_)
  ·rw[aTM,aTT,xB,← hD,N]
  ·rw[aTM,aTT];exact Lq
  ·simp only[go_sem,B,E]
  ·simp only[go_sem,A]
  ·rw[aTM,aTT,show n-(P.length+1)=k by omega];simp only[go_sem]
 ·have e:P.length=n:=Om;have u:¬ (P.length:Int)<(n:Nat):=Om;have R:aTK (n-P.length) 0=[]:=by rw[show n-P.length=0 by omega]; rfl
  rw[e] at hD;simp only[go_sem,u,R,aVC];refine hK or _ _ n2 n1 ?_ (by simp only[go_sem,A]) (by simp only[go_sem]; rw[← hD]);unfold rFr;rw[e];exact Lq
structure Eo (C:Ctx):Prop where
 L:rT C
 D:Dy C
 up:∀ (a:List Nat) (s:Nat),Lim a→s<32→a.length≤1000→aG C 143 [aK a,.int .u64 s] .nil (upR a s)
 short:∀ (a:List Nat) (d:Nat),Lim a→0<d→d<4294967296→a.length≤1000→aG C 140 [aK a,.int .u32 d] .nil (aI (.tup [aK (aJ (val a/d)),.int .u32 ((val a%d:Nat):Int)]))
 lengthO:∀ (xs:List Nat) (o:Nat),Lim xs→xs.length≤35184372087808→aG C 138 [.osl o 1 0 xs.length] (PH.nil.set o (.rows 1 (aL xs))) (fun r H'=>r=.int .i64 (nl (val xs):Nat)∧H'=PH.nil.set o (.rows 1 (aL xs)))
def atS:Spec:=fun name vs=>match name,vs with
 | 143,[x,.int _ s]=>some ([],fun _=>upR (jY x) s.toNat)
 | 138,[.osl q _ _ _]=>some ([q],fun e r H'=>H'=e∧∀ xs,Lim xs→e q=some (.rows 1 (aL xs))→r=.int .i64 (nl (val xs):Nat))
 | _,_=>none
theorem Vh (a:List Nat) (s:Nat):atS 143 [aK a,.int .u64 s]=some ([],fun _=>upR a s):=by
 show some _=_; rw[eS,aWN]
theorem Rv (a:List Nat) (s:Nat):∀ G:PH,∃ r H',upR a s r H'∧lS G .nil H':=fun G=>by
 obtain⟨o,l⟩:=G.fresh;refine⟨_,_,⟨o,rfl,rfl⟩,fun q x j _=>?_⟩;rw[aT] at j;split at j
 ·rename_i e; subst e; exact l
 ·cases j
theorem RH {xs e:List Nat} (h:aL xs=aL e):xs=e:=by
 have:=congrArg jY (show aK xs=aK e by show PV.sl 1 (aL xs)=PV.sl 1 (aL e); rw[h])
 rwa [eS,eS] at this
theorem Aw (q:Nat) (L:List Nat):(PH.nil.set q (.rows 1 (aL L)))=(PH.nil.set q (.rows 1 (aL L)))∧∀ xs,Lim xs→(PH.nil.set q (.rows 1 (aL L))) q=some (.rows 1 (aL xs))→(PV.int .i64 (nl (val L):Nat))=.int .i64 (nl (val xs):Nat):=by
 refine⟨rfl,fun xs j e=>?_⟩;rw[cL] at e;have:aL L=aL xs:=(bO.rows.inj (aVU.inj e)).2;rw[RH this]
def rJ (A B:Nat):PV:=.tup [aK (aJ (A/B)),aK (aJ (A%B))]
def aiT (a b:List Nat) (s:Nat):PF:=(((PF.nil.set 0 (aK a)).set 1 (aK b)).set 8 (.int .u64 s))
theorem aGQ {x s:Nat} (e:s≤31) (h:x*2 ^ s<4294967296):shift .shl .u32 (x:Int) (s:Int)=some (.int .u32 ((x*2 ^ s:Nat):Int)):=by
 unfold shift;rw[if_neg Om];simp only;have:min (Int.toNat (s:Int)) IntKind.u32.bits=s:=by rw[show IntKind.u32.bits=32 from rfl]; omega
 rw[this,show (x:Int)*2 ^ s=((x*2 ^ s:Nat):Int) by simp,cU,aUZ h]
theorem Tb {n i x:Nat} (e:(aTK n 0)[i]?=some x):x=0:=by
 have:=aVH e;rw[List.mem_replicate] at this;exact this.2
theorem aiV {C:Ctx} (K:Eo C) (A B:Nat) (hB:B≠0) (hA:nl A≤900) (k':nl B≤900) :
  BD.wp C (aR tu.res (cB (rJ A B))) (PF.args [aK (aJ A),aK (aJ B)]) .nil:=by
 have LA:=aU A;have LB:=aU B;have vA:=aS A;have vB:=aS B;have lA:(aJ A).length=nl A:=rfl;have lB:(aJ B).length=nl B:=rfl;simp only[go_sem,BD,lz,l3,tu];refine aA (K.L.cmp _ _ LA LB Om Om) rfl ?_;rw[vA,vB];by_cases c1:A<B
 ·have hc:dU A B<0:=by simp[dU,c1]
  simp only[go_sem,hc,l4];refine aA (K.L.trim _ LA Om) rfl ?_;rw[vA];simp only[go_sem];refine aV (vs:=[.aB,aK (aJ A)]) (.inr rfl) .nil rfl a_ ⟨?_,rfl⟩;rw[rJ,aWQ c1,aUZ c1,gE];refine .tup rfl fun j p q hp hq=>?_
  match j with
  | 0=>simp at hp hq; subst hp; subst hq; exact .nil 1
  | 1=>simp at hp hq; subst hp; subst hq; exact .refl _
  | j+2=>simp at hp
 have hc:¬ dU A B<0:=by unfold dU;rw[if_neg c1];split<;>decide
 have W:0<B:=aWD hB;have n':nl B≠0:=fun h=>hB (jL.1 h);simp only[go_sem,hc,l5];by_cases c2:nl B=1
 ·have ε:B<4294967296:=by have:=(jU B 1).1 Om; simpa using this
  have Ψ:aJ B=[B]:=pF hB ε;have hr:A%B<B:=aVF _ W;have ew:IntKind.u64.wrap ((A%B:Nat):Int)=((A%B:Nat):Int):=bD Om;rw[Ψ];have ρ:=K.short (aJ A) B LA W ε Om;rw[vA] at ρ;simp only[go_sem,show (((1:Nat):Int)==1)=true from rfl,l6];refine aA ρ rfl ?_;simp only[go_sem,l7,ew];refine aA (K.L.make (A%B) Om) rfl ?_;simp only[go_sem];exact aV (vs:=[aK (aJ (A/B)),aK (aJ (A%B))]) (.inr rfl) .nil rfl a_ ⟨.refl _,rfl⟩
 obtain⟨m,hm⟩:∃ m,nl B=m+2:=⟨nl B-2,by omega⟩;have j':nl B≤nl A:=gT Om;obtain⟨bt,y,g'⟩:=Qn LB (n:=m+1) (by rw[vB]; exact hm);have O:m+1<(aJ B).length:=Om;have μ:bt<4294967296:=LB bt (aVH y);have l':B=val ((aJ B).take (m+1))+4294967296 ^ (m+1)*bt:=by have u:=cM (aJ B) O;rw[aUB Om,vB] at u;rw[aTP O] at y;rw[aVU.inj y] at u;exact u
 have X:=fP (LB.take (m+1));rw[aUA,aVT Om] at X;have ο:(aL (aJ B))[m+1]?=some [.int .u32 ((bt:Nat):Int)]:=by rw[bT _ O];rw[aTP O] at y;rw[aVU.inj y]
 have i1:IntKind.i64.wrap ((((aJ B).length:Nat):Int)-1)=((m+1:Nat):Int):=by rw[wrap_i64 Om Om]; omega
 have ν:¬ (((aJ B).length:Nat):Int)=1:=Om;simp only[go_sem,bE ν,l8];refine wp_loop (α:=Nat) (fun s=>aiT (aJ A) (aJ B) s) (fun _=>.nil) (fun s=>s≤31∧bt*2 ^ s<4294967296) (fun s=>32-s) 0 ⟨by omega,by simpa using μ⟩ ?_ a_ ?_
 ·unfold aiT;exact Lq
 rintro s ⟨hs,Ξ⟩;have χ:=aGQ hs Ξ;simp only[go_sem,ln,l9,aiT,i1,ο,χ];refine atL ?_ ?_
 ·intro c3;have φ:=of_decide_eq_true c3;have h':s<31:=by
   rcases aUE s 31 with h | h
   ·exact h
   ·exfalso;have u:2147483648≤2 ^ s:=Nat.pow_le_pow_right (show 0<2 by decide) h;have M:1*2 ^ s≤bt*2 ^ s:=aUM _ Om;omega
  have es:IntKind.u64.wrap ((s:Int)+1)=((s+1:Nat):Int):=by rw[wrap_u64 Om Om]; omega
  simp only[go_sem,ma,es];refine aH (s+1) ⟨by omega,by rw[aVL,← aUI]; omega⟩ Om ?_ a_;exact Lq
 intro c3;have φ:=of_decide_eq_false c3;have F:s<32:=Om;have E:0<2 ^ s:=aWJ (by decide);have V:2147483648*4294967296 ^ (m+1)≤B*2 ^ s:=by
  have u:2147483648*4294967296 ^ (m+1)≤(bt*2 ^ s)*4294967296 ^ (m+1):=aUM _ Om;have M:(4294967296 ^ (m+1)*bt)*2 ^ s≤B*2 ^ s:=aUM _ Om;have h3:(4294967296 ^ (m+1)*bt)*2 ^ s=(bt*2 ^ s)*4294967296 ^ (m+1):=by rw[aUI,aUL]
  omega
 have κ:B*2 ^ s<4294967296 ^ (m+2):=by
  have h0:(bt+1)*2 ^ s≤4294967296:=by
   have i':(4294967296:Nat)=2 ^ (32-s)*2 ^ s:=by rw[← Nat.pow_add,show 32-s+s=32 by omega]
   have:bt<2 ^ (32-s):=by
    rcases aUE bt (2 ^ (32-s)) with h | h
    ·exact h
    ·have:=aUM (2 ^ s) h;omega
   have:=aUM (2 ^ s) (show bt+1≤2 ^ (32-s) from this);omega
  have u:B<(bt+1)*4294967296 ^ (m+1):=by rw[aUT,Nat.one_mul,aUL bt]; omega
  have M:B*2 ^ s<(bt+1)*4294967296 ^ (m+1)*2 ^ s:=Nat.mul_lt_mul_of_pos_right u E;have h3:(bt+1)*4294967296 ^ (m+1)*2 ^ s=(bt+1)*2 ^ s*4294967296 ^ (m+1):=Nat.mul_right_comm _ _ _;have h4:(bt+1)*2 ^ s*4294967296 ^ (m+1)≤4294967296*4294967296 ^ (m+1):=aUM _ h0;have h5:4294967296 ^ (m+2)=4294967296*4294967296 ^ (m+1):=by rw[aVL,aUL]
  omega
 have U:A<4294967296 ^ nl A:=(jU A _).1 (aTO _);simp only[go_sem];refine bC .nil atS a_ ?_;simp only[go_sem,VU];have ua:=K.up (aJ A) s LA F Om;have ub:=K.up (aJ B) s LB F Om;refine Vg (Vh (aJ A) s) ua rfl (Rv _ _) ?_;rintro r H' ⟨o,rfl,rfl⟩ -;rw[PH.qG,lA,vA];refine⟨a_,?_⟩;simp only[go_sem];refine Vg (Vh (aJ B) s) ub rfl (Rv _ _) ?_;rintro r H' ⟨o2,rfl,rfl⟩ Λ;rw[PH.qG,lB,vB,hm];refine⟨a_,?_⟩;have Φ:=Λ o2 _ (by rw[aT,if_pos rfl]) (by rfl);have τ:¬ o2=o:=(jR.1 Φ).1;have e':¬ o=o2:=fun h=>τ h.symm;have k1:((m+2:Nat):Int)≤((m+2+1:Nat):Int):=Om;have k2:IntKind.i64.wrap (((nl A+1:Nat):Int)-((m+2:Nat):Int))=((nl A+1-(m+2):Nat):Int):=by rw[wrap_i64 Om Om]; omega
 obtain⟨e,Ω⟩:∃ e,nl A+1-(m+2)=e:=⟨_,rfl⟩;have a':nl A+1=e+(m+2):=Om;rw[Ω] at k2;have k3:((e:Nat):Int)*((4:Nat):Int)≤140737488355328:=Om;have k4:((e:Nat):Int)≤9223372036854775807:=Om;have hz:aTK e [PV.int .u32 0]=aL (aTK e 0):=by simp[aL]
 have k5:m+2-0=m+2:=Om;simp only[go_sem,lB,hm,k1,k5,VV,VW,k2,k3,k4,hz];refine aO fun J ξ=>?_;have q2:¬ J=o2:=(jR.1 ξ).1;have q1:¬ J=o:=(jR.1 (jR.1 ξ).2).1;have υ:¬ o2=J:=fun h=>q2 h.symm;have f':¬ o=J:=fun h=>q1 h.symm;have b':eF (m+2+1) (B*2 ^ s)=eF (m+2) (B*2 ^ s)++[B*2 ^ s/4294967296 ^ (m+2)%4294967296]:=xB _ _;have Lv:=nH (m+2) (B*2 ^ s);have lv:=mJ (m+2) (B*2 ^ s);have vv:val (eF (m+2) (B*2 ^ s))=B*2 ^ s:=pM κ;have σ:(aL (eF (m+2+1) (B*2 ^ s))).take (m+2)=aL (eF (m+2) (B*2 ^ s)):=by unfold aL;rw[← List.map_take,b',List.take_append_of_le_length Om,aUB Om]
 generalize q':eF (m+2) (B*2 ^ s)=v at *
 have r':(eF (m+2+1) (B*2 ^ s)).length=m+2+1:=mJ _ _;have S:∀ i (h:i<v.length),(aL (eF (m+2+1) (B*2 ^ s)))[i]?=some [.int .u32 ((v[i]:Nat):Int)]:=by intro i h;have u:(aL v)[i]?=some [.int .u32 ((v[i]:Nat):Int)]:=bT v h;rw[← σ,List.getElem?_take_of_lt Om] at u;exact u
 have g1:=S (m+1) Om;have g0:=S m Om;have htop:2147483648≤v[m+1]:=by
  have u:=cM v (Om:m+1<v.length);rw[aUB Om,vv] at u;have M:=fP (Lv.take (m+1));rw[aUA,aVT Om] at M;rcases aUE v[m+1] 2147483648 with h | h
  ·exfalso;have h3:4294967296 ^ (m+1)*(v[m+1]+1)≤4294967296 ^ (m+1)*2147483648:=aWC _ h;rw[aTX,Nat.mul_one] at h3;rw[aUL 2147483648] at V;omega
  ·exact h
 have p':=Lv _ (aTN (Om:m+1<v.length));have o':=Lv _ (aTN (Om:m<v.length));have w1:IntKind.u64.wrap ((v[m+1]:Nat):Int)=((v[m+1]:Nat):Int):=bD Om;have w0:IntKind.u64.wrap ((v[m]:Nat):Int)=((v[m]:Nat):Int):=bD Om;have j1:IntKind.i64.wrap (((m+2:Nat):Int)-1)=((m+1:Nat):Int):=by rw[wrap_i64 Om Om]; omega
 have j0:IntKind.i64.wrap (((m+2:Nat):Int)-2)=((m:Nat):Int):=by rw[wrap_i64 Om Om]; omega
 have d1:((m+1:Nat):Int)<((m+2:Nat):Int):=Om;have d0:((m:Nat):Int)<((m+2:Nat):Int):=Om;have jq:IntKind.i64.wrap ((e:Int)-1)=(e:Int)-1:=wrap_i64 Om Om;simp only[go_sem];refine bC .nil cX a_ ?_;simp only[go_sem,VX,j1,j0,d1,d0,υ,g1,g0,w1,w0,VY,jq];have ι:A*2 ^ s<4294967296 ^ (nl A+1):=by
  have h0:2 ^ s≤4294967296:=by have:(2:Nat) ^ s≤2 ^ 32:=Nat.pow_le_pow_right (by decide) Om;simpa using this
  have u:A*2 ^ s<4294967296 ^ nl A*2 ^ s:=Nat.mul_lt_mul_of_pos_right U E;have M:4294967296 ^ nl A*2 ^ s≤4294967296 ^ nl A*4294967296:=aWC _ h0;rw[aVL]; omega
 have LU:=nH (nl A+1) (A*2 ^ s);have lU:=mJ (nl A+1) (A*2 ^ s);have vU:val (eF (nl A+1) (A*2 ^ s))=A*2 ^ s:=pM ι;have hI:pT (A*2 ^ s) (val v) (m+2) (nl A+1) e e (eF (nl A+1) (A*2 ^ s)) (aTK e 0):=by
  refine⟨lU,aXI,LU,xG _,by rw[vU,tH]; omega,?_,fun i x _ hx=>Tb hx⟩
  ·rw[wD LU Om,vU,vv,aWS (aWJ (by decide))];have u:A*2 ^ s<4294967296 ^ nl A*2 ^ s:=Nat.mul_lt_mul_of_pos_right U E;have hx:nl A=m+1+e:=Om;have M:4294967296 ^ nl A=4294967296 ^ (m+1)*4294967296 ^ e:=by rw[hx,Nat.pow_add]
   have h3:2 ^ s≤2147483648:=by have:(2:Nat) ^ s≤2 ^ 31:=Nat.pow_le_pow_right (by decide) hs;simpa using this
   have h4:4294967296 ^ nl A*2 ^ s≤(2147483648*4294967296 ^ (m+1))*4294967296 ^ e:=by rw[M,aUL (4294967296 ^ (m+1)*4294967296 ^ e),← aUI];exact aUM _ (aUM _ h3)
   have h5:(2147483648*4294967296 ^ (m+1))*4294967296 ^ e≤B*2 ^ s*4294967296 ^ e:=aUM _ V;omega
 have β:=Nk (C:=C) K.D (A*2 ^ s) m (nl A+1) e o o2 J s v (eF (m+2+1) (B*2 ^ s)) τ q1 q2 Lv lv σ Om htop a' Om _ hI;simp only[go_sem] at β;refine β _ _ _ ?_ (by simp only[go_sem,e',f']) (by simp only[go_sem,υ]) Sq ?_
 ·unfold dI;exact Lq
 clear β;intro U' w F' l N;have hu:val U'<val v:=by have:=l.r; rwa [aUV] at this
 have Z:=l.v;rw[vv] at hu Z;have Θ:0<B*2 ^ s:=Om;have Γ:val w=A/B:=by
  have:A*2 ^ s/(B*2 ^ s)=val w:=by rw[← Z,Nat.add_mul_div_right _ _ Θ,aWQ hu,aUF]
  rw[← this,Nat.mul_div_mul_right _ _ E]
 have Δ:val U'/2 ^ s=A%B:=by
  have:A*2 ^ s%(B*2 ^ s)=val U':=by rw[← Z,Nat.add_mul_mod_self_right,aUZ hu]
  rw[← this,Nat.mul_mod_mul_right,Nat.mul_div_cancel _ E]
 have g8:=N 8 _ (by unfold dI; simp only[go_sem]; rfl);have g9:=N 9 _ (by unfold dI; simp only[go_sem]; rfl);have ψ:=N 11 _ (by unfold dI; simp only[go_sem]; rfl);have ω:=N 12 _ (by unfold dI; simp only[go_sem]; rfl);have I:=Nl (C:=C) o (nl A+1) J e (m+2) s U' w F q1 l.limU l.lu' Om Om;simp only[go_sem] at I;simp only[go_sem];refine I _ _ g8 g9 ψ ω ?_;clear I;intro or F2 H2 r1 r2 ζ η Y;rw[Δ] at Y;have c':=ζ 12 _ (by unfold rFr; simp only[go_sem]; rfl);have d':=ζ 19 _ (by unfold rFr; simp only[go_sem]; rfl);have θ:A%B<4294967296 ^ (m+2):=by have u:A%B<B:=aVF _ W;have M:B<4294967296 ^ nl B:=(jU B _).1 (aTO _);rw[hm] at M; omega
 have LR:=nH (m+2) (A%B);have lR:=mJ (m+2) (A%B);have vR:val (eF (m+2) (A%B))=A%B:=pM θ;have nQ:=fZ l.limQ;have nR:=fZ LR;have e1:=l.lq';generalize m':eF (m+2) (A%B)=R at *
 simp only[go_sem];refine bC .nil atS a_ ?_;simp only[go_sem,WG,c'];have γ:=K.lengthO w J l.limQ Om;rw[e1] at γ;have δ:=K.lengthO R or LR Om;rw[lR] at δ;refine HV (o:=J) (x:=.rows 1 (aL w)) (v:=.int .i64 (nl (val w):Nat)) rfl η γ (Aw J w) (fun r H' hr=>⟨hr.2 w l.limQ (by rw[cL]),hr.1⟩) rfl a_ ?_;have c4:((nl (val w):Nat):Int)≤(e:Nat):=Om;simp only[go_sem,c4,d',Nat.sub_zero];refine HV (o:=or) (x:=.rows 1 (aL R)) (v:=.int .i64 (nl (val R):Nat)) rfl Y δ (Aw or R) (fun r H' hr=>⟨hr.2 R LR (by rw[cL]),hr.1⟩) rfl a_ ?_;have c5:((nl (val R):Nat):Int)≤((m+2:Nat):Int):=Om;simp only[go_sem,c5];refine aqG (o1:=J) (o2:=or) (s1:=1) (s2:=1) (k1:=nl (val w)) (k2:=nl (val R)) (rs1:=aL w) (rs2:=aL R) (.inr rfl) (fun h=>r2 h.symm) rfl rfl η Y (by rw[cF]; exact nQ) (by rw[cF]; exact nR) (sX _ _ _ _) rfl ⟨?_,rfl⟩;have t1:(aL w).take (nl (val w))=aL (aJ (A/B)):=by have:=kA l.limQ;rw[Γ] at this ⊢;exact this
 have t2:(aL R).take (nl (val R))=aL (aJ (A%B)):=by have:=kA LR;rw[vR] at this ⊢;exact this
 rw[t1,t2];exact .refl _
def auU (a b:Nat):PF:=((PF.nil.set 0 (aK (aJ a))).set 1 (aK (aJ b)))
theorem aFR {C:Ctx} (L:rT C) (e:∀ A B:Nat,B≠0→nl A≤900→nl B≤900→aG C 136 [aK (aJ A),aK (aJ B)] .nil (aI (rJ A B))) (a b:List Nat) (E:Lim a) (hb:Lim b) (I:a.length≤35184372087808) (J:b.length≤35184372087808) :
  RD.wp C (aR axI.res (cB (if eI (val a) (val b) then .tup [aK [],.int .i64 2] else .tup [aK (aJ (aTL (val a) (val b))),.int .i64 0]))) (PF.args [aK a,aK b]) .nil:=by
 simp only[go_sem,RD,aaG,aaH,axI];refine aA (L.large a E I) rfl ?_;by_cases j:nl (val a)>512
 ·simp only[go_sem,j,t7];rw[if_pos (by simp[eI,j])];exact fF rfl
 simp only[go_sem,j];refine aA (L.large b hb J) rfl ?_;by_cases l:nl (val b)>512
 ·simp only[go_sem,l,t7];rw[if_pos (by simp[eI,l])];exact fF rfl
 rw[if_neg (by simp[eI,j,l])];simp only[go_sem,l,aaI];refine aA (L.trim a E I) rfl ?_;simp only[go_sem];refine aA (L.trim b hb J) rfl ?_;simp only[go_sem];refine wp_loop (α:=Nat × Nat) (fun t=>auU t.1 t.2) (fun _=>.nil) (fun t=>aTL t.1 t.2=aTL (val a) (val b)∧nl t.1≤512∧nl t.2≤512) (fun t=>t.2) (val a,val b) ⟨rfl,by simp only; omega,by simp only; omega⟩ ?_ a_ ?_
 ·unfold auU;exact Lq
 rintro⟨x,y⟩ ⟨w,K,F⟩;simp only at w K F;simp only[go_sem,aaF,aaJ,auU,aY];by_cases u:y=0
 ·subst u;have:¬ ((nl 0:Nat):Int)>0:=by rw[AD]; decide
  simp only[go_sem,this,aaM];refine aV (vs:=[aK (aJ x),.int .i64 0]) (.inr rfl) .nil rfl a_ ⟨?_,rfl⟩;rw[← w,Nat.gcd_zero_right];exact .refl _
 ·have M:nl y≠0:=fun h=>u (jL.1 h);have:((nl y:Nat):Int)>0:=Om;simp only[go_sem,this,aaK];refine aA (e x y u Om Om) rfl ?_;simp only[go_sem,rJ,aaL];have hlt:x%y<y:=aVF _ (aWD u);refine aH (y,x%y) ⟨?_,F,?_⟩ hlt ?_ a_
  ·simp only;rw[← w,Nat.gcd_comm y,← Nat.gcd_rec y x,Nat.gcd_comm]
  ·have:=gT (Nat.le_of_lt hlt);simp only; omega
  ·exact Lq
def nP (A B:Nat):PV:=if eI A B then .tup [aK [],aK [],.int .i64 2] else if B=0 then .tup [aK [],aK [],.int .i64 3] else .tup [aK (aJ (A/B)),aK (aJ (A%B)),.int .i64 0]
def aiU:Spec:=fun name vs=>match name,vs with
 | 138,[x]=>some ([],fun _=>aI (.int .i64 (nl (val (jY x)):Nat)))
 | 136,[x,y]=>some ([],fun _=>aI (rJ (val (jY x)) (val (jY y))))
 | _,_=>none
theorem QZ (xs:List Nat):aiU 138 [aK xs]=some ([],fun _=>aI (.int .i64 (nl (val xs):Nat))):=by
 show some _=_; rw[eS]
theorem Nj (A B:Nat):aiU 136 [aK (aJ A),aK (aJ B)]=some ([],fun _=>aI (rJ A B)):=by
 show some _=_; rw[eS,eS,aS,aS]
theorem tB {res:List dY} {F:PF} {H:PH} {e:Int} (h:dY.evs F H res=some [.aB,.aB,.int .i64 e]):aR res (cB (.tup [aK [],aK [],.int .i64 e])) .ret F H:=by
 refine aV (.inr rfl) .nil h a_ ⟨?_,rfl⟩;refine .tup rfl fun j p q l hq=>?_
 match j with
 | 0=>simp at l hq; subst l; subst hq; exact .nil 1
 | 1=>simp at l hq; subst l; subst hq; exact .nil 1
 | 2=>simp at l hq; subst l; subst hq; exact .refl _
 | j+3=>simp at l
theorem aFJ {C:Ctx} (L:rT C) (l:∀ A B:Nat,B≠0→nl A≤900→nl B≤900→aG C 136 [aK (aJ A),aK (aJ B)] .nil (aI (rJ A B))) (a b:List Nat) (w:Lim a) (hb:Lim b) (F:a.length≤35184372087808) (E:b.length≤35184372087808) :
  RA.wp C (aR axE.res (cB (nP (val a) (val b)))) (PF.args [aK a,aK b]) .nil:=by
 simp only[go_sem,RA,Z3,Z4,axE];refine aA (L.large a w F) rfl ?_;by_cases e:nl (val a)>512
 ·simp only[go_sem,e,tt];rw[show nP (val a) (val b)=.tup [aK [],aK [],.int .i64 2] by simp[nP,eI,e]];exact tB rfl
 simp only[go_sem,e];refine aA (L.large b hb E) rfl ?_;by_cases u:nl (val b)>512
 ·simp only[go_sem,u,tt];rw[show nP (val a) (val b)=.tup [aK [],aK [],.int .i64 2] by simp[nP,eI,u]];exact tB rfl
 simp only[go_sem,u,Z5];refine aA (L.length b hb E) rfl ?_;by_cases j:val b=0
 ·have:((nl (val b):Nat):Int)=0:=by rw[j,AD]; rfl
  simp only[go_sem,bP this,Z6];rw[show nP (val a) (val b)=.tup [aK [],aK [],.int .i64 3] by simp[nP,eI,e,j,AD]];exact tB rfl
 have I:nl (val b)≠0:=fun h=>j (jL.1 h);rw[show nP (val a) (val b)=.tup [aK (aJ (val a/val b)),aK (aJ (val a%val b)),.int .i64 0] by simp[nP,eI,e,u,j]];simp only[go_sem,bE (show ((nl (val b):Nat):Int)≠0 by omega)];refine bC .nil aiU a_ ?_;simp only[go_sem,Z7];have J:=fZ w;have K:=fZ hb;have x:((nl (val a):Nat):Int)≤(a.length:Nat):=Om;have y:((nl (val b):Nat):Int)≤(b.length:Nat):=Om;refine bX (QZ a) (L.length a w F) rfl a_ ?_;simp only[go_sem,x,or_true,aUV,kA w];refine bX (QZ b) (L.length b hb E) rfl a_ ?_;simp only[go_sem,y,or_true,aUV,kA hb];refine bX (Nj (val a) (val b)) (l _ _ j Om Om) rfl a_ ?_;simp only[go_sem,rJ,Z8];exact aV (.inr rfl) .nil rfl a_ ⟨.refl _,rfl⟩
def iu:Rg:=[iA 6 (.alloc [zB,.aB,.aB]),iI 7 0]
def iv:Rg:=[iM 11 1,iM 12 2,iK2 13 131 11 12,iM 10 13,iE 14 10 0,iE 15 10 1,iM 8 14,iM 9 15]
def iw:Rg:=[iM 16 8,iK 17 128 16,iC 18 .gtr 17 1]
def ix:Rg:=[iM 20 1,iM 21 8,iK2 22 130 20 21,iM 19 22,iE 23 19 0,iE 24 19 1,iE 25 19 2,iM 1 23]
def iy:Rg:=[iM 27 2,iM 28 8,iK2 29 130 27 28,iM 26 29,iE 30 26 0,iE 31 26 1,iE 32 26 2,iM 2 30]
def IE:Rg:=[iM 33 1,iK 34 128 33,iC 35 .gtr 34 4096,iM 36 35,gM 37 2 36 false,gK 38 128 37 36 false,gC 39 .gtr 38 4096 36 false,iQ 40 36 39]
def yG:Rg:=[iA 41 (.build [zB,.aB,.aB] []),iS 3 6 41,iI 7 2]
def IF:Rg:=[iM 42 0,iM 43 42,gM 44 1 43 true,gK 45 128 44 43 true,gC 46 .gtr 45 0 43 true,iP 47 43 46,iM 48 1,iK 49 135 48,iM 50 2,iK 51 135 50,iA 52 (.build [zB,.aB,.aB] [(0,1,(Tm 47)),(1,1,(Tm 49)),(2,1,(Tm 51))]),iS 3 6 52,iI 7 0]
def AS:aC:=(sq iu (.seq (sq iv (sq iw (.cond (Tm 18) (sq ix (.region iy)) .skip))) (.seq (sq IE (.cond (Tm 40) (sq yG .ret) .skip)) (sq IF .ret))))
def agV:List Nat:=[]
def vH:aW:=⟨3,53,AS,[.cell 6 (some 3),.tmp 7]⟩
def wu:Rg:=[iZ 4]
def ww:Rg:=[iM 8 0,iM 9 1,iK2 10 133 8 9,iM 7 10,iE 11 7 0,iE 12 7 1,iM 5 11,iM 6 12]
def wx:Rg:=[iM 13 5,iM 4 13]
def DQ:aC:=(sq wu (sq ww (sq wx .ret)))
def anF:List Nat:=[]
def Hf:aW:=⟨2,14,DQ,[.tmp 4]⟩
def Ia:Rg:=[iA 1 (.box true (Tm 0)),iT 2 false]
def Ib:Rg:=[iF 3 1 1,iL 4 3,iK 5 128 4,iC 6 .eql 5 0,iM 2 6]
def IM:aC:=(sq Ia (sq Ib .ret))
def auN:List Nat:=[1]
def ahB:aW:=⟨1,7,IM,[.tmp 2]⟩
def Gh:Rg:=[iA 4 (.alloc [zB,.aB,.aB]),iI 5 0]
def Gi:Rg:=[iM 6 1,iC 7 .eql 6 0]
def Gj:Rg:=[iA 8 (.build [zB,.aB,.aB] []),iS 3 4 8,iI 5 3]
def Gk:Rg:=[iM 9 0,iC 10 .lss 9 0,iM 11 1,iC 12 .lss 11 0,iA 13 (.eqb true (Tm 10) (Tm 12)),iM 14 0,iK 15 119 14,iM 16 1,iK 17 119 16,iA 18 (.call 120 [(Tm 13),(Tm 15),(Tm 17)]),iE 19 18 0,iE 20 18 1,iS 3 4 19,iM 5 20]
def IG:aC:=(sq Gh (.seq (sq Gi (.cond (Tm 7) (sq Gj .ret) .skip)) (sq Gk .ret)))
def auH:List Nat:=[]
def D3:aW:=⟨2,21,IG,[.cell 4 (some 3),.tmp 5]⟩
def Vm:Rg:=[iZ 2]
def Vn:Rg:=[iM 3 0,iC 4 .lss 3 0]
def Vo:Rg:=[iM 5 0,iA 6 (.conv .u64 (Tm 5)),iA 7 (.un .neg (Tm 6)),iK 8 132 7,iM 2 8]
def Vp:Rg:=[iM 9 0,iA 10 (.conv .u64 (Tm 9)),iK 11 132 10,iM 2 11]
def PK:aC:=(sq Vm (.seq (sq Vn (.cond (Tm 4) (sq Vo .ret) .skip)) (sq Vp .ret)))
def aCU:List Nat:=[]
def auA:aW:=⟨1,12,PK,[.tmp 2]⟩
def wy:Rg:=[iA 1 (.box true (Tm 0)),iT 2 false]
def wz:Rg:=[iF 4 2 1,iL 5 4,iK 6 128 5,iM 3 6]
def CF:Rg:=[iM 7 3,iC 8 .gtr 7 0,iM 9 8,gM 10 3 9 true,gC 11 .leq 10 4096 9 true,iP 12 9 11,iM 13 12,gF 14 1 1 13 true,gL 15 14 13 true,gK 16 128 15 13 true,gC 17 .leq 16 4096 13 true,iP 18 13 17,iM 2 18]
def DR:aC:=(sq wy (sq wz (sq CF .ret)))
def anH:List Nat:=[1]
def Hg:aW:=⟨1,19,DR,[.tmp 2]⟩
def jb:Rg:=[iA 1 (.box true (Tm 0)),iA 2 (.alloc [zB,.aB,.aB]),iI 3 0]
def jc:Rg:=[iO 4 3 1,iK 5 118 4,iA 6 (.un .not (Tm 5))]
def jd:Rg:=[iA 7 (.build [zB,.aB,.aB] []),iS 3 2 7,iI 3 1]
def je:Rg:=[iF 8 0 1,iL 9 8,iF 10 1 1,iL 11 10,iF 12 2 1,iL 13 12,iA 14 (.call 120 [(Tm 9),(Tm 11),(Tm 13)]),iE 15 14 0,iE 16 14 1,iS 3 2 15,iM 3 16]
def AU:aC:=(sq jb (.seq (sq jc (.cond (Tm 6) (sq jd .ret) .skip)) (sq je .ret)))
def agZ:List Nat:=[1]
def UF:aW:=⟨1,17,AU,[.cell 2 (some 3),.tmp 3]⟩
def V8:Rg:=[iA 2 (.box true (Tm 0)),iA 3 (.box true (Tm 1)),iI 4 0,iI 5 0]
def V9:Rg:=[iO 9 3 2,iK 10 118 9,iA 11 (.un .not (Tm 10)),iM 12 11,gO 13 3 3 12 false,gK 14 118 13 12 false,iG 15 (.un .not (Tm 14)) 12 false,iQ 16 12 15]
def sa:Rg:=[iI 4 0,iI 5 1]
def Wa:Rd:=[(iF 17 1 2,false),(iL 18 17,false),(iF 19 2 3,false),(iL 20 19,false),(iK2 21 121 18 20,true),(iF 22 1 3,true),(iL 23 22,true),(iF 24 2 2,true),(iL 25 24,true),(iK2 26 121 23 25,true),(iK2 27 129 21 26,true),(iM 6 27,false)]
def Wb:Rd:=[(iF 28 0 2,false),(iL 29 28,false),(iM 30 29,false),(gO 31 3 2 30 true,false),(gK 32 122 31 30 true,true),(iG 33 (.un .not (Tm 32)) 30 true,true),(iP 34 30 33,true),(iF 35 0 3,true),(iL 36 35,true),(iM 37 36,false),(gO 38 3 3 37 true,false),(gK 39 122 38 37 true,true),(iG 40 (.un .not (Tm 39)) 37 true,false),(iP 41 37 40,false),(iM 7 34,false),(iM 8 41,false)]
def zS:Rg:=[iM 43 7,iM 44 43,gM 45 8 44 true,iP 46 44 45,iM 42 46]
def sb:Rg:=[iM 47 6,iA 48 (.un .neg (Tm 47)),iM 4 48,iI 5 0]
def GN:Rg:=[iM 50 7,iM 49 50]
def sd:Rg:=[iI 4 (-1),iI 5 0]
def UE:Rg:=[iM 52 8,iM 51 52]
def YO:Rg:=[iI 4 1,iI 5 0]
def YP:Rg:=[iM 53 6,iM 4 53,iI 5 0]
def PO:aC:=(sq V8 (.seq (sq V9 (.cond (Tm 16) (sq sa .ret) .skip)) (dq Wa (dq Wb (.seq (.block 0 (sq zS (.cond (Tm 42) (sq sb .ret) (sq GN (.cond (Tm 49) (sq sd .ret) (sq UE (.cond (Tm 51) (sq YO .ret) .skip))))))) (sq YP .ret))))))
def aDA:List Nat:=[2,3]
def auC:aW:=⟨2,54,PO,[.tmp 4,.tmp 5]⟩
def Vq:Rg:=[iA 2 (.box true (Tm 0)),iA 3 (.box true (Tm 1)),iA 4 (.alloc [zB,.aB,.aB]),iI 5 0]
def Vs:Rg:=[iO 15 3 2,iK 16 118 15,iA 17 (.un .not (Tm 16)),iM 18 17,gO 19 3 3 18 false,gK 20 118 19 18 false,iG 21 (.un .not (Tm 20)) 18 false,iQ 22 18 21]
def r9:Rg:=[iA 23 (.build [zB,.aB,.aB] []),iS 3 4 23,iI 5 1]
def Vt:Rd:=[(iF 24 1 2,false),(iL 25 24,false),(iF 26 2 3,false),(iL 27 26,false),(iK2 28 121 25 27,true),(iF 29 1 3,true),(iL 30 29,true),(iF 31 2 2,true),(iL 32 31,true),(iK2 33 121 30 32,true),(iF 34 2 2,true),(iL 35 34,true),(iF 36 2 3,true),(iL 37 36,true),(iK2 38 121 35 37,true),(iM 6 28,false),(iM 7 33,false),(iM 8 38,false)]
def Vu:Rg:=[iF 39 0 2,iL 40 39,iF 41 0 3,iL 42 41,iA 43 (.eqb false (Tm 40) (Tm 42))]
def Vv:Rg:=[iM 45 6,iM 46 7,iK2 47 127 45 46,iM 44 47,iE 48 44 0,iE 49 44 1,iM 9 48,iM 10 49]
def Vw:Rg:=[iF 50 0 2,iL 51 50,iM 52 9,iM 53 8,iA 54 (.call 120 [(Tm 51),(Tm 52),(Tm 53)]),iE 55 54 0,iE 56 54 1,iS 3 4 55,iM 5 56]
def Vx:Rg:=[iM 57 6,iM 58 7,iK2 59 129 57 58,iC 60 .geq 59 0]
def Vy:Rg:=[iM 62 6,iM 63 7,iK2 64 134 62 63,iM 61 64,iE 65 61 0,iE 66 61 1,iM 11 65,iM 12 66]
def Vz:Rg:=[iF 67 0 2,iL 68 67,iM 69 11,iM 70 8,iA 71 (.call 120 [(Tm 68),(Tm 69),(Tm 70)]),iE 72 71 0,iE 73 71 1,iS 3 4 72,iM 5 73]
def Fu:Rg:=[iM 75 7,iM 76 6,iK2 77 134 75 76,iM 74 77,iE 78 74 0,iE 79 74 1,iM 13 78,iM 14 79]
def Fv:Rg:=[iF 80 0 3,iL 81 80,iM 82 13,iM 83 8,iA 84 (.call 120 [(Tm 81),(Tm 82),(Tm 83)]),iE 85 84 0,iE 86 84 1,iS 3 4 85,iM 5 86]
def PL:aC:=(sq Vq (.seq (sq Vs (.cond (Tm 22) (sq r9 .ret) .skip)) (dq Vt (.seq (sq Vu (.cond (Tm 43) (sq Vv (sq Vw .ret)) .skip)) (.seq (sq Vx (.cond (Tm 60) (sq Vy (sq Vz .ret)) .skip)) (sq Fu (sq Fv .ret)))))))
def aCW:List Nat:=[2,3]
def r8:aW:=⟨2,87,PL,[.cell 4 (some 3),.tmp 5]⟩
def Wv:Rg:=[iA 2 (.alloc [zB,.aB,.aB]),iI 3 0]
def Ww:Rg:=[iA 9 (.call 132 [(.const (.int .u64 1))]),iA 10 (.build [zB,.aB,.aB] [(2,1,(Tm 9))]),iA 4 (.alloc [zB,.aB,.aB]),iS 3 4 10]
def Wx:Rg:=[iM 11 0,iN 12 11,iI 13 0]
def Wy:Rg:=[iB 14 .lss 13 12]
def Wz:Rg:=[iX 15 3 11 13,iO 16 3 15,iA 6 (.alloc [zB,.aB,.aB]),iS 3 6 16]
def W0:Rg:=[iO 18 3 4,iO 19 3 6,iK2 20 113 18 19,iM 17 20,iE 21 17 0,iE 22 17 1,iA 7 (.alloc [zB,.aB,.aB]),iS 3 7 21,iM 8 22]
def sk:Rg:=[iM 23 8,iC 24 .neq 23 0]
def W1:Rg:=[iA 25 (.build [zB,.aB,.aB] []),iM 26 8,iS 3 2 25,iM 3 26]
def W2:Rg:=[iO 27 3 7,iS 3 4 27]
def W3:Rg:=[iC 28 .add 13 1,iM 13 28]
def He:aC:=(sq Wy (.seq (.cond (Tm 14) .skip (.exit 0)) (.seq (.block 1 (sq Wz (sq W0 (.seq (sq sk (.cond (Tm 24) (sq W1 .ret) .skip)) (.region W2))))) (.region W3))))
def ZC:Rg:=[iO 29 3 4,iS 3 2 29,iI 3 0]
def PW:aC:=(sq Wv (sq Ww (.seq (sq Wx (.block 0 (.loop He))) (sq ZC .ret))))
def aDK:List Nat:=[]
def Hd:aW:=⟨1,30,PW,[.cell 2 (some 3),.tmp 3]⟩
theorem CoL.nil:CoL [] []:=.refl _
theorem CoL.cons {p q:PV} {ps u:List PV} (h:Co p q) (l:CoL ps u):CoL (p::ps) (q::u) :=
 ⟨by simp[l.len],fun j a b e hb=>by
  cases j with
  | zero=>simp at e hb; subst e; subst hb; exact h
  | succ j=>exact l.at_ j a b (by simpa using e) (by simpa using hb)⟩
theorem CoL.agg {ps e:List PV} (h:CoL ps e):Co (.agg ps) (.agg e):=.agg h.len h.at_
theorem CoL.tup {ps e:List PV} (h:CoL ps e):Co (.tup ps) (.tup e):=.tup h.len h.at_
structure tQ (C:Ctx):Prop extends rT C where
 bits:∀ xs,Lim xs→xs.length≤35184372087808→aG C 128 [aK xs] .nil (aI (.int .i64 (cW (val xs):Nat)))
 add:∀ xs ys,Lim xs→Lim ys→xs.length≤35184372087808→ys.length≤35184372087808→aG C 127 [aK xs,aK ys] .nil (aI (opV (eI (val xs) (val ys)) (val xs+val ys)))
 sub:∀ xs ys,Lim xs→Lim ys→xs.length≤35184372087808→ys.length≤35184372087808→aG C 134 [aK xs,aK ys] .nil (aI (sQ (val xs) (val ys)))
 mul:∀ xs ys,Lim xs→Lim ys→xs.length≤35184372087808→ys.length≤35184372087808→aG C 133 [aK xs,aK ys] .nil (aI (opV (eI (val xs) (val ys)) (val xs*val ys)))
 gcd:∀ xs ys,Lim xs→Lim ys→xs.length≤35184372087808→ys.length≤35184372087808→aG C 131 [aK xs,aK ys] .nil (aI (if eI (val xs) (val ys) then .tup [aK [],.int .i64 2] else .tup [aK (aJ (aTL (val xs) (val ys))),.int .i64 0]))
 div:∀ xs ys,Lim xs→Lim ys→xs.length≤35184372087808→ys.length≤35184372087808→aG C 130 [aK xs,aK ys] .nil (aI (nP (val xs) (val ys)))
theorem jI {a b:Nat} (e:nl a≤512) (hb:nl b≤512):eI a b=false:=by
 simp[eI]; omega
theorem mO {a b m n:Nat} (e:nl a≤m) (hb:nl b≤n):nl (a*b)≤m+n:=by
 rw[jU] at e hb ⊢;rw[Nat.pow_add];by_cases h:b=0
 ·subst h; exact Nat.mul_pos (aWJ (by decide)) (aWJ (by decide))
 ·calc a*b<4294967296 ^ m*b:=Nat.mul_lt_mul_of_pos_right e (aWD h)
   _≤4294967296 ^ m*4294967296 ^ n:=aWC _ (Nat.le_of_lt hb)
theorem BN {n:Nat} (h:nl n≤512):szV n=.tup [aK (aJ n),.int .i64 0]:=by
 have:¬ nl n>512:=Om;simp[szV,szL,szE,this]
theorem anE {C:Ctx} (L:tQ C) (a b:List Nat) (e:Lim a) (hb:Lim b) (j:a.length≤35184372087808) (l:b.length≤35184372087808) (u:nl (val a)≤256) (w:nl (val b)≤256) :
  DQ.wp C (aR Hf.res (aI (aK (aJ (val a*val b))))) (PF.args [aK a,aK b]) .nil:=by
 simp only[go_sem,DQ,wu,ww,Hf];refine aA (L.mul a b e hb j l) rfl ?_;have:=mO u w;rw[jI Om Om,opV,BN Om];simp only[go_sem,wx];refine aQ (.inr rfl) rfl ?_;rfl
abbrev eT (neg:Bool) (a b:List Nat):List PV:=[.bool neg,aK a,aK b]
theorem auM {C:Ctx} (L:tQ C) (neg:Bool) (a b:List Nat) (e:Lim a) (j:a.length≤35184372087808) :
  IM.wp C (aR ahB.res (aI (.bool (decide (val a=0))))) (PF.args [.agg (eT neg a b)]) .nil:=by
 simp only[go_sem,IM,Ia,Ib,ahB];refine aA (L.bits a e j) rfl ?_;simp only[go_sem];refine aQ (.inr rfl) rfl ?_;have:=@kV (val a);by_cases c:val a=0
 ·rw[bP Om,decide_eq_true c]; rfl
 ·rw[bE Om,decide_eq_false c]; rfl
def dC (a b:Nat):Bool:=decide (0<cW b)&&decide (cW b≤4096)&&decide (cW a≤4096)
theorem anG {C:Ctx} (L:tQ C) (neg:Bool) (a b:List Nat) (w:Lim a) (hb:Lim b) (x:a.length≤35184372087808) (y:b.length≤35184372087808) :
  DR.wp C (aR Hg.res (aI (.bool (dC (val a) (val b))))) (PF.args [.agg (eT neg a b)]) .nil:=by
 simp only[go_sem,DR,wy,wz,Hg];refine aA (L.bits b hb y) rfl ?_;by_cases l:0<cW (val b)
 ·have e:((cW (val b):Nat):Int)>0:=Om;by_cases u:cW (val b)≤4096
  ·have j:((cW (val b):Nat):Int)≤4096:=Om;simp only[go_sem,CF,e,j];refine aA (L.bits a w x) rfl ?_;simp only[go_sem];refine aQ (.inr rfl) rfl ?_;show PV.bool (decide _)=_;rw[dC,decide_eq_true l,decide_eq_true u,aTY,aTY];congr 1;rw[decide_eq_decide];omega
  ·have j:¬ ((cW (val b):Nat):Int)≤4096:=Om;simp only[go_sem,CF,e,j];refine aQ (.inr rfl) rfl ?_;show PV.bool _=_;simp[dC,l,u]
 ·have e:¬ ((cW (val b):Nat):Int)>0:=Om;simp only[go_sem,CF,e];refine aQ (.inr rfl) rfl ?_;show PV.bool _=_;simp[dC,l]
theorem aCT {C:Ctx} (L:tQ C) (v:Int) (j:-9223372036854775808≤v) (l:v≤9223372036854775807) :
  PK.wp C (aR auA.res (aI (aK (aJ v.natAbs)))) (PF.args [.int .i64 v]) .nil:=by
 simp only[go_sem,PK,Vm,Vn,auA];by_cases c:v<0
 ·have e:IntKind.u64.wrap (0-IntKind.u64.wrap v)=(v.natAbs:Int):=by rw[gU,gU]; omega
  simp only[go_sem,c,Vo,e];refine aA (L.make v.natAbs Om) rfl ?_;simp only[go_sem];refine aQ (.inr rfl) rfl ?_;rfl
 ·have e:IntKind.u64.wrap v=(v.natAbs:Int):=by rw[gU]; omega
  simp only[go_sem,c,Vp,e];refine aA (L.make v.natAbs Om) rfl ?_;simp only[go_sem];refine aQ (.inr rfl) rfl ?_;rfl
abbrev CE (e:Int):PV:=.tup [.agg (eT false [] []),.int .i64 e]
abbrev ahA (neg:Bool) (a b:Nat):PV:=.tup [.agg (eT neg (aJ a) (aJ b)),.int .i64 0]
def JP (neg:Bool) (a b:Nat):PV :=
 if cW (a/aTL a b)>4096∨cW (b/aTL a b)>4096 then CE 2 else ahA (neg&&decide (a/aTL a b≠0)) (a/aTL a b) (b/aTL a b)
theorem jJ {res:List dY} {F:PF} {H:PH} {e:Int} (h:dY.evs F H res=some [.agg [.bool false,.aB,.aB],.int .i64 e]):aR res (cB (CE e)) .ret F H :=
 aV (.inr rfl) .nil h a_ ⟨CoL.tup (.cons (CoL.agg (.cons (.refl _) (.cons (.nil 1) (.cons (.nil 1) .nil)))) (.cons (.refl _) .nil)),rfl⟩
theorem E9 {n:Nat}:cW n>1↔n>1:=by
 have:=mV n 1;omega
theorem mb {a n:Nat} (g:Nat) (h:nl a≤n):nl (a/g)≤n:=aWI (gT (aWR _ _)) h
theorem PS {C:Ctx} (L:tQ C) (neg:Bool) (a b:List Nat) (w:Lim a) (hb:Lim b) (x:a.length≤35184372087808) (y:b.length≤35184372087808) (o:Nat) (F:PF) (H:PH)
  (f0:F 0=some (.bool neg)) (f1:F 1=some (aK a)) (f2:F 2=some (aK b)) (f6:F 6=some (.ptr o 3 0 0)) (f7:F 7=some (.int .i64 0)) (j:H o=some (.rows 3 [[.bool false,.aB,.aB]])) :
  aC.wp C (.seq (.seq (.region IE) (.cond (.tmp 40) (.seq (.region yG) .ret) .skip)) (.seq (.region IF) .ret)) (aR vH.res (cB (if cW (val a)>4096∨cW (val b)>4096 then CE 2 else ahA (neg&&decide (val a≠0)) (val a) (val b)))) F H:=by
 have fin:∀ (r:List (List PV)) F H,F 6=some (.ptr o 3 0 0)→F 7=some (.int .i64 2)→H o=some (.rows 3 [[.bool false,.aB,.aB]])→aR vH.res (cB (CE 2)) .ret F H:=by intro r F H E h7 h;refine jJ ?_;simp only[go_sem,vH,E,h7,h]
 simp only[go_sem,IE,f1];refine aA (L.bits a w x) rfl ?_;by_cases A:cW (val a)>4096
 ·have l:((cW (val a):Nat):Int)>4096:=Om;rw[if_pos (.inl A)];simp only[go_sem,l,yG,f6,j];exact fin [] _ _ (by simp only[go_sem,f6]) rfl Sq
 ·have l:¬ ((cW (val a):Nat):Int)>4096:=Om;simp only[go_sem,l,f2];refine aA (L.bits b hb y) rfl ?_;by_cases B:cW (val b)>4096
  ·have u:((cW (val b):Nat):Int)>4096:=Om;rw[if_pos (.inr B)];simp only[go_sem,u,yG,f6,j];exact fin [] _ _ (by simp only[go_sem,f6]) rfl Sq
  ·have u:¬ ((cW (val b):Nat):Int)>4096:=Om;rw[if_neg Om];have last:∀ F:PF,F 1=some (aK a)→F 2=some (aK b)→F 6=some (.ptr o 3 0 0)→∀ (q:Bool),q=(neg&&decide (val a≠0))→F 47=some (.bool q) →
     True:=fun _ _ _ _ _ _ _=>trivial
   simp only[go_sem,u,IF,f0,f1,f2,f6,j];cases neg with
   | false =>simp only[go_sem,f0,f1,f2,f6,j];refine aA (L.trim a w x) rfl ?_;simp only[go_sem,f0,f1,f2,f6,j];refine aA (L.trim b hb y) rfl ?_;simp only[go_sem,f0,f1,f2,f6,j,aTS];refine aV (.inr rfl) .nil (vs:=[.agg (eT false (aJ (val a)) (aJ (val b))),.int .i64 0]) ?_ a_ ⟨.refl _,rfl⟩;simp only[go_sem,vH,f6,j]
   | true =>
    simp only[go_sem,f0,f1,f2,f6,j];refine aA (L.bits a w x) rfl ?_;have e:decide (((cW (val a):Nat):Int)>0)=decide (val a≠0):=by have:=@kV (val a);rw[decide_eq_decide]; omega
    simp only[go_sem,f0,f1,f2,f6,j,e];refine aA (L.trim a w x) rfl ?_;simp only[go_sem,f0,f1,f2,f6,j];refine aA (L.trim b hb y) rfl ?_;simp only[go_sem,f0,f1,f2,f6,j,aTY];refine aV (.inr rfl) .nil (vs:=[.agg (eT (decide (val a≠0)) (aJ (val a)) (aJ (val b))),.int .i64 0]) ?_ a_ ⟨.refl _,rfl⟩;simp only[go_sem,vH,f6,j]
theorem agU {C:Ctx} (L:tQ C) (neg:Bool) (a b:List Nat) (x:Lim a) (hb:Lim b) (y:a.length≤35184372087808) (A:b.length≤35184372087808) (B:nl (val a)≤512) (u:nl (val b)≤512) (E:val b≠0) :
  AS.wp C (aR vH.res (cB (JP neg (val a) (val b)))) (PF.args [.bool neg,aK a,aK b]) .nil:=by
 simp only[go_sem,AS,iu,iv];refine aO fun o J=>?_;simp only[go_sem];refine aA (L.gcd a b x hb y A) rfl ?_;rw[jI B u];simp only[go_sem,iw];have j:aTL (val a) (val b)≠0:=by intro h; exact E (Nat.gcd_eq_zero_iff.1 h).2
 have l:nl (aTL (val a) (val b))≤512:=aWI (gT (Nat.gcd_le_right _ (aWD E))) u;have e:(aJ (aTL (val a) (val b))).length≤35184372087808:=by rw[aY]; omega
 refine aA (L.bits _ (aU _) e) rfl ?_;rw[aS];by_cases c:aTL (val a) (val b)>1
 ·have w:((cW (aTL (val a) (val b)):Nat):Int)>1:=by have:=E9.2 c; omega
  simp only[go_sem,w,ix];refine aA (L.div a _ x (aU _) y e) rfl ?_;rw[aS,nP,jI B l,if_neg (by decide),if_neg j];simp only[go_sem,iy];refine aA (L.div b _ hb (aU _) A e) rfl ?_;rw[aS,nP,jI u l,if_neg (by decide),if_neg j];simp only[go_sem];have:=PS L neg (aJ (val a/aTL (val a) (val b))) (aJ (val b/aTL (val a) (val b))) (aU _) (aU _) (by rw[aY]; have:=mb (aTL (val a) (val b)) B; omega) (by rw[aY]; have:=mb (aTL (val a) (val b)) u; omega) o;rw[aS,aS] at this;have:=fun F H=>this F H;simp only[aC.wp,go_sem] at this;exact this _ _ rfl rfl rfl rfl rfl Sq
 ·have w:¬ ((cW (aTL (val a) (val b)):Nat):Int)>1:=by have:=(@E9 (aTL (val a) (val b))); omega
  have I:aTL (val a) (val b)=1:=Om;simp only[go_sem,w];rw[JP,I,Nat.div_one,Nat.div_one];have:=PS L neg a b x hb y A o;simp only[aC.wp,go_sem] at this;exact this _ _ rfl rfl rfl rfl rfl Sq
structure HL (C:Ctx):Prop extends tQ C where
 times:∀ a b,Lim a→Lim b→a.length≤35184372087808→b.length≤35184372087808→nl (val a)≤256→nl (val b)≤256→aG C 121 [aK a,aK b] .nil (aI (aK (aJ (val a*val b))))
 zero:∀ neg a b,Lim a→a.length≤35184372087808→aG C 122 [.agg (eT neg a b)] .nil (aI (.bool (decide (val a=0))))
 valid:∀ neg a b,Lim a→Lim b→a.length≤35184372087808→b.length≤35184372087808→aG C 118 [.agg (eT neg a b)] .nil (aI (.bool (dC (val a) (val b))))
 abs:∀ v:Int,-9223372036854775808≤v→v≤9223372036854775807→aG C 119 [.int .i64 v] .nil (aI (aK (aJ v.natAbs)))
 lowest:∀ neg a b,Lim a→Lim b→a.length≤35184372087808→b.length≤35184372087808→nl (val a)≤512→nl (val b)≤512→val b≠0→aG C 120 [.bool neg,aK a,aK b] .nil (aI (JP neg (val a) (val b)))
def js (n d:Int):PV:=if d=0 then CE 3 else JP (decide (n<0) != decide (d<0)) n.natAbs d.natAbs
theorem oX {n k:Nat} (h:n<4294967296 ^ k):nl n≤k:=(jU _ _).2 h
theorem K6 (neg:Bool) (a b:Nat):∃ j x y e,JP neg a b=.tup [.agg (eT j x y),.int .i64 e]:=by
 unfold JP;split
 ·exact⟨_,_,_,_,rfl⟩
 ·exact⟨_,_,_,_,rfl⟩
theorem auG {C:Ctx} (L:HL C) (n d:Int) (l:-9223372036854775808≤n) (u:n≤9223372036854775807) (w:-9223372036854775808≤d) (A:d≤9223372036854775807) :
  IG.wp C (aR D3.res (cB (js n d))) (PF.args [.int .i64 n,.int .i64 d]) .nil:=by
 simp only[go_sem,IG,Gh,Gi];refine aO fun o E=>?_;unfold js;by_cases c:d=0
 ·subst c;simp only[go_sem,Gj];refine jJ ?_;simp only[go_sem,D3]
 ·rw[if_neg c];simp only[go_sem,bE c,Gk];refine aA (L.abs n l u) rfl ?_;simp only[go_sem];refine aA (L.abs d w A) rfl ?_;simp only[go_sem];have F:nl n.natAbs≤2:=oX Om;have I:nl d.natAbs≤2:=oX Om;have low:=L.lowest (decide (n<0) != decide (d<0)) (aJ n.natAbs) (aJ d.natAbs) (aU _) (aU _) (by rw[aY]; omega) (by rw[aY]; omega);rw[aS,aS] at low;have low:=low Om Om Om;refine aA low rfl ?_;obtain⟨j,x,y,e,B⟩:=K6 (decide (n<0) != decide (d<0)) n.natAbs d.natAbs;rw[B];simp only[go_sem];exact aV (.inr rfl) .nil (vs:=[.agg (eT j x y),.int .i64 e]) (by simp only[go_sem,D3]) a_ ⟨.refl _,rfl⟩
theorem gJ {a b:Nat}:dC a b=true↔b≠0∧nl b≤128∧nl a≤128:=by
 have e:=mW b 128;have j:=mW a 128;have l:=@kV b;simp only[dC,aUC,decide_eq_true_eq];omega
def UW (neg:Bool) (a b:Nat):PV:=if dC a b then JP neg a b else CE 1
theorem agY {C:Ctx} (L:HL C) (neg:Bool) (a b:List Nat) (l:Lim a) (hb:Lim b) (u:a.length≤35184372087808) (w:b.length≤35184372087808) :
  AU.wp C (aR UF.res (cB (UW neg (val a) (val b)))) (PF.args [.agg (eT neg a b)]) .nil:=by
 simp only[go_sem,AU,jb,jc];refine aO fun o F=>?_;simp only[go_sem];refine aA (L.valid neg a b l hb u w) rfl ?_;unfold UW;cases B:dC (val a) (val b) with
 | false =>simp only[go_sem,jd,aTZ];refine jJ ?_;simp only[go_sem,UF]
 | true =>obtain⟨E,I,J⟩:=gJ.1 B;simp only[go_sem,je,aTV];refine aA (L.lowest neg a b l hb u w Om Om E) rfl ?_;obtain⟨j,x,y,e,A⟩:=K6 neg (val a) (val b);rw[A];simp only[go_sem];exact aV (.inr rfl) .nil (vs:=[.agg (eT j x y),.int .i64 e]) (by simp only[go_sem,UF]) a_ ⟨.refl _,rfl⟩
def qE (l:Bool) (a1 e:Nat) (u:Bool) (a2 j:Nat):Int :=
 match l&&decide (a1≠0),u&&decide (a2≠0) with
 | true,true=>- dU (a1*j) (a2*e)
 | true,false=>-1
 | false,true=>1
 | false,false=>dU (a1*j) (a2*e)
def CD (l:Bool) (a1 e:Nat) (u:Bool) (a2 j:Nat):PV :=
 if dC a1 e&&dC a2 j then .tup [.int .i64 (qE l a1 e u a2 j),.int .i64 0] else .tup [.int .i64 0,.int .i64 1]
def fr1:PV→List Nat
 | .agg [_,a,_]=>jY a
 | _=>[]
def frS:Spec:=fun name vs=>match name,vs with
 | 121,[x,y]=>some ([],fun _=>aI (aK (aJ (val (jY x)*val (jY y)))))
 | 129,[x,y]=>some ([],fun _=>aI (.int .i64 (dU (val (jY x)) (val (jY y)))))
 | 122,[x]=>some ([],fun _=>aI (.bool (decide (val (fr1 x)=0))))
 | _,_=>none
theorem xD (a b:List Nat):frS 121 [aK a,aK b]=some ([],fun _=>aI (aK (aJ (val a*val b)))):=by
 show some _=_; rw[eS,eS]
theorem aDH (a b:List Nat):frS 129 [aK a,aK b]=some ([],fun _=>aI (.int .i64 (dU (val a) (val b)))):=by
 show some _=_; rw[eS,eS]
theorem ZA (neg:Bool) (a b:List Nat):frS 122 [.agg (eT neg a b)]=some ([],fun _=>aI (.bool (decide (val a=0)))):=by
 show some _=_; rw[fr1,eS]
theorem atJ (a b:Nat):IntKind.i64.wrap (0-dU a b)=- dU a b:=by
 unfold dU; split
 ·rfl
 ·split<;>rfl
theorem aCZ {C:Ctx} (L:HL C) (E y:Bool) (a1 j a2 e:List Nat) (w:Lim a1) (I:Lim j) (l:Lim a2) (J:Lim e)
  (x:a1.length≤35184372087808) (K:j.length≤35184372087808) (u:a2.length≤35184372087808) (M:e.length≤35184372087808) :
  PO.wp C (aR auC.res (cB (CD E (val a1) (val j) y (val a2) (val e)))) (PF.args [.agg (eT E a1 j),.agg (eT y a2 e)]) .nil:=by
 simp only[go_sem,PO,V8,V9];refine aA (L.valid E a1 j w I x K) rfl ?_;unfold CD;cases V:dC (val a1) (val j) with
 | false =>simp only[go_sem,aTZ,sa,aTS];exact aV (.inr rfl) .nil (vs:=[.int .i64 0,.int .i64 1]) rfl a_ ⟨.refl _,rfl⟩
 | true =>
  obtain⟨v1,X,Y⟩:=gJ.1 V;simp only[go_sem,aTV];refine aA (L.valid y a2 e l J u M) rfl ?_;cases W:dC (val a2) (val e) with
  | false =>simp only[go_sem,aTZ,sa,aUU];exact aV (.inr rfl) .nil (vs:=[.int .i64 0,.int .i64 1]) rfl a_ ⟨.refl _,rfl⟩
  | true =>
   obtain⟨w1,Z,w3⟩:=gJ.1 W;simp only[go_sem,aTV,aVK];refine bC .nil frS a_ ?_;simp only[go_sem,Wa];refine bX (xD a1 e) (L.times a1 e w J x M Om Om) rfl a_ ?_;simp only[go_sem];refine bX (xD a2 j) (L.times a2 j l I u K Om Om) rfl a_ ?_;simp only[go_sem];have m1:=mO Y Z;have m2:=mO w3 X;have O:=L.cmp (aJ (val a1*val e)) (aJ (val a2*val j)) (aU _) (aU _) (by rw[aY]; omega) (by rw[aY]; omega);have R:=aDH (aJ (val a1*val e)) (aJ (val a2*val j));rw[aS,aS] at O R;refine bX R O rfl a_ ?_;simp only[go_sem];refine bC .nil frS a_ ?_;have z1:(!decide (val a1=0))=decide (val a1≠0):=by by_cases h:val a1=0<;>simp[h]
   have S:(!decide (val a2=0))=decide (val a2≠0):=by by_cases h:val a2=0<;>simp[h]
   have fin:∀ (F:PF) (A B:Bool),F 6=some (.int .i64 (dU (val a1*val e) (val a2*val j)))→F 7=some (.bool A)→F 8=some (.bool B)→A=(E&&decide (val a1≠0))→B=(y&&decide (val a2≠0)) →
     aC.wp C (.seq (.block 0 (.seq (.region zS) (.cond (.tmp 42) (.seq (.region sb) .ret) (.seq (.region GN) (.cond (.tmp 49) (.seq (.region sd) .ret) (.seq (.region UE) (.cond (.tmp 51) (.seq (.region YO) .ret) .skip))))))) (.seq (.region YP) .ret)) (aR auC.res (cB (.tup [.int .i64 (qE E (val a1) (val j) y (val a2) (val e)),.int .i64 0]))) F .nil:=by
    intro F A B f6 f7 N U hB;rw[qE,← U,← hB];cases A<;>cases B
    ·simp only[go_sem,zS,GN,UE,YP,f6,f7,N];exact aV (.inr rfl) .nil rfl a_ ⟨.refl _,rfl⟩
    ·simp only[go_sem,zS,GN,UE,YO,f6,f7,N];exact aV (.inr rfl) .nil rfl a_ ⟨.refl _,rfl⟩
    ·simp only[go_sem,zS,GN,sd,f6,f7,N];exact aV (.inr rfl) .nil rfl a_ ⟨.refl _,rfl⟩
    ·simp only[go_sem,zS,sb,f6,f7,N,atJ];exact aV (.inr rfl) .nil rfl a_ ⟨.refl _,rfl⟩
   simp only[aC.wp,go_sem] at fin;simp only[go_sem,Wb];cases E with
   | false =>
    simp only[go_sem];cases y with
    | false =>simp only[go_sem];exact fin _ false false rfl rfl rfl rfl rfl
    | true =>simp only[go_sem];refine bX (ZA true a2 e) (L.zero true a2 e l u) rfl a_ ?_;simp only[go_sem,S];exact fin _ false (decide (val a2≠0)) rfl rfl rfl rfl (by rw[aTY])
   | true =>
    simp only[go_sem];refine bX (ZA true a1 j) (L.zero true a1 j w x) rfl a_ ?_;simp only[go_sem,z1];cases y with
    | false =>simp only[go_sem];exact fin _ (decide (val a1≠0)) false rfl rfl rfl (by rw[aTY]) rfl
    | true =>simp only[go_sem];refine bX (ZA true a2 e) (L.zero true a2 e l u) rfl a_ ?_;simp only[go_sem,S];exact fin _ (decide (val a1≠0)) (decide (val a2≠0)) rfl rfl rfl (by rw[aTY]) (by rw[aTY])
abbrev FV:=Bool × Nat × Nat
abbrev FR:=Except Int FV
def jN (neg:Bool) (a b:Nat):FR :=
 if cW (a/aTL a b)>4096∨cW (b/aTL a b)>4096 then .error 2 else .ok (neg&&decide (a/aTL a b≠0),a/aTL a b,b/aTL a b)
def frV:FR→PV
 | .ok (n,a,b)=>ahA n a b
 | .error e=>CE e
theorem s9 (neg:Bool) (a b:Nat):JP neg a b=frV (jN neg a b):=by
 unfold JP jN;split<;>rfl
def iW:FV→FV→FR
 | (l,a1,e),(u,a2,j)=>if dC a1 e&&dC a2 j then
   (if l=u then jN l (a1*j+a2*e) (e*j) else if a2*e≤a1*j then jN l (a1*j-a2*e) (e*j) else jN u (a2*e-a1*j) (e*j))
  else .error 1
theorem No {a b m:Nat} (e:nl a≤m) (hb:nl b≤m):nl (a+b)≤m+1:=by
 rw[jU] at e hb ⊢;rw[aVL]; omega
theorem TZ (a b:Nat):(dU a b≥0)↔b≤a:=by
 unfold dU;split
 ·constructor
  ·intro h; exact absurd h (by decide)
  ·intro h; omega
 ·split
  ·constructor
   ·intro h; omega
   ·intro h; decide
  ·constructor
   ·intro h; omega
   ·intro h; decide
theorem vI (r:FR):∃ j x y e,frV r=.tup [.agg (eT j x y),.int .i64 e]:=by
 rcases r with e | ⟨n,a,b⟩
 ·exact⟨_,_,_,_,rfl⟩
 ·exact⟨_,_,_,_,rfl⟩
theorem aCV {C:Ctx} (L:HL C) (w I:Bool) (a1 l a2 u:List Nat) (S:Lim a1) (M:Lim l) (U:Lim a2) (N:Lim u)
  (V:a1.length≤35184372087808) (O:l.length≤35184372087808) (W:a2.length≤35184372087808) (R:u.length≤35184372087808) :
  PL.wp C (aR r8.res (cB (frV (iW (w,val a1,val l) (I,val a2,val u))))) (PF.args [.agg (eT w a1 l),.agg (eT I a2 u)]) .nil:=by
 simp only[go_sem,PL,Vq];refine aO fun o ho=>?_;simp only[go_sem,Vs];refine aA (L.valid w a1 l S M V O) rfl ?_;simp only[iW];cases hv:dC (val a1) (val l) with
 | false =>simp only[go_sem,aTZ,r9,aTS];refine jJ ?_;simp only[go_sem,r8]
 | true =>
  obtain⟨v1,v2,v3⟩:=gJ.1 hv;simp only[go_sem,aTV];refine aA (L.valid I a2 u U N W R) rfl ?_;cases hw:dC (val a2) (val u) with
  | false =>simp only[go_sem,aTZ,r9,aUU];refine jJ ?_;simp only[go_sem,r8]
  | true =>
   obtain⟨w1,w2,w3⟩:=gJ.1 hw;simp only[go_sem,aTV,aVK];refine bC .nil frS a_ ?_;simp only[go_sem,Vt];refine bX (xD a1 u) (L.times a1 u S N V R Om Om) rfl a_ ?_;simp only[go_sem];refine bX (xD a2 l) (L.times a2 l U M W O Om Om) rfl a_ ?_;simp only[go_sem];refine bX (xD l u) (L.times l u M N O R Om Om) rfl a_ ?_;simp only[go_sem];have m1:=mO v3 w2;have m2:=mO w3 v2;have m3:=mO v2 w2;have d0:val l*val u≠0:=Nat.mul_ne_zero v1 w1;generalize hA:val a1*val u=A at *
   generalize hB:val a2*val l=B at *
   generalize hD:val l*val u=D at *
   have fin:∀ (F:PF) (H:PH) (r:FR),(∃ j x y e,frV r=.tup [.agg (eT j x y),.int .i64 e]∧F 4=some (.ptr o 3 0 0)∧F 5=some (.int .i64 e)∧H o=some (.rows 3 [eT j x y]))→aR r8.res (cB (frV r)) .ret F H:=by rintro F H r ⟨j,x,y,e,he,f4,f5,hH⟩;rw[he];exact aV (.inr rfl) .nil (vs:=[.agg (eT j x y),.int .i64 e]) (by simp only[go_sem,r8,f4,f5,hH]) a_ ⟨.refl _,rfl⟩
   have eb:(w==I)=decide (w=I):=by cases w<;>cases I<;>rfl
   have low:∀ neg x,nl x≤257→aG C 120 [.bool neg,aK (aJ x),aK (aJ D)] .nil (aI (frV (jN neg x D))):=by
    intro neg x hx;have h1:(aJ x).length≤35184372087808:=by rw[aY]; omega
    have h2:(aJ D).length≤35184372087808:=by rw[aY]; omega
    have:=L.lowest neg (aJ x) (aJ D) (aU _) (aU _) h1 h2;rw[aS,aS,s9] at this;exact this Om Om d0
   have lA:(aJ A).length≤35184372087808:=by rw[aY]; omega
   have lB:(aJ B).length≤35184372087808:=by rw[aY]; omega
   simp only[go_sem,Vu];by_cases c:w=I
   ·rw[if_pos c];have Z:(w==I)=true:=by rw[eb,decide_eq_true c]
    simp only[go_sem,Z,Vv];have J:=L.add (aJ A) (aJ B) (aU _) (aU _) lA lB;have α:=No m1 m2;rw[aS,aS,jI Om Om,opV,BN Om] at J;refine aA J rfl ?_;simp only[go_sem,Vw];refine aA (low w _ Om) rfl ?_;obtain⟨j,x,y,e,E⟩:=vI (jN w (A+B) D);rw[E];simp only[go_sem];rw[← E];exact fin _ _ _ ⟨j,x,y,e,E,by simp only[go_sem],by simp only[go_sem],by simp only[go_sem]⟩
   ·rw[if_neg c];have Z:(w==I)=false:=by rw[eb,decide_eq_false c]
    simp only[go_sem,Z,Vx];have hc:=L.cmp (aJ A) (aJ B) (aU _) (aU _) lA lB;rw[aS,aS] at hc;refine aA hc rfl ?_;have K:∀ X Y:Nat,nl X≤256→nl Y≤256→Y≤X→aG C 134 [aK (aJ X),aK (aJ Y)] .nil (aI (.tup [aK (aJ (X-Y)),.int .i64 0])):=by intro X Y h1 h2 h;have:=L.sub (aJ X) (aJ Y) (aU _) (aU _) (by rw[aY]; omega) (by rw[aY]; omega);have h3:=gT (Om:X-Y≤X);rw[aS,aS,sQ,jI Om Om,if_neg (by decide),if_neg Om,BN Om] at this;exact this
    by_cases g:B≤A
    ·have g':dU A B≥0:=(TZ A B).2 g;rw[if_pos g];simp only[go_sem,g',Vy];refine aA (K A B Om Om g) rfl ?_;simp only[go_sem,Vz];have h3:=gT (Om:A-B≤A);refine aA (low w (A-B) Om) rfl ?_;obtain⟨j,x,y,e,E⟩:=vI (jN w (A-B) D);rw[E];simp only[go_sem];rw[← E];exact fin _ _ _ ⟨j,x,y,e,E,by simp only[go_sem],by simp only[go_sem],by simp only[go_sem]⟩
    ·have g':¬ dU A B≥0:=fun h=>g ((TZ A B).1 h);rw[if_neg g];simp only[go_sem,g',Fu];refine aA (K B A Om Om Om) rfl ?_;simp only[go_sem,Fv];have h3:=gT (Om:B-A≤B);refine aA (low I (B-A) Om) rfl ?_;obtain⟨j,x,y,e,E⟩:=vI (jN I (B-A) D);rw[E];simp only[go_sem];rw[← E];exact fin _ _ _ ⟨j,x,y,e,E,by simp only[go_sem],by simp only[go_sem],by simp only[go_sem]⟩
structure RF where
 neg:Bool
 num:List Nat
 den:List Nat
abbrev RF.cells (x:RF):List PV:=eT x.neg x.num x.den
def RF.Ok (x:RF):Prop:=Lim x.num∧Lim x.den∧x.num.length≤35184372087808∧x.den.length≤35184372087808
def RF.v (x:RF):FV:=(x.neg,val x.num,val x.den)
abbrev frs (l:List RF):PV:=.sl 3 (l.map RF.cells)
def FV.rf:FV→RF
 | (n,a,b)=>⟨n,aJ a,aJ b⟩
def FV.Small:FV→Prop
 | (_,a,b)=>nl a≤900000∧nl b≤900000
theorem FV.aJU (x:FV):x.rf.v=x:=by
 obtain⟨n,a,b⟩:=x;show (n,val (aJ a),val (aJ b))=_;rw[aS,aS]
def oM (l:List FV):FR:=l.foldlM iW (false,0,1)
theorem uC {neg:Bool} {a b:Nat} {r:FV} (h:jN neg a b=.ok r):r.Small∧r.rf.Ok:=by
 unfold jN at h;split at h
 ·cases h
 ·rename_i l;have e:=(mW (a/aTL a b) 128).1 Om;have j:=(mW (b/aTL a b) 128).1 Om;injection h with h
  subst h;refine⟨⟨by omega,by omega⟩,aU _,aU _,?_,?_⟩
  ·show (aJ _).length≤_;rw[aY]; omega
  ·show (aJ _).length≤_;rw[aY]; omega
theorem rj {x y r:FV} (h:iW x y=.ok r):r.rf.Ok:=by
 obtain⟨l,a1,e⟩:=x;obtain⟨u,a2,j⟩:=y;simp only[iW] at h;split at h
 ·split at h
  ·exact (uC h).2
  ·split at h
   ·exact (uC h).2
   ·exact (uC h).2
 ·cases h
theorem VP {α β:Type} {f:β→α→Except Int β} (l:List α) (b:β) {k:Nat} (h:k<l.length):(l.take (k+1)).foldlM f b=((l.take k).foldlM f b).bind fun x=>f x l[k]:=by
 rw[aVS h,List.foldlM_append];cases (l.take k).foldlM f b with
 | error e=>rfl
 | ok x =>show ([l[k]]:List α).foldlM f x=f x l[k];rw[List.foldlM_cons];cases f x l[k]<;>rfl
theorem iz {α β:Type} {f:β→α→Except Int β} (l:List α) (b:β) {k:Nat} {e:Int} (h:(l.take k).foldlM f b=.error e):l.foldlM f b=.error e:=by
 conv=>lhs; rw[← aWH k l,List.foldlM_append,h]
 rfl
def ayY (l:List RF) (o2 o4:Nat) (k:Nat):PF:=((((((PF.nil.set 2 (.ptr o2 3 0 0)).set 3 (.int .i64 0)).set 4 (.ptr o4 3 0 0)).set 11 (frs l)).set 12 (.int .i64 (l.length:Nat))).set 13 (.int .i64 k))
def ff (o2 o4:Nat) (c:List PV):PH:=(PH.nil.set o2 (.rows 3 [[.bool false,.aB,.aB]])).set o4 (.rows 3 [c])
theorem aDJ {C:Ctx} (L:HL C) (V:∀ x y:RF,x.Ok→y.Ok→aG C 113 [.agg x.cells,.agg y.cells] .nil (aI (frV (iW x.v y.v)))) (l:List RF) (hl:∀ x∈l,x.Ok) (β:l.length≤9223372036854775807) :
  PW.wp C (aR Hd.res (cB (frV (oM (l.map RF.v))))) (PF.args [frs l]) .nil:=by
 simp only[go_sem,PW,Wv];refine aO fun o2 γ=>?_;simp only[go_sem,Ww];refine aA (L.make 1 (by decide)) rfl ?_;simp only[go_sem];refine aO fun o4 W=>?_;have w:o4≠o2:=by rintro rfl; simp only[aT,if_true] at W; cases W
 have j:o2≠o4:=Ne.symm w;simp only[go_sem,Wx];refine wp_loop (α:=Nat × FV × PV) (fun t=>ayY l o2 o4 t.1) (fun t=>ff o2 o4 [.bool t.2.1.1,t.2.2,aK (aJ t.2.1.2.2)]) (fun t=>t.1≤l.length∧((l.map RF.v).take t.1).foldlM iW (false,0,1)=.ok t.2.1∧(t.2.2=.aB∧t.2.1.2.1=0∨t.2.2=aK (aJ t.2.1.2.1))∧(FV.rf t.2.1).Ok) (fun t=>l.length-t.1)
  (0,(false,0,1),.aB) ⟨aTQ _,rfl,.inl ⟨rfl,rfl⟩,⟨aU _,aU _,?_,?_⟩⟩ ?_ ?_ ?_
 ·show (aJ 0).length≤_;rw[gE]; simp
 ·show (aJ 1).length≤_;rw[pF (by decide) (by decide)]; simp
 ·unfold ayY
  (repeat' (first|exact c_|refine d_ ?_ ?_))<;>first|(simp only[go_sem,aTJ]<;>rfl)|rfl
 ·unfold ff;exact e_ (e_ a_ (by simp only[go_sem,j,w])) (by simp only[go_sem,j,w])
 rintro⟨k,⟨U,X,S⟩,cy⟩ ⟨hk,Y,R,M⟩;simp only at hk Y R M ⊢;have N:CoL [.bool U,cy,aK (aJ S)] (FV.rf (U,X,S)).cells:=by
  refine .cons (.refl _) (.cons ?_ (.cons (.refl _) .nil));rcases R with ⟨rfl,rfl⟩ | rfl
  ·show Co .aB (aK (aJ 0));rw[gE]; exact .nil 1
  ·exact .refl _
 simp only[go_sem,He,Wy,ayY];by_cases hlt:k<l.length
 ·have E:(k:Int)<(l.length:Nat):=Om;have hr:(l.map RF.cells)[k]?=some (l[k]).cells:=by simp[hlt]
  simp only[go_sem,E,Wz,hr];refine aO fun o6 J=>?_;have F:o4≠o6:=by rintro rfl; simp only[ff,aT,if_true] at J; cases J
  have B:o2≠o6:=by rintro rfl; simp only[ff,aT,if_true,if_neg j] at J; cases J
  simp only[go_sem,W0,ff,F,B,w,j];refine aA ((V (FV.rf (U,X,S)) l[k] M (hl _ (aTN hlt))).args (.cons (CoL.agg N) (.cons (.refl _) .nil))) rfl ?_;rw[FV.aJU];have u:=VP (f:=iW) (l.map RF.v) (false,0,1) (k:=k) (by simpa using hlt);rw[Y] at u;simp only[Except.bind,aVQ] at u;cases he:iW (U,X,S) (l[k]).v with
  | error e =>
   simp only[go_sem,frV];refine aO fun o7 A=>?_;have Z:e≠0:=by
    revert he;obtain⟨n2,a2,b2⟩:=(l[k]).v;simp only[iW,jN]
    repeat' split
    all_goals (intro h; first | (injection h with h; subst h; decide) | cases h)
   have I:o2≠o7:=by rintro rfl; simp only[aT,B,j,if_true,if_false] at A; cases A
   simp only[go_sem,sk,dK Z,W1,I,B,j];rw[he] at u;rw[oM,iz _ _ u];refine jJ ?_;simp only[go_sem,Hd]
  | ok r =>
   obtain⟨rn,ra,rb⟩:=r;simp only[go_sem,frV];refine aO fun o7 A=>?_;have K:o4≠o7:=by rintro rfl; simp only[aT,F,if_true,if_false] at A; cases A
   have I:o2≠o7:=by rintro rfl; simp only[aT,B,j,if_true,if_false] at A; cases A
   simp only[go_sem,sk,W2,K,I,F,B,w,j,Ne.symm K,W3,wZz k];rw[he] at u;refine aH (k+1,(rn,ra,rb),aK (aJ ra)) ⟨hlt,u,.inr rfl,rj he⟩ (by simp only; omega) ?_ ?_
   ·exact Lq
   ·refine e_ (e_ a_ ?_) ?_
    ·simp only[go_sem,j,w,K,I,F,B]
    ·simp only[go_sem,j,w,K,I,F,B]
 ·have E:¬ (k:Int)<(l.length:Nat):=Om;have:k=l.length:=Om;subst this;rw[aUB (by simp)] at Y;rw[oM,Y];have O:cB (frV (.ok (U,X,S))) (bQ [.agg [.bool U,cy,aK (aJ S)],.int .i64 0]) .nil:=⟨CoL.tup (.cons (CoL.agg N) (.cons (.refl _) .nil)),rfl⟩;rcases R with ⟨rfl,rfl⟩ | rfl
  ·simp only[go_sem,E,ZC,ff,w,j];refine aV (.inr rfl) .nil ?_ a_ O;simp only[go_sem,Hd,w,j]
  ·simp only[go_sem,E,ZC,ff,w,j];refine aV (.inr rfl) .nil ?_ a_ O;simp only[go_sem,Hd,w,j]
def qT:Rg:=[iT 2 false]
def qU:Rg:=[iM 3 0,iA 4 (.bin .geq (Tm 3) (.const (.int .u8 97))),iM 5 4,gM 6 0 5 true,iG 7 (.bin .leq (Tm 6) (.const (.int .u8 122))) 5 true,iP 8 5 7,iM 9 8,gM 10 0 9 false,iG 11 (.bin .geq (Tm 10) (.const (.int .u8 65))) 9 false,gM 12 11 9 false,gM 13 0 12 true,iG 14 (.bin .leq (Tm 13) (.const (.int .u8 90))) 12 true,iG 15 (.pick (Tm 12) (Tm 14) (.const zB)) 9 false,iQ 16 9 15,iM 2 16]
def mM:aC:=(sq qT (sq qU .ret))
def aiF:List Nat:=[]
def UM:aW:=⟨1,17,mM,[.tmp 2]⟩
def CL:Rg:=[iT 2 false]
def CM:Rg:=[iM 3 0,iA 4 (.bin .geq (Tm 3) (.const (.int .u8 48))),iM 5 4,gM 6 0 5 true,iG 7 (.bin .leq (Tm 6) (.const (.int .u8 57))) 5 true,iP 8 5 7,iM 2 8]
def rP:aC:=(sq CL (sq CM .ret))
def anX:List Nat:=[]
def jn:aW:=⟨1,9,rP,[.tmp 2]⟩
def xp:Rg:=[iT 2 false]
def xq:Rg:=[iM 3 0,iK 4 126 3,iM 5 4,gM 6 0 5 false,gK 7 124 6 5 false,iQ 8 5 7,iM 9 8,gM 10 0 9 false,iG 11 (.bin .eql (Tm 10) (.const (.int .u8 45))) 9 false,iQ 12 9 11,iM 13 12,gM 14 0 13 false,iG 15 (.bin .eql (Tm 14) (.const (.int .u8 46))) 13 false,iQ 16 13 15,iM 2 16]
def DW:aC:=(sq xp (sq xq .ret))
def aoC:List Nat:=[]
def jp:aW:=⟨1,17,DW,[.tmp 2]⟩
def JK:Rg:=[iT 2 false]
def JL:Rg:=[iM 4 0,iA 5 (.bin .eql (Tm 4) (.const (.str []))),iM 6 5,gM 7 0 6 false,iG 8 (.aSW (Tm 7)) 6 false,gC 9 .gtr 8 16 6 false,iQ 10 6 9,iM 11 10,gM 12 0 11 false,iG 13 (.aSX (Tm 12) (Ci 0)) 11 false,gK 14 126 13 11 false,iG 15 (.un .not (Tm 14)) 11 false,iQ 16 11 15]
def JM:Rg:=[iT 2 false]
def Kv:Rg:=[iI 3 0]
def Kw:Rg:=[iM 17 3,iM 18 0,iA 19 (.aSW (Tm 18)),iB 20 .lss 17 19]
def Kx:Rg:=[iM 23 0,iM 24 3,iA 25 (.aSX (Tm 23) (Tm 24)),iK 26 125 25,iA 27 (.un .not (Tm 26))]
def Ky:Rg:=[iT 2 false]
def Kz:Rg:=[iM 21 3,iC 22 .add 21 1,iM 3 22]
def Ku:aC:=(.seq (sq Kw (.cond (Tm 20) .skip (.exit 0))) (.seq (.block 1 (sq Kx (.cond (Tm 27) (sq Ky .ret) .skip))) (.region Kz)))
def K0:Rg:=[iT 2 true]
def uB:aC:=(sq JK (.seq (sq JL (.cond (Tm 16) (sq JM .ret) .skip)) (.seq (sq Kv (.block 0 (.loop Ku))) (sq K0 .ret))))
def avW:List Nat:=[]
def D4:aW:=⟨1,28,uB,[.tmp 2]⟩
def jg:Rg:=[iT 6 false]
def jh:Rg:=[iM 7 0,iM 8 1,iB 9 .geq 7 8,iM 10 9,gM 11 0 10 true,gM 12 2 10 true,gB 13 .leq 11 12 10 true,iP 14 10 13,iM 6 14]
def AX:aC:=(sq jg (sq jh .ret))
def aJC:List Nat:=[]
def gin:aW:=⟨3,15,AX,[.tmp 6]⟩
def w8:Rg:=[iA 1 (.box true (Tm 0)),iT 2 false]
def w9:Rg:=[iF 3 1 1,iL 4 3,iK 5 128 4,iC 6 .gtr 5 0,iM 2 6]
def DS:aC:=(sq w8 (sq w9 .ret))
def anL:List Nat:=[1]
def Ic:aW:=⟨1,7,DS,[.tmp 2]⟩
def Xr:Rg:=[iA 1 (.box true (Tm 0)),iT 2 false]
def Xs:Rg:=[iO 6 3 1,iK 7 116 6,iM 5 7,iE 8 5 0,iE 9 5 1,iA 3 (.alloc [zB,.aB,.aB]),iS 3 3 8,iM 4 9]
def UI:Rg:=[iM 10 4,iC 11 .eql 10 0,iM 12 11,gF 13 0 3 12 true,gL 14 13 12 true,iG 15 (.un .not (Tm 14)) 12 true,iP 16 12 15,iM 17 16,gF 18 1 3 17 true,gL 19 18 17 true,gK 20 128 19 17 true,gC 21 .leq 20 32 17 true,iP 22 17 21,iM 23 22,gF 24 2 3 23 true,gL 25 24 23 true,gK 26 128 25 23 true,gC 27 .leq 26 32 23 true,iP 28 23 27,iM 2 28]
def QB:aC:=(sq Xr (sq Xs (sq UI .ret)))
def aDS:List Nat:=[1]
def auY:aW:=⟨1,29,QB,[.tmp 2]⟩
def Xw:Rg:=[iA 1 (.box true (Tm 0)),iT 2 false]
def Xx:Rg:=[iA 8 (.call 115 [(Ci 1),(Ci 1)]),iM 7 8,iE 9 7 0,iE 10 7 1,iA 3 (.alloc [zB,.aB,.aB]),iS 3 3 9,iM 4 10]
def Xy:Rg:=[iO 12 3 1,iO 13 3 3,iK2 14 114 12 13,iM 11 14,iE 15 11 0,iE 16 11 1,iM 5 15,iM 6 16]
def ss:Rg:=[iM 17 6,iC 18 .eql 17 0,iM 19 18,gM 20 5 19 true,gC 21 .leq 20 0 19 true,iP 22 19 21,iM 2 22]
def QD:aC:=(sq Xw (sq Xx (sq Xy (sq ss .ret))))
def aDW:List Nat:=[1]
def gone:aW:=⟨1,23,QD,[.tmp 2]⟩
def In:Rg:=[iT 4 false]
def Io:Rg:=[iM 7 0,iN 8 7,iI 9 0]
def Ip:Rg:=[iB 10 .lss 9 8]
def Iq:Rg:=[iX 11 3 7 9,iO 12 3 11,iA 6 (.alloc [zB,.aB,.aB]),iS 3 6 12]
def Ir:Rg:=[iM 13 1,iO 14 3 6,iA 15 (.aSY (Tm 13) [(Tm 14)]),iA 16 (.un .not (Tm 15))]
def Is:Rg:=[iT 4 false]
def It:Rg:=[iC 17 .add 9 1,iM 9 17]
def Im:aC:=(sq Ip (.seq (.cond (Tm 10) .skip (.exit 0)) (.seq (.block 1 (sq Iq (sq Ir (.cond (Tm 16) (sq Is .ret) .skip)))) (.region It))))
def Iu:Rg:=[iT 4 true]
def IP:aC:=(sq In (.seq (sq Io (.block 0 (.loop Im))) (sq Iu .ret)))
def auR:List Nat:=[]
def ahE:aW:=⟨2,18,IP,[.tmp 4]⟩
def Iw:Rg:=[iT 4 false]
def Ix:Rg:=[iM 7 0,iN 8 7,iI 9 0]
def Iy:Rg:=[iB 10 .lss 9 8]
def Iz:Rg:=[iX 11 1 7 9,iL 12 11,iM 6 12]
def I0:Rg:=[iM 13 1,iM 14 6,iA 15 (.aSY (Tm 13) [(Tm 14)]),iA 16 (.un .not (Tm 15))]
def I1:Rg:=[iT 4 false]
def I2:Rg:=[iC 17 .add 9 1,iM 9 17]
def Iv:aC:=(sq Iy (.seq (.cond (Tm 10) .skip (.exit 0)) (.seq (.block 1 (sq Iz (sq I0 (.cond (Tm 16) (sq I1 .ret) .skip)))) (.region I2))))
def I3:Rg:=[iT 4 true]
def IQ:aC:=(sq Iw (.seq (sq Ix (.block 0 (.loop Iv))) (sq I3 .ret)))
def auT:List Nat:=[]
def ahF:aW:=⟨2,18,IQ,[.tmp 4]⟩
def Ie:Rg:=[iT 4 false]
def If:Rg:=[iM 7 0,iN 8 7,iI 9 0]
def Ig:Rg:=[iB 10 .lss 9 8]
def Ih:Rg:=[iX 11 1 7 9,iL 12 11,iM 6 12]
def Ii:Rg:=[iM 13 1,iM 14 6,iA 15 (.aSY (Tm 13) [(Tm 14)]),iA 16 (.un .not (Tm 15))]
def Ij:Rg:=[iT 4 false]
def Ik:Rg:=[iC 17 .add 9 1,iM 9 17]
def Id:aC:=(sq Ig (.seq (.cond (Tm 10) .skip (.exit 0)) (.seq (.block 1 (sq Ih (sq Ii (.cond (Tm 16) (sq Ij .ret) .skip)))) (.region Ik))))
def Il:Rg:=[iT 4 true]
def IN:aC:=(sq Ie (.seq (sq If (.block 0 (.loop Id))) (sq Il .ret)))
def auP:List Nat:=[]
def ahD:aW:=⟨2,18,IN,[.tmp 4]⟩
def xa:Rg:=[iT 2 false]
def xb:Rg:=[iM 3 0,iM 2 3]
def DT:aC:=(sq xa (sq xb .ret))
def anN:List Nat:=[]
def I7:aW:=⟨1,4,DT,[.tmp 2]⟩
def I8:Rg:=[iA 1 (.box true (Tm 0)),iT 2 false]
def I9:Rg:=[iF 8 3 1,iL 9 8,iN 10 9,iA 11 (.aSD 1 1 [zB] (Tm 10) (Tm 10)),iM 3 11]
def Ja:Rg:=[iI 4 0]
def Jb:Rg:=[iM 12 4,iM 13 3,iN 14 13,iB 15 .leq 12 14]
def Jc:Rg:=[iM 18 3,iN 19 18,iI 20 0]
def ZG:Rg:=[iB 21 .lss 20 19]
def Jd:Rg:=[iM 22 20,iM 5 22]
def ZH:Rg:=[iM 23 3,iM 24 5,iM 25 3,iM 26 5,iX 27 1 25 26,iL 28 27,iM 29 28,gF 30 3 1 29 false,gL 31 30 29 false,gM 32 5 29 false,iG 33 (.aSM 3 (Tm 31) (Tm 32)) 29 false,gO 34 3 33 29 false,gK 35 97 34 29 false,iQ 36 29 35,iX 37 1 23 24,iS 1 37 36]
def ZI:Rg:=[iF 38 2 1,iL 39 38,iM 40 5,iX 41 1 39 40,iL 42 41,iN 43 42,iI 44 0]
def Je:Rg:=[iB 45 .lss 44 43]
def xd:Rg:=[iM 46 44,iX 47 3 42 44,iO 48 3 47,iA 7 (.alloc [zB,.aB,.aB]),iM 6 46,iS 3 7 48]
def PY:Rg:=[iM 49 3,iM 50 5,iM 51 3,iM 52 5,iX 53 1 51 52,iL 54 53,iM 55 54,gO 56 3 7 55 false,gK 57 97 56 55 false,gM 58 57 55 false,gM 59 3 58 true,gM 60 6 58 true,iG 61 (.aSM 1 (Tm 59) (Tm 60)) 58 true,gL 62 61 58 true,iG 63 (.pick (Tm 58) (Tm 62) (.const zB)) 55 false,iQ 64 55 63,iX 65 1 49 50,iS 1 65 64]
def CJ:Rg:=[iC 66 .add 44 1,iM 44 66]
def CH:aC:=(sq Je (.seq (.cond (Tm 45) .skip (.exit 4)) (.seq (.block 5 (sq xd (.region PY))) (.region CJ))))
def PZ:Rg:=[iC 67 .add 20 1,iM 20 67]
def CI:aC:=(sq ZG (.seq (.cond (Tm 21) .skip (.exit 2)) (.seq (.block 3 (sq Jd (sq ZH (sq ZI (.block 4 (.loop CH)))))) (.region PZ))))
def xe:Rg:=[iM 16 4,iC 17 .add 16 1,iM 4 17]
def xc:aC:=(.seq (sq Jb (.cond (Tm 15) .skip (.exit 0))) (.seq (.block 1 (sq Jc (.block 2 (.loop CI)))) (.region xe)))
def xf:Rg:=[iM 68 3,iA 69 (.call 98 [(Tm 68),(.const (.fn 103 []))]),iM 2 69]
def IR:aC:=(sq I8 (sq I9 (.seq (sq Ja (.block 0 (.loop xc))) (sq xf .ret))))
def auW:List Nat:=[1]
def ahJ:aW:=⟨1,70,IR,[.tmp 2]⟩
def Xj:Rg:=[iA 1 (.box true (Tm 0)),iT 2 false]
def Xk:Rg:=[iF 12 1 1,iL 13 12,iN 14 13,iM 3 14]
def Xl:Rg:=[iM 15 3,iA 16 (.call 104 [(Tm 15),(Ci 1),(Ci 4)]),iA 17 (.un .not (Tm 16)),iM 18 17,gF 19 3 1 18 false,gL 20 19 18 false,gN 21 20 18 false,gM 22 3 18 false,gB 23 .neq 21 22 18 false,iQ 24 18 23,iM 25 24,gF 26 2 1 25 false,gL 27 26 25 false,gN 28 27 25 false,gM 29 3 25 false,gB 30 .neq 28 29 25 false,iQ 31 25 30,iM 32 31,gF 33 1 1 32 false,gL 34 33 32 false,iG 35 (.call 99 [(Tm 34),(.const (.fn 105 []))]) 32 false,iG 36 (.un .not (Tm 35)) 32 false,iQ 37 32 36,iM 38 37,gF 39 3 1 38 false,gL 40 39 38 false,iG 41 (.call 99 [(Tm 40),(.const (.fn 105 []))]) 38 false,iG 42 (.un .not (Tm 41)) 38 false,iQ 43 38 42]
def zW:Rg:=[iT 2 false]
def Xm:Rg:=[iF 44 2 1,iL 45 44,iN 46 45,iI 47 0]
def Xn:Rg:=[iB 48 .lss 47 46]
def Xo:Rg:=[iM 49 47,iX 50 1 45 47,iL 51 50,iM 4 49,iM 5 51]
def Xp:Rg:=[iM 52 5,iN 53 52,iM 54 3,iB 55 .neq 53 54,iM 56 55,gM 57 5 56 false,iG 58 (.call 99 [(Tm 57),(.const (.fn 105 []))]) 56 false,iG 59 (.un .not (Tm 58)) 56 false,iQ 60 56 59,iM 61 60,gM 62 5 61 false,gM 63 4 61 false,iG 64 (.aSM 3 (Tm 62) (Tm 63)) 61 false,gO 65 3 64 61 false,gK 66 97 65 61 false,iQ 67 61 66]
def UH:Rg:=[iT 2 false]
def Xq:Rg:=[iC 68 .add 47 1,iM 47 68]
def Jf:aC:=(sq Xn (.seq (.cond (Tm 48) .skip (.exit 0)) (.seq (.block 1 (sq Xo (sq Xp (.cond (Tm 67) (sq UH .ret) .skip)))) (.region Xq))))
def ZJ:Rg:=[iF 70 1 1,iL 71 70,iK 72 117 71,iM 69 72,iE 73 69 0,iE 74 69 1,iA 6 (.alloc [zB,.aB,.aB]),iS 3 6 73,iM 7 74]
def IS:Rg:=[iA 76 (.call 115 [(Ci 1),(Ci 1)]),iM 75 76,iE 77 75 0,iE 78 75 1,iA 8 (.alloc [zB,.aB,.aB]),iS 3 8 77,iM 9 78]
def IT:Rg:=[iO 80 3 6,iO 81 3 8,iK2 82 114 80 81,iM 79 82,iE 83 79 0,iE 84 79 1,iM 10 83,iM 11 84]
def vN:Rg:=[iM 85 7,iC 86 .eql 85 0,iM 87 86,gM 88 10 87 true,gC 89 .eql 88 0 87 true,iP 90 87 89,iM 91 90,gO 92 4 1 91 true,gK 93 102 92 91 true,iP 94 91 93,iM 2 94]
def QA:aC:=(sq Xj (sq Xk (.seq (sq Xl (.cond (Tm 43) (sq zW .ret) .skip)) (.seq (sq Xm (.block 0 (.loop Jf))) (sq ZJ (sq IS (sq IT (sq vN .ret))))))))
def aDQ:List Nat:=[1]
def auX:aW:=⟨1,95,QA,[.tmp 2]⟩
def Jt:Rg:=[iT 2 false]
def Ju:Rg:=[iA 6 (.aTD (false,[.str])),iM 3 6]
def Jv:Rg:=[iM 7 0,iN 8 7,iI 9 0]
def Jw:Rg:=[iB 10 .lss 9 8]
def Jx:Rg:=[iX 11 1 7 9,iL 12 11,iM 5 12]
def Jy:Rg:=[iM 13 5,iK 14 123 13,iA 15 (.un .not (Tm 14)),iM 16 15,gM 17 3 16 false,gM 18 5 16 false,iG 19 (.lookup (false,[.str]) zB (Tm 17) (Tm 18) false) 16 false,iQ 20 16 19]
def ZN:Rg:=[iT 2 false]
def Jz:Rg:=[iM 21 3,iM 22 5,⟨none,.aSN (false,[.str]) (Tm 21) (Tm 22) (.const (.bool true)),none⟩]
def J0:Rg:=[iC 23 .add 9 1,iM 9 23]
def Js:aC:=(sq Jw (.seq (.cond (Tm 10) .skip (.exit 0)) (.seq (.block 1 (sq Jx (.seq (sq Jy (.cond (Tm 20) (sq ZN .ret) .skip)) (.region Jz)))) (.region J0))))
def xi:Rg:=[iT 2 true]
def IW:aC:=(sq Jt (sq Ju (.seq (sq Jv (.block 0 (.loop Js))) (sq xi .ret))))
def avH:List Nat:=[]
def ahP:aW:=⟨1,24,IW,[.tmp 2]⟩
def sn:Rg:=[iA 1 (.box true (Tm 0)),iT 2 false]
def sr:Rg:=[iF 6 3 1,iL 7 6,iN 8 7,iC 9 .eql 8 0]
def Xd:Rg:=[iT 2 false]
def Xe:Rg:=[iF 10 3 1,iL 11 10,iA 12 (.aSM 7 (Tm 11) (Ci 0)),iO 13 7 12,iA 3 (.alloc [(.str []),zI,zI,zI,zB,.aB,.aB]),iS 7 3 13]
def zV:Rg:=[iF 14 0 3,iL 15 14,iA 16 (.bin .neq (Tm 15) (.const (.str []))),iM 17 16,gF 18 1 3 17 false,gL 19 18 17 false,gC 20 .neq 19 0 17 false,iQ 21 17 20,iM 22 21,gF 23 2 3 22 false,gL 24 23 22 false,gC 25 .neq 24 (-1) 22 false,iQ 26 22 25,iM 27 26,gF 28 3 3 27 false,gL 29 28 27 false,gC 30 .neq 29 0 27 false,iQ 31 27 30,iM 32 31,gF 33 4 3 32 false,gO 34 3 33 32 false,gK 35 105 34 32 false,iG 36 (.un .not (Tm 35)) 32 false,iQ 37 32 36,iM 38 37,gF 39 4 3 38 false,gO 40 3 39 38 false,gK 41 97 40 38 false,iQ 42 38 41]
def vM:Rg:=[iT 2 false]
def Xf:Rg:=[iF 43 3 1,iL 44 43,iA 45 (.slice 7 (Tm 44) (some (Ci 1)) none none),iN 46 45,iI 47 0]
def Xg:Rg:=[iB 48 .lss 47 46]
def Xh:Rg:=[iM 49 47,iX 50 7 45 47,iO 51 7 50,iA 5 (.alloc [(.str []),zI,zI,zI,zB,.aB,.aB]),iM 4 49,iS 7 5 51]
def Xi:Rd:=[(iF 52 2 5,false),(iL 53 52,false),(iM 54 4,false),(iA 55 (.call 104 [(Tm 53),(Ci 0),(Tm 54)]),true),(iA 56 (.un .not (Tm 55)),false),(iM 57 56,false),(gF 58 3 1 57 false,false),(gL 59 58 57 false,false),(gF 60 2 5 57 false,false),(gL 61 60 57 false,false),(iG 62 (.aSM 7 (Tm 59) (Tm 61)) 57 false,false),(gF 63 1 62 57 false,false),(gL 64 63 57 false,false),(gF 65 1 5 57 false,false),(gL 66 65 57 false,false),(gC 67 .sub 66 1 57 false,false),(gB 68 .neq 64 67 57 false,false),(iQ 69 57 68,false),(iM 70 69,false),(gF 71 1 5 70 false,false),(gL 72 71 70 false,false),(iG 73 (.call 104 [(Tm 72),(Ci 1),(Ci 4)]) 70 false,true),(iG 74 (.un .not (Tm 73)) 70 false,false),(iQ 75 70 74,false),(iM 76 75,false),(gF 77 3 5 76 false,false),(gL 78 77 76 false,false),(iG 79 (.call 104 [(Tm 78),(Ci 1),(Ci 64)]) 76 false,true),(iG 80 (.un .not (Tm 79)) 76 false,false),(iQ 81 76 80,false),(iM 82 81,false),(gF 83 4 5 82 false,false),(gO 84 3 83 82 false,false),(gK 85 105 84 82 false,true),(iG 86 (.un .not (Tm 85)) 82 false,false),(iQ 87 82 86,false)]
def vL:Rg:=[iT 2 false]
def I5:Rg:=[iC 88 .add 47 1,iM 47 88]
def I4:aC:=(sq Xg (.seq (.cond (Tm 48) .skip (.exit 0)) (.seq (.block 1 (sq Xh (dq Xi (.cond (Tm 87) (sq vL .ret) .skip)))) (.region I5))))
def I6:Rg:=[iT 2 true]
def CG:aC:=(sq sn (.seq (sq sr (.cond (Tm 9) (sq Xd .ret) .skip)) (sq Xe (.seq (sq zV (.cond (Tm 42) (sq vM .ret) .skip)) (.seq (sq Xf (.block 0 (.loop I4))) (sq I6 .ret))))))
def aDO:List Nat:=[1]
def ahH:aW:=⟨1,89,CG,[.tmp 2]⟩
def Jg:Rg:=[iT 2 false]
def Jh:Rg:=[iM 3 0,iA 4 (.call 104 [(Tm 3),(Ci 0),(Ci 8)]),iM 2 4]
def IU:aC:=(sq Jg (sq Jh .ret))
def avB:List Nat:=[]
def ahL:aW:=⟨1,5,IU,[.tmp 2]⟩
def Xt:Rg:=[iA 7 (.box true (Tm 3)),iT 8 false]
def Xu:Rg:=[iM 9 0,iA 10 (.call 104 [(Tm 9),(Ci 1),(Ci 6)]),iA 11 (.un .not (Tm 10)),iM 12 11,gM 13 1 12 false,iG 14 (.call 104 [(Tm 13),(Ci 0),(Ci 4)]) 12 false,iG 15 (.un .not (Tm 14)) 12 false,iQ 16 12 15,iM 17 16,gM 18 0 17 false,gM 19 1 17 false,gB 20 .add 18 19 17 false,gC 21 .gtr 20 8 17 false,iQ 22 17 21,iM 23 22,gM 24 2 23 false,gM 25 0 23 false,gM 26 0 23 false,gM 27 1 23 false,gB 28 .add 26 27 23 false,iG 29 (.call 104 [(Tm 24),(Tm 25),(Tm 28)]) 23 false,iG 30 (.un .not (Tm 29)) 23 false,iQ 31 23 30,iM 32 31,iG 33 (.idxA 5 1 (Tm 7) (Ci 0)) 32 false,gL 34 33 32 false,gC 35 .neq 34 0 32 false,iQ 36 32 35]
def zX:Rg:=[iT 8 false]
def Xv:Rg:=[iA 37 (.sliceA 5 1 (Tm 7) none none none),iA 38 (.call 100 [(Tm 37),(.const (.fn 107 []))]),iM 8 38]
def QC:aC:=(sq Xt (.seq (sq Xu (.cond (Tm 36) (sq zX .ret) .skip)) (sq Xv .ret)))
def aDU:List Nat:=[7]
def auZ:aW:=⟨4,39,QC,[.tmp 8]⟩
def xg:Rg:=[iA 1 (.box true (Tm 0)),iT 2 false]
def xh:Rg:=[iO 3 3 1,iK 4 105 3,iM 5 4,gO 6 3 1 5 true,gK 7 97 6 5 true,iP 8 5 7,iM 2 8]
def DU:aC:=(sq xg (sq xh .ret))
def anQ:List Nat:=[1]
def Jl:aW:=⟨1,9,DU,[.tmp 2]⟩
def Jm:Rg:=[iA 6 (.box true (Tm 2)),iA 7 (.box true (Tm 3)),iT 8 false]
def Jn:Rg:=[iM 9 1,iN 10 9,iM 11 0,iA 12 (.aSQ true (Tm 11) (Ci 1)),iB 13 .eql 10 12,iM 14 13,gM 15 1 14 true,iG 16 (.call 99 [(Tm 15),(.const (.fn 109 []))]) 14 true,iP 17 14 16,iM 18 17,gO 19 3 6 18 true,gK 20 105 19 18 true,iP 21 18 20,iM 22 21,gO 23 3 6 22 true,gK 24 101 23 22 true,iP 25 22 24,iM 26 25,gO 27 3 7 26 true,gK 28 105 27 26 true,iP 29 26 28,iM 8 29]
def IV:aC:=(sq Jm (sq Jn .ret))
def avE:List Nat:=[6,7]
def ahM:aW:=⟨4,30,IV,[.tmp 8]⟩
def Xz:Rg:=[iA 2 (.box true (Tm 0)),iT 4 false]
def X0:Rg:=[iF 8 1 2,iL 9 8,iF 10 2 2,iL 11 10,iF 12 3 2,iL 13 12,iF 14 4 2,iO 15 5 14,iA 16 (.call 106 [(Tm 9),(Tm 11),(Tm 13),(Tm 15)]),iA 17 (.un .not (Tm 16)),iM 18 17,gF 19 9 2 18 false,gL 20 19 18 false,gN 21 20 18 false,gC 22 .eql 21 0 18 false,iQ 23 18 22,iM 24 23,gF 25 2 2 24 false,gL 26 25 24 false,gF 27 10 2 24 false,gL 28 27 24 false,gF 29 11 2 24 false,gO 30 3 29 24 false,gF 31 14 2 24 false,gO 32 3 31 24 false,iG 33 (.call 108 [(Tm 26),(Tm 28),(Tm 30),(Tm 32)]) 24 false,iG 34 (.un .not (Tm 33)) 24 false,iQ 35 24 34]
def UJ:Rg:=[iT 4 false]
def X1:Rg:=[iM 36 1,iA 37 (.aSD 1 1 [zB] (Tm 36) (Tm 36)),iM 5 37]
def X2:Rg:=[iF 38 9 2,iL 39 38,iN 40 39,iI 41 0]
def X3:Rg:=[iB 42 .lss 41 40]
def X4:Rg:=[iX 43 1 39 41,iL 44 43,iM 7 44]
def X5:Rg:=[iM 45 7,iM 46 1,iC 47 .sub 46 1,iA 48 (.call 104 [(Tm 45),(Ci 0),(Tm 47)]),iA 49 (.un .not (Tm 48)),iM 50 49,gM 51 5 50 false,gM 52 7 50 false,iG 53 (.aSM 1 (Tm 51) (Tm 52)) 50 false,gL 54 53 50 false,iQ 55 50 54]
def su:Rg:=[iT 4 false]
def X6:Rg:=[iM 56 5,iM 57 7,iX 58 1 56 57,⟨none,.store 1 (Tm 58) (.const (.bool true)),none⟩]
def Jj:Rg:=[iC 59 .add 41 1,iM 41 59]
def Ji:aC:=(sq X3 (.seq (.cond (Tm 42) .skip (.exit 0)) (.seq (.block 1 (sq X4 (.seq (sq X5 (.cond (Tm 55) (sq su .ret) .skip)) (.region X6)))) (.region Jj))))
def Jk:Rg:=[iT 4 true]
def QE:aC:=(sq Xz (.seq (sq X0 (.cond (Tm 35) (sq UJ .ret) .skip)) (sq X1 (.seq (sq X2 (.block 0 (.loop Ji))) (sq Jk .ret)))))
def aDY:List Nat:=[2]
def avC:aW:=⟨2,60,QE,[.tmp 4]⟩
def X7:Rg:=[iA 1 (.box true (Tm 0)),iI 2 0]
def X8:Rg:=[iF 21 0 1,iL 22 21,iA 23 (.call 104 [(Tm 22),(Ci 1),(Ci 4)]),iA 24 (.un .not (Tm 23)),iM 25 24,gF 26 1 1 25 false,gL 27 26 25 false,gN 28 27 25 false,gC 29 .gtr 28 4 25 false,iQ 30 25 29,iM 31 30,gF 32 2 1 31 false,gL 33 32 31 false,gN 34 33 31 false,gC 35 .gtr 34 4 31 false,iQ 36 31 35,iM 37 36,gF 38 3 1 37 false,gL 39 38 37 false,gN 40 39 37 false,gC 41 .gtr 40 40 37 false,iQ 42 37 41,iM 43 42,gF 44 4 1 43 false,gL 45 44 43 false,gN 46 45 43 false,gC 47 .gtr 46 24 43 false,iQ 48 43 47,iM 49 48,gF 50 5 1 49 false,gL 51 50 49 false,gN 52 51 49 false,gC 53 .gtr 52 4 49 false,iQ 54 49 53,iM 55 54,gF 56 6 1 55 false,gL 57 56 55 false,gN 58 57 55 false,gC 59 .gtr 58 12 55 false,iQ 60 55 59,iM 61 60,gO 62 7 1 61 false,gK 63 111 62 61 false,iG 64 (.un .not (Tm 63)) 61 false,iQ 65 61 64]
def qR:Rg:=[iI 2 1]
def X9:Rg:=[iZ 3,iZ 4,iZ 5,iZ 6,iZ 7]
def Ya:Rg:=[iT 8 true]
def sv:Rg:=[iF 66 1 1,iL 67 66,iN 68 67,iI 69 0]
def Yb:Rg:=[iB 70 .lss 69 68]
def Yc:Rg:=[iX 71 4 67 69,iO 72 4 71,iA 10 (.alloc [(.str []),.aB,.aB,.aB]),iS 4 10 72]
def Yd:Rg:=[iM 73 3,iF 74 0 10,iL 75 74,iA 76 (.aSA true 1 1 [(.str [])] [(0,(Tm 75))]),iA 77 (.append 1 16 (Tm 73) (Tm 76)),iM 3 77]
def sw:Rg:=[iM 78 8,iM 79 78,gO 80 4 10 79 true,gK 81 95 80 79 true,iP 82 79 81,iM 8 82]
def ZO:Rg:=[iC 83 .add 69 1,iM 69 83]
def IX:aC:=(sq Yb (.seq (.cond (Tm 70) .skip (.exit 0)) (.seq (.block 1 (sq Yc (sq Yd (.region sw)))) (.region ZO))))
def ZP:Rg:=[iF 84 2 1,iL 85 84,iN 86 85,iI 87 0]
def J1:Rg:=[iB 88 .lss 87 86]
def J2:Rg:=[iX 89 4 85 87,iO 90 4 89,iA 12 (.alloc [(.str []),zI,zI,zI]),iS 4 12 90]
def J3:Rg:=[iM 91 4,iF 92 0 12,iL 93 92,iA 94 (.aSA true 1 1 [(.str [])] [(0,(Tm 93))]),iA 95 (.append 1 16 (Tm 91) (Tm 94)),iM 4 95]
def ZQ:Rg:=[iM 96 8,iM 97 96,gF 98 1 12 97 true,gL 99 98 97 true,iG 100 (.call 104 [(Tm 99),(Ci 1),(Ci 16)]) 97 true,iP 101 97 100,iM 102 101,gF 103 2 12 102 true,gL 104 103 102 true,iG 105 (.call 104 [(Tm 104),(Ci 1),(Ci 64)]) 102 true,iP 106 102 105,iM 107 106,gF 108 3 12 107 true,gL 109 108 107 true,gF 110 1 1 107 true,gL 111 110 107 true,gN 112 111 107 true,gC 113 .sub 112 1 107 true,iG 114 (.call 104 [(Tm 109),(Ci 0),(Tm 113)]) 107 true,iP 115 107 114,iM 8 115]
def BA:Rg:=[iC 116 .add 87 1,iM 87 116]
def IY:aC:=(sq J1 (.seq (.cond (Tm 88) .skip (.exit 2)) (.seq (.block 3 (sq J2 (sq J3 (.region ZQ)))) (.region BA))))
def ZR:Rg:=[iF 117 3 1,iL 118 117,iA 119 (.slice 7 (Tm 118) (some (Ci 1)) none none),iN 120 119,iI 121 0]
def J4:Rg:=[iB 122 .lss 121 120]
def J5:Rg:=[iX 123 7 119 121,iO 124 7 123,iA 14 (.alloc [(.str []),zI,zI,zI,zB,.aB,.aB]),iS 7 14 124]
def J6:Rg:=[iM 125 5,iF 126 0 14,iL 127 126,iA 128 (.aSA true 1 1 [(.str [])] [(0,(Tm 127))]),iA 129 (.append 1 16 (Tm 125) (Tm 128)),iM 5 129]
def J7:Rg:=[iC 130 .add 121 1,iM 121 130]
def IZ:aC:=(sq J4 (.seq (.cond (Tm 122) .skip (.exit 4)) (.seq (.block 5 (sq J5 (.region J6))) (.region J7))))
def ZS:Rg:=[iF 131 4 1,iL 132 131,iN 133 132,iI 134 0]
def J8:Rg:=[iB 135 .lss 134 133]
def J9:Rg:=[iX 136 3 132 134,iO 137 3 136,iA 16 (.alloc [(.str []),zI,zI]),iS 3 16 137]
def Ka:Rg:=[iM 138 5,iF 139 0 16,iL 140 139,iA 141 (.aSA true 1 1 [(.str [])] [(0,(Tm 140))]),iA 142 (.append 1 16 (Tm 138) (Tm 141)),iM 5 142]
def ZT:Rg:=[iM 143 8,iM 144 143,gF 145 1 16 144 true,gL 146 145 144 true,gF 147 2 1 144 true,gL 148 147 144 true,gN 149 148 144 true,gC 150 .sub 149 1 144 true,iG 151 (.call 104 [(Tm 146),(Ci 0),(Tm 150)]) 144 true,iP 152 144 151,iM 153 152,gF 154 2 16 153 true,gL 155 154 153 true,gF 156 3 1 153 true,gL 157 156 153 true,gN 158 157 153 true,gC 159 .sub 158 1 153 true,iG 160 (.call 104 [(Tm 155),(Ci 0),(Tm 159)]) 153 true,iP 161 153 160,iM 162 161,gF 163 3 1 162 true,gL 164 163 162 true,gF 165 2 16 162 true,gL 166 165 162 true,iG 167 (.aSM 7 (Tm 164) (Tm 166)) 162 true,gF 168 1 167 162 true,gL 169 168 162 true,gC 170 .eql 169 4 162 true,iP 171 162 170,iM 8 171]
def vO:Rg:=[iC 172 .add 134 1,iM 134 172]
def JA:aC:=(sq J8 (.seq (.cond (Tm 135) .skip (.exit 6)) (.seq (.block 7 (sq J9 (sq Ka (.region ZT)))) (.region vO))))
def ZU:Rg:=[iF 173 5 1,iL 174 173,iN 175 174,iI 176 0]
def Kb:Rg:=[iB 177 .lss 176 175]
def Kc:Rg:=[iX 178 17 174 176,iO 179 17 178,iA 18 (.alloc [(.str []),zI,zI,zI,zI,zI,zI,zI,zI,.aB,.aB,zB,.aB,.aB,zB,.aB,.aB]),iS 17 18 179]
def Kd:Rg:=[iM 180 6,iF 181 0 18,iL 182 181,iA 183 (.aSA true 1 1 [(.str [])] [(0,(Tm 182))]),iA 184 (.append 1 16 (Tm 180) (Tm 183)),iM 6 184]
def ZV:Rg:=[iM 185 8,iM 186 185,gO 187 17 18 186 true,gF 188 2 1 186 true,gL 189 188 186 true,gN 190 189 186 true,gK2 191 112 187 190 186 true,iP 192 186 191,iM 8 192]
def ZW:Rg:=[iC 193 .add 176 1,iM 176 193]
def JB:aC:=(sq Kb (.seq (.cond (Tm 177) .skip (.exit 8)) (.seq (.block 9 (sq Kc (sq Kd (.region ZV)))) (.region ZW))))
def ZX:Rg:=[iF 194 6 1,iL 195 194,iN 196 195,iI 197 0]
def Ke:Rg:=[iB 198 .lss 197 196]
def Kf:Rg:=[iX 199 2 195 197,iO 200 2 199,iA 20 (.alloc [(.str []),zI]),iS 2 20 200]
def Kg:Rg:=[iM 201 7,iF 202 0 20,iL 203 202,iA 204 (.aSA true 1 1 [(.str [])] [(0,(Tm 203))]),iA 205 (.append 1 16 (Tm 201) (Tm 204)),iM 7 205]
def ZY:Rg:=[iM 206 8,iM 207 206,gF 208 1 20 207 true,gL 209 208 207 true,gF 210 5 1 207 true,gL 211 210 207 true,gN 212 211 207 true,gC 213 .sub 212 1 207 true,iG 214 (.call 104 [(Tm 209),(Ci 0),(Tm 213)]) 207 true,iP 215 207 214,iM 8 215]
def ZZ:Rg:=[iC 216 .add 197 1,iM 197 216]
def JC:aC:=(sq Ke (.seq (.cond (Tm 198) .skip (.exit 10)) (.seq (.block 11 (sq Kf (sq Kg (.region ZY)))) (.region ZZ))))
def BB:Rg:=[iM 217 8,iA 218 (.un .not (Tm 217)),iM 219 218,gM 220 3 219 false,gK 221 110 220 219 false,iG 222 (.un .not (Tm 221)) 219 false,iQ 223 219 222,iM 224 223,gM 225 4 224 false,gK 226 110 225 224 false,iG 227 (.un .not (Tm 226)) 224 false,iQ 228 224 227,iM 229 228,gM 230 5 229 false,gK 231 110 230 229 false,iG 232 (.un .not (Tm 231)) 229 false,iQ 233 229 232,iM 234 233,gM 235 6 234 false,gK 236 110 235 234 false,iG 237 (.un .not (Tm 236)) 234 false,iQ 238 234 237,iM 239 238,gM 240 7 239 false,gK 241 110 240 239 false,iG 242 (.un .not (Tm 241)) 239 false,iQ 243 239 242]
def oW:Rg:=[iI 2 1]
def JD:Rg:=[iI 2 0]
def QF:aC:=(sq X7 (.seq (sq X8 (.cond (Tm 65) (sq qR .ret) .skip)) (sq X9 (sq Ya (.seq (sq sv (.block 0 (.loop IX))) (.seq (sq ZP (.block 2 (.loop IY))) (.seq (sq ZR (.block 4 (.loop IZ))) (.seq (sq ZS (.block 6 (.loop JA))) (.seq (sq ZU (.block 8 (.loop JB))) (.seq (sq ZX (.block 10 (.loop JC))) (.seq (sq BB (.cond (Tm 243) (sq oW .ret) .skip)) (sq JD .ret))))))))))))
def aEB:List Nat:=[1,76,94,128,141,183,204]
def avI:aW:=⟨1,244,QF,[.tmp 2]⟩
@[go_sem] theorem aLT (a b:List UInt8):OW .eql a b=some (.bool (a==b)):=(rfl)
@[go_sem] theorem aLU (a b:List UInt8):OW .neq a b=some (.bool !(a==b)):=(rfl)
@[go_sem] theorem agD (a b:List UInt8):OW .add a b=if ((a.length+b.length:Nat):Int)>9223372036854775807 then none else some (.str (a++b)):=(rfl)
@[go_sem] theorem aIC:(([]:List UInt8)==[])=true:=(rfl)
@[go_sem] theorem aCE (c:UInt8) (t:List UInt8):((c::t)==[])=false:=(rfl)
theorem qO {a b:List UInt8} (h:a=b):(a==b)=true:=by simp[h]
theorem gy {a b:List UInt8} (h:a≠b):(a==b)=false:=by simp[h]
section
variable {C:Ctx} {F:PF} {H:PH}
theorem rR {name o s:Nat} {rs:List (List PV)} {vs:List PV} {v:PV} {args:List aN} {d:Option Nat} {K:PF→PH→Prop} (h:aG C name vs .nil (aI v)) (l:H o=some (.rows s rs))
  (j:aN.evs (F.frz o s rs) args=some vs) (e:K ((F.frz o s rs).put d v) (H.frz o s rs)):hC C name args [] d K F H:=by
 refine .inr ⟨_,_,.step o l (.refl _ _),vs,.nil,aI v,?_,a_,h,?_⟩
 ·rw[j]; simp
 ·rintro r H' ⟨rfl,rfl⟩ -;rw[PH.nJ];exact e
theorem jE.trans {e j l:PF} {u H2 w:PH} (h:jE e u j H2) (k:jE j H2 l w):jE e u l w:=by
 induction h with
 | refl=>exact k
 | step o x h y=>exact .step o x (y k)
theorem rI {c:aC} {K:cE} {s:Nat} {v:PV} {rows:List (List PV)} (N:cA H s v rows)
  (h:∀ l,Seen s l rows→∀ e w,(∀ t,F t=some v→e t=some l)→(∀ i u,F i=some u→Pure u→e i=some u)→aC.wp C (.loop c) K e w):aC.wp C (.loop c) K F H:=by
 obtain⟨l,O,M⟩:=N.frz;obtain⟨e,w,R,I,J⟩:=M F;obtain⟨α,A,Hs,B,m,E,y,H2,x,j⟩:=h l O e w I J;exact⟨α,A,Hs,B,m,E,y,H2,R.trans x,j⟩
theorem aG.ajW {name s:Nat} {v:PV} {rows:List (List PV)} {l:PH} {R:PV→PH→Prop} (h:aG C name [.sl s rows] l R) (u:Seen s v rows):aG C name [v] l R:=by
 rcases u with ⟨rfl,rfl⟩ | rfl
 ·refine h.args ⟨rfl,fun j p q e hq=>?_⟩;cases j with
  | zero=>simp at e hq; subst e; subst hq; exact .nil s
  | succ j=>simp at e
 ·exact h
theorem cA.fresh {s:Nat} {v:PV} {rows:List (List PV)} {o:Nat} (h:cA H s v rows) (u:H o=none) (x:bO):cA (H.set o x) s v rows∧∀ l,v≠.osl o s 0 l:=by
 refine⟨h.ext fun q y hq=>?_,fun l e=>?_⟩
 ·have:q≠o:=by rintro rfl; rw[u] at hq; cases hq
  simp only[aT,if_neg this,hq]
 ·rcases h with ⟨_,j⟩ | ⟨q,rs,h1,j,_⟩
  ·rw[j] at e; cases e
  ·rw[h1] at e;injection e with w
   subst w;rw[u] at j; cases j
theorem nZ {s b:Nat} {v:PV} {rows:List (List PV)} {r:List PV} {o:Nat} {x:bO} {K:PV→PH→Prop} (h:cA H s v rows) (w:H o=none) (A:roomFor rows.length 1 b)
  (u:∀ v' H',cA H' s v' (rows++[r])→H' o=some x→K v' H'):lM (H.set o x) s b v (.sl s [r]) K:=by
 obtain⟨e,j⟩:=h.fresh w x;refine jF (src:=[r]) e (by simp[eR]) A fun v' H' l y=>u v' H' l (y o x (by simp only[aT,if_true]) j)
theorem vK {o s k:Nat} {rs:List (List PV)} (e:k≤rs.length):PV.frz o s rs (.osl o s 0 k)=.sl s (rs.take k):=by
 have:0+k≤rs.length:=Om;simp only[PV.frz,PV.qC,PV.cH,if_true,true_and,if_pos this,aUV]
end
def fJ (n:Nat):Bool:=decide (97≤n)&&decide (n≤122)||decide (65≤n)&&decide (n≤90)
def mZ (n:Nat):Bool:=decide (48≤n)&&decide (n≤57)
def fY (n:Nat):Bool:=fJ n||mZ n||decide (n=45)||decide (n=46)
theorem aiE {C:Ctx} (n:Nat):mM.wp C (aR UM.res (aI (.bool (fJ n)))) (PF.args [.int .u8 n]) .nil:=by
 have fin:∀ (F:PF) (b:Bool),F 2=some (.bool b)→b=fJ n→aR UM.res (aI (.bool (fJ n))) .ret F .nil:=by intro F b h e;subst e;refine aQ (.inr rfl) (vs:=[.bool (fJ n)]) (by simp only[go_sem,UM,h]) rfl
 unfold fJ at *
 by_cases a:97≤n
 ·have j:(n:Int)≥97:=Om;by_cases b:n≤122
  ·have u:(n:Int)≤122:=Om;simp only[go_sem,mM,qT,qU,j,u];exact fin _ _ rfl (by simp[a,b])
  ·have u:¬ (n:Int)≤122:=Om;by_cases c:65≤n
   ·have l:(n:Int)≥65:=Om;have d:¬ (n:Int)≤90:=Om;simp only[go_sem,mM,qT,qU,j,u,l,d];exact fin _ _ rfl (by simp[a,b,c]; omega)
   ·omega
 ·have j:¬ (n:Int)≥97:=Om;by_cases c:65≤n
  ·have l:(n:Int)≥65:=Om;by_cases d:n≤90
   ·have w:(n:Int)≤90:=Om;simp only[go_sem,mM,qT,qU,j,l,w];exact fin _ _ rfl (by simp[a,c,d])
   ·have w:¬ (n:Int)≤90:=Om;simp only[go_sem,mM,qT,qU,j,l,w];exact fin _ _ rfl (by simp[a,c,d])
  ·have l:¬ (n:Int)≥65:=Om;simp only[go_sem,mM,qT,qU,j,l];exact fin _ _ rfl (by simp[a,c])
theorem anW {C:Ctx} (n:Nat):rP.wp C (aR jn.res (aI (.bool (mZ n)))) (PF.args [.int .u8 n]) .nil:=by
 have fin:∀ (F:PF) (b:Bool),F 2=some (.bool b)→b=mZ n→aR jn.res (aI (.bool (mZ n))) .ret F .nil:=by intro F b h e;subst e;refine aQ (.inr rfl) (vs:=[.bool (mZ n)]) (by simp only[go_sem,jn,h]) rfl
 unfold mZ at *
 by_cases a:48≤n
 ·have j:(n:Int)≥48:=Om;by_cases b:n≤57
  ·have l:(n:Int)≤57:=Om;simp only[go_sem,rP,CL,CM,j,l];exact fin _ _ rfl (by simp[a,b])
  ·have l:¬ (n:Int)≤57:=Om;simp only[go_sem,rP,CL,CM,j,l];exact fin _ _ rfl (by simp[a,b])
 ·have j:¬ (n:Int)≥48:=Om;simp only[go_sem,rP,CL,CM,j];exact fin _ _ rfl (by simp[a])
theorem aoB {C:Ctx} (u:∀ n:Nat,aG C 126 [.int .u8 n] .nil (aI (.bool (fJ n)))) (w:∀ n:Nat,aG C 124 [.int .u8 n] .nil (aI (.bool (mZ n)))) (n:Nat) :
  DW.wp C (aR jp.res (aI (.bool (fY n)))) (PF.args [.int .u8 n]) .nil:=by
 have fin:∀ (F:PF) (b:Bool),F 2=some (.bool b)→b=fY n→aR jp.res (aI (.bool (fY n))) .ret F .nil:=by intro F b h e;subst e;refine aQ (.inr rfl) (vs:=[.bool (fY n)]) (by simp only[go_sem,jp,h]) rfl
 simp only[go_sem,DW,xp,xq];refine aA (u n) rfl ?_;cases l:fJ n with
 | true =>simp only[go_sem];exact fin _ _ rfl (by simp[fY,l])
 | false =>
  simp only[go_sem];refine aA (w n) rfl ?_;cases j:mZ n with
  | true =>simp only[go_sem];exact fin _ _ rfl (by simp[fY,j])
  | false =>
   by_cases c:n=45
   ·simp only[go_sem,bP (Om:(n:Int)=45)];exact fin _ _ rfl (by simp[fY,c])
   ·by_cases d:n=46
    ·simp only[go_sem,bE (Om:(n:Int)≠45),bP (Om:(n:Int)=46)];exact fin _ _ rfl (by simp[fY,d])
    ·simp only[go_sem,bE (Om:(n:Int)≠45),bE (Om:(n:Int)≠46)];exact fin _ _ rfl (by simp[fY,c,d,l,j])
def isName (s:List UInt8):Bool:=match s with
 | []=>false
 | c::_=>decide (s.length≤16)&&fJ c.toNat&&s.all fun c=>fY c.toNat
theorem pV {α:Type} {p:α→Bool} {l:List α} {k:Nat} (e:k<l.length) (h:(l.take k).all p=true) (j:p l[k]=true):(l.take (k+1)).all p=true:=by
 rw[aVS e,List.all_append,h]; simp[j]
theorem pW {α:Type} {p:α→Bool} {l:List α} {k:Nat} (e:k<l.length) (j:p l[k]=false):l.all p=false:=by
 rw[List.all_eq_false];exact⟨l[k],aTN e,by simp[j]⟩
def Kt (s:List UInt8) (k:Nat):PF:=((PF.nil.set 0 (.str s)).set 3 (.int .i64 k))
theorem avV {C:Ctx} (B:∀ n:Nat,aG C 126 [.int .u8 n] .nil (aI (.bool (fJ n)))) (E:∀ n:Nat,aG C 125 [.int .u8 n] .nil (aI (.bool (fY n)))) (s:List UInt8) :
  uB.wp C (aR D4.res (aI (.bool (isName s)))) (PF.args [.str s]) .nil:=by
 have fin:∀ (F:PF) (b:Bool),F 2=some (.bool b)→b=isName s→aR D4.res (aI (.bool (isName s))) .ret F .nil:=by intro F b h e;subst e;refine aQ (.inr rfl) (vs:=[.bool (isName s)]) (by simp only[go_sem,D4,h]) rfl
 cases s with
 | nil =>simp only[go_sem,uB,JK,JL,JM];exact fin _ _ rfl rfl
 | cons c t =>
  have J:(c::t)[0]?=some c:=rfl;have w:(c::t==[])=false:=rfl;have u:isName (c::t)=(decide ((c::t).length≤16)&&fJ c.toNat&&(c::t).all fun c=>fY c.toNat):=rfl;generalize c::t=s at *
  by_cases A:s.length≤16
  ·have l:¬ (s.length:Int)>16:=Om;rw[decide_eq_true A,aTY] at u;simp only[go_sem,uB,JK,JL,w,l,J,aUO];refine aA (B c.toNat) rfl ?_;cases y:fJ c.toNat with
   | false =>simp only[go_sem,aTZ,JM];exact fin _ _ rfl (by rw[u,y]; rfl)
   | true =>
    rw[y,aTY] at u;simp only[go_sem,aTV,Kv];refine wp_loop (α:=Nat) (fun k=>Kt s k) (fun _=>.nil) (fun k=>k≤s.length∧(s.take k).all (fun c=>fY c.toNat)=true) (fun k=>s.length-k) 0 ⟨aTQ _,rfl⟩ ?_ a_ ?_
    ·unfold Kt;exact Lq
    rintro k ⟨K,x⟩;simp only[go_sem,Ku,Kw,Kt];by_cases hlt:k<s.length
    ·have j:(k:Int)<(s.length:Nat):=Om;have I:s[k]?=some s[k]:=aTP hlt;simp only[go_sem,j,Kx,I,aUO];refine aA (E (s[k]).toNat) rfl ?_;cases hi:fY (s[k]).toNat with
     | false =>simp only[go_sem,aTZ,Ky];refine fin _ false rfl ?_;rw[u,pW hlt hi]
     | true =>simp only[go_sem,aTV,Kz,wZz k];refine aH (k+1) ⟨hlt,aUH.1 (pV hlt x hi)⟩ Om ?_ a_;exact Lq
    ·have j:¬ (k:Int)<(s.length:Nat):=Om;simp only[go_sem,j,K0];have:k=s.length:=Om;subst this;rw[aUB (aTO _)] at x;exact fin _ true rfl (by rw[u,x])
  ·have l:(s.length:Int)>16:=Om;simp only[go_sem,uB,JK,JL,JM,w,l];exact fin _ _ rfl (by rw[u,decide_eq_false A]; rfl)
abbrev dN (x:Int):Prop:=-9223372036854775808≤x∧x≤9223372036854775807
structure cI where
 name:List UInt8
 start:List RF
 aRZ:List (List RF)
 exit:List RF
structure cZ where
 name:List UInt8
 aSL:Int
 port:Int
 law:Int
structure cN where
 name:List UInt8
 level:Int
 parent:Int
 aSP:Int
 aSK:RF
structure dQ where
 name:List UInt8
 model:Int
 machine:Int
structure dD where
 name:List UInt8
 k:Int
 m:Int
 aST:Int
 s0:Int
 s1:Int
 s2:Int
 s3:Int
 s4:Int
 aRV:List Int
 repair:List RF
 target:RF
 aSF:RF
structure fE where
 name:List UInt8
 aSH:Int
structure aD where
 aTA:Int
 aSC:List cI
 aRV:List cZ
 aRX:List cN
 aRU:List dQ
 aRY:List dD
 aRW:List fE
abbrev ajV (l:List (List RF)):PV:=.sl 1 (l.map fun r=>[frs r])
abbrev cI.cells (x:cI):List PV:=[.str x.name,frs x.start,ajV x.aRZ,frs x.exit]
abbrev cZ.cells (x:cZ):List PV:=[.str x.name,.int .i64 x.aSL,.int .i64 x.port,.int .i64 x.law]
abbrev cN.cells (x:cN):List PV:=[.str x.name,.int .i64 x.level,.int .i64 x.parent,.int .i64 x.aSP,.bool x.aSK.neg,aK x.aSK.num,aK x.aSK.den]
abbrev dQ.cells (x:dQ):List PV:=[.str x.name,.int .i64 x.model,.int .i64 x.machine]
abbrev dD.cells (x:dD):List PV:=[.str x.name,.int .i64 x.k,.int .i64 x.m,.int .i64 x.aST,.int .i64 x.s0,.int .i64 x.s1,.int .i64 x.s2,.int .i64 x.s3,.int .i64 x.s4,ints x.aRV,frs x.repair,
 .bool x.target.neg,aK x.target.num,aK x.target.den,.bool x.aSF.neg,aK x.aSF.num,aK x.aSF.den]
abbrev fE.cells (x:fE):List PV:=[.str x.name,.int .i64 x.aSH]
abbrev aD.cells (f:aD):List PV:=[.int .i64 f.aTA,.sl 4 (f.aSC.map cI.cells),.sl 4 (f.aRV.map cZ.cells),.sl 7 (f.aRX.map cN.cells),.sl 3 (f.aRU.map dQ.cells),.sl 17 (f.aRY.map dD.cells),.sl 2 (f.aRW.map fE.cells)]
def dD.spread (p:dD) (level:Nat):Int:=match level with
 | 0=>p.s0
 | 1=>p.s1
 | 2=>p.s2
 | 3=>p.s3
 | _=>p.s4
abbrev Fits {α:Type} (l:List α):Prop:=l.length≤9223372036854775807
structure kR (l:List RF):Prop where
 fits:Fits l
 all:∀ x∈l,x.Ok
structure cI.Ok (x:cI):Prop where
 start:kR x.start
 exit:kR x.exit
 aRZ:Fits x.aRZ
 row:∀ r∈x.aRZ,kR r
structure dD.Ok (x:dD):Prop where
 k:dN x.k
 m:dN x.m
 aST:dN x.aST
 aRV:Fits x.aRV
 each:∀ m∈x.aRV,dN m
 repair:kR x.repair
 target:x.target.Ok
 aSF:x.aSF.Ok
structure aD.Ok (f:aD):Prop where
 aSC:Fits f.aSC
 aRV:Fits f.aRV
 aRX:Fits f.aRX
 aRU:Fits f.aRU
 aRY:Fits f.aRY
 aRW:Fits f.aRW
 law:∀ x∈f.aSC,x.Ok
 dom:∀ x∈f.aRX,x.aSK.Ok∧dN x.level∧dN x.parent
 drive:∀ x∈f.aRU,dN x.model∧dN x.machine
 aSH:∀ x∈f.aRY,x.Ok
 volume:∀ x∈f.aRW,dN x.aSH
def pN (x:RF):FR:=if dC (val x.num) (val x.den) then jN x.neg (val x.num) (val x.den) else .error 1
theorem ajQ (x:RF):UW x.neg (val x.num) (val x.den)=frV (pN x):=by
 unfold UW pN;split
 ·exact s9 _ _ _
 ·rfl
def dB (x:RF):Bool:=match pN x with
 | .ok (n,a,b)=>!n&&(decide (cW a≤32)&&decide (cW b≤32))
 | .error _=>false
def bJ (x:RF):Bool:=decide (val x.num≠0)
def xV (x:RF):Bool:=dC (val x.num) (val x.den)&&decide (qE x.neg (val x.num) (val x.den) false 1 1≤0)
def within (n lo hi:Int):Bool:=decide (lo≤n)&&decide (n≤hi)
def cT (R:List Bool) (i:Nat) (row:List RF):Nat→List Bool
 | 0=>R
 | k+1=>let e:=cT R i row k
  e.set i (e.getD i false||(row.map bJ).getD k false&&e.getD k false)
def lJ (l:cI) (R:List Bool) (i:Nat):List Bool :=
 cT (R.set i (R.getD i false||(l.exit.map bJ).getD i false)) i (l.aRZ.getD i []) (l.aRZ.getD i []).length
def dE (l:cI) (R:List Bool):Nat→List Bool
 | 0=>R
 | i+1=>lJ l (dE l R i) i
def dH (l:cI):Nat→List Bool
 | 0=>aTK l.exit.length false
 | r+1=>dE l (dH l r) l.exit.length
def pO (l:cI):Bool:=(dH l (l.exit.length+1)).all id
def kY (l:cI):Bool :=
 within l.start.length 1 4&&decide (l.exit.length=l.start.length)&&decide (l.aRZ.length=l.start.length)&&l.start.all dB&&l.exit.all dB
 && (aTI l.aRZ.length).all (fun i=>decide ((l.aRZ.getD i []).length=l.start.length)&&(l.aRZ.getD i []).all dB&&!((l.aRZ.getD i []).map bJ).getD i false)
 && (match oM (l.start.map RF.v) with
  | .ok (n,a,b)=>decide (qE n a b false 1 1=0)
  | .error _=>false)&&pO l
def distinct (l:List (List UInt8)):Bool:=(aTI l.length).all fun i=>isName (l.getD i [])&&!(l.take i).contains (l.getD i [])
def HX (f:aD) (i:Nat) (d:cN):Bool :=
 within d.parent 0 i&&decide ((f.aRX.map cN.level).getD d.parent.toNat 0=IntKind.i64.wrap (d.level-1))&&within d.level 1 4&&within d.aSP 1 64&&dB d.aSK
def CC (f:aD) (r:cN) (t:List cN):Bool :=
 decide (r.name=[])&&decide (r.level=0)&&decide (r.parent=-1)&&decide (r.aSP=0)&&dB r.aSK&&!bJ r.aSK
  && (aTI t.length).all fun i=>match t[i]? with
   | some d=>HX f i d
   | none=>false
def oT (f:aD):Bool:=match f.aRX with
 | []=>false
 | r::t=>CC f r t
def KV (p:dD):Bool :=
 within p.k 1 6&&within p.m 0 4&&decide (p.k+p.m≤8)&&within p.aST p.k (p.k+p.m)&&decide (p.s0=0)&&([p.s0,p.s1,p.s2,p.s3,p.s4].all fun n=>within n 0 8)
def CS (p:dD):Bool :=
 decide ((p.repair.length:Int)=max p.m 1)&&(p.repair.all fun x=>dB x&&bJ x)&&dB p.target&&xV p.target&&dB p.aSF
def kC (aRV:Nat) (p:dD):Bool :=
 KV p&&decide (p.aRV.length≠0)&&CS p&&(aTI p.aRV.length).all fun j=>within (p.aRV.getD j 0) 0 ((aRV:Int)-1)&&!(p.aRV.take j).contains (p.aRV.getD j 0)
def kZ (f:aD) (m:cZ):Bool:=within m.aSL 1 16&&within m.port 1 64&&within m.law 0 ((f.aSC.length:Int)-1)
def jP (f:aD) (d:dQ):Bool:=within d.model 0 ((f.aRV.length:Int)-1)&&within d.machine 0 ((f.aRX.length:Int)-1)&&decide ((f.aRX.map cN.level).getD d.machine.toNat 0=4)
def oZ (f:aD) (v:fE):Bool:=within v.aSH 0 ((f.aRY.length:Int)-1)
def oK (f:aD):Bool:=within f.aTA 1 4&&decide (f.aSC.length≤4)&&decide (f.aRV.length≤4)&&decide (f.aRX.length≤40)&&decide (f.aRU.length≤24)&&decide (f.aRY.length≤4)&&decide (f.aRW.length≤12)
def dA (f:aD):Bool :=
 oK f&&oT f&&(f.aSC.all kY&&f.aRV.all (kZ f)&&f.aRU.all (jP f)&&f.aRY.all (kC f.aRV.length)&&f.aRW.all (oZ f))
 && (distinct (f.aSC.map cI.name)&&distinct (f.aRV.map cZ.name)&&distinct ((f.aRX.drop 1).map cN.name++f.aRU.map dQ.name)&&distinct (f.aRY.map dD.name)&&distinct (f.aRW.map fE.name))
end Go.PM
