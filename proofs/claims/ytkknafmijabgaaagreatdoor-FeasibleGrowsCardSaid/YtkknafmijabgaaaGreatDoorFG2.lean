/-
  Texts of ours, joined. No condition.
-/
import Derived.Test.YtkknafmijabgaaaGreatDoorFG1
import Derived.ProofKit
import Derived.OpenShut
set_option linter.unusedSimpArgs false
set_option linter.unusedVariables false
open Nat renaming reduceEqDiff → γ, reduceAdd → δ, reduceSub → ε, reduceMul → ζ, reduceLT → η, reduceLeDiff → θ, reduceBEq → τ
open Int renaming reduceLT → ι, reduceLE → κ, reduceEq → μ, reduceToNat → ν, reduceAdd → ξ, reduceNeg → ο, reduceBEq → ρ, reduceBNe → σ
open List renaming reduceReplicate → υ
open List renaming length_map → aAA, range → aAB, replicate → aAC, length_append → aAE, getElem_mem → aAG, getElem?_eq_getElem → aAH, length_singleton → aAI, mem_cons → aAK, length_take → aAN, take_of_length_le → aAQ, getElem?_map → aAT, mem_range → aAU, mem_map → aAW, getElem?_eq_some_iff → aBD, append_assoc → aBE, map_cons → aBG, mem_append → aBH, all_eq_true → aBK, mem_singleton → aBL, drop_zero → aBM, getElem?_eq_none → aBN, length_drop → aBR, take_length → aBT, append_nil → aBU, length_cons → aBV, length_set → aBW, getElem?_append_right → aBY, getElem_of_mem → aBZ, mem_of_getElem? → aCA, getElem?_append_left → aCB, drop_eq_getElem_cons → aCK, length_nil → aCL, take_succ_eq_append_getElem → aCM, map_nil → aCP, getElem_map → aCW, take_append_drop → aDA, map_map → aDE, map_set → aDL, nil_append → aDN, getElem?_drop → aDO, set_append_right → aDQ, drop_of_length_le → aDW, set_cons_zero → aDX, length_replicate → aEA
open Nat renaming gcd → aAD, le_refl → aAF, mul_add → aAM, zero_le → aAP, lt_or_ge → aAV, zero_add → aAX, mul_assoc → aAZ, mul_comm → aBA, mul_le_mul_right → aBC, add_mul → aBI, add_zero → aBP, mod_eq_of_lt → aBQ, mod_lt → aBX, pow_succ → aCD, min_eq_left → aCF, eq_zero_or_pos → aCH, succ_mul → aCN, add_assoc → aCQ, mul_le_mul_left → aCR, pos_of_ne_zero → aCT, le_trans → aCX, pow_pos → aDB, div_eq_of_lt → aDG, div_le_self → aDH, div_lt_iff_lt_mul → aDI, mul_le_mul → aDJ, div_add_mod → aDS
open Option renaming map_eq_some_iff → aAJ, map_some → aBJ, some → aCI, getD_some → aCU, bind_eq_some_iff → aDT, bind_some → aDU
open Bool renaming and_eq_true → aAO, false_and → aAR, not_true → aAS, true_and → aBB, not_false → aBF, and_false → aBS, and_true → aCJ
open Array renaming length_toList → aDC
open Int renaming toNat_natCast → aDK
namespace Go.PM
open Go
attribute [go_sem] List.getElem?_cons_succ List.getElem?_cons_zero and_self and_true true_and or_true true_or or_false false_or aAS aBF aBJ aDU if_true if_false aBV aCL List.drop_succ_cons aBM List.take_succ_cons List.take_zero aBG aCP aCI.injEq PV.bool.injEq PV.int.injEq aO PV.bin
@[go_sem] theorem arT (k:IntKind) (a b:Int):lN .add k a b=some (.int k (k.wrap (a+b))):=(rfl)
@[go_sem] theorem asD (k:IntKind) (a b:Int):lN .sub k a b=some (.int k (k.wrap (a-b))):=(rfl)
@[go_sem] theorem arZ (k:IntKind) (a b:Int):lN .mul k a b=some (.int k (k.wrap (a*b))):=(rfl)
@[go_sem] theorem asB (k:IntKind) (a b:Int):lN .quo k a b=if b=0 then none else some (.int k (k.wrap (a.tdiv b))):=(rfl)
@[go_sem] theorem asC (k:IntKind) (a b:Int):lN .rem k a b=if b=0 then none else some (.int k (a.tmod b)):=(rfl)
@[go_sem] theorem arU (k:IntKind) (a b:Int):lN .eql k a b=some (.bool (a==b)):=(rfl)
@[go_sem] theorem asA (k:IntKind) (a b:Int):lN .neq k a b=some (.bool (a != b)):=(rfl)
@[go_sem] theorem arY (k:IntKind) (a b:Int):lN .lss k a b=some (.bool (decide (a<b))):=(rfl)
@[go_sem] theorem arX (k:IntKind) (a b:Int):lN .leq k a b=some (.bool (decide (a≤b))):=(rfl)
@[go_sem] theorem arW (k:IntKind) (a b:Int):lN .gtr k a b=some (.bool (decide (a>b))):=(rfl)
@[go_sem] theorem arV (k:IntKind) (a b:Int):lN .geq k a b=some (.bool (decide (a≥b))):=(rfl)
section
variable {C:Ctx} {K:cK} {F:PF} {H:PH}
@[go_sem] theorem awP:aE.wp C .skip K F H=K .normal F H:=(rfl)
@[go_sem] theorem atP (ops:List aU):aE.wp C (.region ops) K F H=wpOps C ops (K .normal) F H:=(rfl)
@[go_sem] theorem ko (a b:aE):aE.wp C (.seq a b) K F H=a.wp C (mE C (b.wp C) K) F H:=(rfl)
@[go_sem] theorem auZ (id:Nat) (c:aE):aE.wp C (.block id c) K F H=c.wp C (fZ id K) F H:=(rfl)
@[go_sem] theorem awO (id:Nat):aE.wp C (.exit id) K F H=K (.exit id) F H:=(rfl)
@[go_sem] theorem axA:aE.wp C .ret K F H=K .ret F H:=(rfl)
def PK (C:Ctx) (v:Option PV) (a b:aE) (K:cK) (F:PF) (H:PH):Prop :=
 match v with
 | some (.bool t)=>if t then a.wp C K F H else b.wp C K F H
 | _=>False
@[go_sem] theorem ahW (c:aN) (a b:aE):aE.wp C (.cond c a b) K F H=PK C (c.ev F) a b K F H:=(rfl)
@[go_sem] theorem asI (a b:aE):PK C (some (.bool true)) a b K F H=a.wp C K F H:=(rfl)
@[go_sem] theorem aqS (a b:aE):PK C (some (.bool false)) a b K F H=b.wp C K F H:=(rfl)
theorem abH {t:Bool} {a b:aE} (e:t=true→a.wp C K F H) (j:t=false→b.wp C K F H):PK C (some (.bool t)) a b K F H:=by
 cases t
 ·exact j rfl
 ·exact e rfl
@[go_sem] theorem arA (w:cK→PF→PH→Prop):mE C w K .normal F H=w K F H:=(rfl)
@[go_sem] theorem aqE (w:cK→PF→PH→Prop):mE C w K .normal=w K:=(rfl)
@[go_sem] theorem auM (w:cK→PF→PH→Prop) (id:Nat):mE C w K (.exit id)=K (.exit id):=(rfl)
@[go_sem] theorem awE (w:cK→PF→PH→Prop):mE C w K .ret=K .ret:=(rfl)
@[go_sem] theorem aoE (id:Nat):fZ id K .normal=K .normal:=(rfl)
@[go_sem] theorem asG (id:Nat):fZ id K .ret=K .ret:=(rfl)
@[go_sem] theorem BD (id e:Nat):fZ id K (.exit e) F H=if e=id then K .normal F H else K (.exit e) F H:=(rfl)
@[go_sem] theorem atN (K:PF→PH→Prop):wpOps C [] K F H=K F H:=(rfl)
@[go_sem] theorem atO (d:Option Nat) (op:POp) (e:List aU) (K:PF→PH→Prop):wpOps C (⟨d,op,none⟩::e) K F H=wpOp C op d (wpOps C e K) F H:=(rfl)
def wC (C:Ctx) (v:Option PV) (j:Bool) (op:POp) (d:Option Nat) (e:List aU) (K:PF→PH→Prop) (F:PF) (H:PH):Prop :=
 match v with
 | some (.bool b)=>if b=j then wpOp C op d (wpOps C e K) F H else wpOps C e K (F.put d (.tup [])) H
 | some (.tup [])=>wpOps C e K (F.put d (.tup [])) H
 | _=>False
@[go_sem] theorem Kd (d:Option Nat) (op:POp) (t:Nat) (j:Bool) (e:List aU) (K:PF→PH→Prop) :
  wpOps C (⟨d,op,some (t,j)⟩::e) K F H=wC C (F t) j op d e K F H:=(rfl)
@[go_sem] theorem auI (op:POp) (d:Option Nat) (e:List aU) (K:PF→PH→Prop):wC C (some (.bool true)) true op d e K F H=wpOp C op d (wpOps C e K) F H:=(rfl)
@[go_sem] theorem auF (op:POp) (d:Option Nat) (e:List aU) (K:PF→PH→Prop):wC C (some (.bool false)) false op d e K F H=wpOp C op d (wpOps C e K) F H:=(rfl)
@[go_sem] theorem auH (op:POp) (d:Option Nat) (e:List aU) (K:PF→PH→Prop):wC C (some (.bool true)) false op d e K F H=wpOps C e K (F.put d (.tup [])) H:=(rfl)
@[go_sem] theorem auG (op:POp) (d:Option Nat) (e:List aU) (K:PF→PH→Prop):wC C (some (.bool false)) true op d e K F H=wpOps C e K (F.put d (.tup [])) H:=(rfl)
@[go_sem] theorem aqX (j:Bool) (op:POp) (d:Option Nat) (e:List aU) (K:PF→PH→Prop):wC C (some (.tup [])) j op d e K F H=wpOps C e K (F.put d (.tup [])) H:=(rfl)
@[go_sem] theorem awA (d:Nat) (v:PV):F.put (some d) v=F.set d v:=(rfl)
@[go_sem] theorem avZ (v:PV):F.put none v=F:=(rfl)
@[go_sem] theorem mF (i j:Nat) (v:PV):(F.set i v) j=if j=i then some v else F j:=(rfl)
@[go_sem] theorem args_at (vs:List PV) (i:Nat):PF.args vs i=vs[i]?:=(rfl)
@[go_sem] theorem axF (i:Nat):PF.nil i=none:=(rfl)
@[go_sem] theorem vZ (t:Nat):(aN.tmp t).ev F=F t:=(rfl)
@[go_sem] theorem avO (v:PV):(aN.const v).ev F=some v:=(rfl)
@[go_sem] theorem aQ (i j:Nat) (x:bF):(H.set i x) j=if j=i then some x else H j:=(rfl)
@[go_sem] theorem iv (i:Nat):PH.nil i=none:=(rfl)
@[go_sem] theorem yG:aN.evs F []=some []:=(rfl)
@[go_sem] theorem nZ (x:aN) (xs:List aN):aN.evs F (x::xs)=(match x.ev F,aN.evs F xs with | some v,some vs=>some (v::vs) | _,_=>none):=(rfl)
theorem iY {i j:Nat} {x:bF}:(H.set i x) j=none↔j≠i∧H j=none:=by
 rw[aQ];split<;>simp_all
@[go_sem] theorem arB (v:PV) (d:Option Nat) (K:PF→PH→Prop):bQ (some v) d K F H=K (F.put d v) H:=by
 simp[bQ]
theorem aP {e:Nat→PV} {x:bF} {d:Option Nat} {K:PF→PH→Prop} (h:∀ o,H o=none→K (F.put d (e o)) (H.set o x)):mZ (some (e,x)) d K F H:=⟨e,x,rfl,h⟩
@[go_sem] theorem awY (x:aN) (d:Option Nat) (K:PF→PH→Prop):wpOp C (.mv x) d K F H=bQ (aO (.mv x) F H) d K F H:=(rfl)
@[go_sem] theorem auY (x:aN) (d:Option Nat) (K:PF→PH→Prop):wpOp C (.same x) d K F H=bQ (aO (.same x) F H) d K F H:=(rfl)
@[go_sem] theorem auX (c a b:aN) (d:Option Nat) (K:PF→PH→Prop):wpOp C (.pick c a b) d K F H=bQ (aO (.pick c a b) F H) d K F H:=(rfl)
@[go_sem] theorem awJ (o:BinOp) (x y:aN) (d:Option Nat) (K:PF→PH→Prop):wpOp C (.bin o x y) d K F H=bQ (aO (.bin o x y) F H) d K F H:=(rfl)
@[go_sem] theorem awL (n:Bool) (x y:aN) (d:Option Nat) (K:PF→PH→Prop):wpOp C (.eqb n x y) d K F H=bQ (aO (.eqb n x y) F H) d K F H:=(rfl)
@[go_sem] theorem awM (n:Bool) (e:List Sc) (x y:aN) (d:Option Nat) (K:PF→PH→Prop):wpOp C (.eqs n e x y) d K F H=bQ (aO (.eqs n e x y) F H) d K F H:=(rfl)
@[go_sem] theorem awZ (o:UnOp) (x:aN) (d:Option Nat) (K:PF→PH→Prop):wpOp C (.un o x) d K F H=bQ (aO (.un o x) F H) d K F H:=(rfl)
@[go_sem] theorem auQ (k:IntKind) (x:aN) (d:Option Nat) (K:PF→PH→Prop):wpOp C (.conv k x) d K F H=bQ (aO (.conv k x) F H) d K F H:=(rfl)
@[go_sem] theorem atG (z:List PV) (ps:List (Nat × Nat × aN)) (d:Option Nat) (K:PF→PH→Prop):wpOp C (.build z ps) d K F H=bQ (aO (.build z ps) F H) d K F H:=(rfl)
@[go_sem] theorem auV (n:Option Nat) (p:aN) (d:Option Nat) (K:PF→PH→Prop):wpOp C (.load n p) d K F H=bQ (aO (.load n p) F H) d K F H:=(rfl)
@[go_sem] theorem arM (x:aN) (d:Option Nat) (K:PF→PH→Prop):wpOp C (.azA x) d K F H=bQ (aO (.azA x) F H) d K F H:=(rfl)
@[go_sem] theorem arF (e:Nat) (x:aN) (d:Option Nat) (K:PF→PH→Prop):wpOp C (.azR e x) d K F H=bQ (aO (.azR e x) F H) d K F H:=(rfl)
@[go_sem] theorem atI (e:Nat) (n:Option Nat) (x:aN) (d:Option Nat) (K:PF→PH→Prop):wpOp C (.field e n x) d K F H=bQ (aO (.field e n x) F H) d K F H:=(rfl)
@[go_sem] theorem auS (s:Nat) (x i:aN) (d:Option Nat) (K:PF→PH→Prop):wpOp C (.azE s x i) d K F H=bQ (aO (.azE s x i) F H) d K F H:=(rfl)
@[go_sem] theorem auR (n s:Nat) (x i:aN) (d:Option Nat) (K:PF→PH→Prop):wpOp C (.idxA n s x i) d K F H=bQ (aO (.idxA n s x i) F H) d K F H:=(rfl)
@[go_sem] theorem auT (n s:Nat) (g:Bool) (x i:aN) (d:Option Nat) (K:PF→PH→Prop):wpOp C (.idxV n s g x i) d K F H=bQ (aO (.idxV n s g x i) F H) d K F H:=(rfl)
@[go_sem] theorem arG (x i:aN) (d:Option Nat) (K:PF→PH→Prop):wpOp C (.azP x i) d K F H=bQ (aO (.azP x i) F H) d K F H:=(rfl)
@[go_sem] theorem atL (s:Nat) (x:aN) (lo hi mx:Option aN) (d:Option Nat) (K:PF→PH→Prop):wpOp C (.slice s x lo hi mx) d K F H=bQ (aO (.slice s x lo hi mx) F H) d K F H:=(rfl)
@[go_sem] theorem arN (n s:Nat) (x:aN) (lo hi mx:Option aN) (d:Option Nat) (K:PF→PH→Prop):wpOp C (.sliceA n s x lo hi mx) d K F H=bQ (aO (.sliceA n s x lo hi mx) F H) d K F H:=(rfl)
@[go_sem] theorem aoH (x:aN) (lo hi:Option aN) (d:Option Nat) (K:PF→PH→Prop):wpOp C (.azK x lo hi) d K F H=bQ (aO (.azK x lo hi) F H) d K F H:=(rfl)
@[go_sem] theorem auJ:PV.tA .aA=some (.int .i64 0):=(rfl)
@[go_sem] theorem awX (s:Nat) (rows:List (List PV)):PV.tA (.sl s rows)=some (.int .i64 rows.length):=(rfl)
@[go_sem] theorem avV (o s e n:Nat):PV.tA (.osl o s e n)=some (.int .i64 n):=(rfl)
@[go_sem] theorem awN (x:aN) (d:Option Nat) (K:PF→PH→Prop):wpOp C (.len x) d K F H=bQ (aO (.len x) F H) d K F H:=(rfl)
@[go_sem] theorem arI (x:aN) (d:Option Nat) (K:PF→PH→Prop):wpOp C (.azO x) d K F H=bQ (aO (.azO x) F H) d K F H:=(rfl)
@[go_sem] theorem auU (x:aN) (d:Option Nat) (K:PF→PH→Prop):wpOp C (.lenM x) d K F H=bQ (aO (.lenM x) F H) d K F H:=(rfl)
@[go_sem] theorem atJ (n:Bool) (x:aN) (d:Option Nat) (K:PF→PH→Prop):wpOp C (.isNil n x) d K F H=bQ (aO (.isNil n x) F H) d K F H:=(rfl)
@[go_sem] theorem aqZ:PV.DU .aA=some true:=(rfl)
@[go_sem] theorem asV (o s e len:Nat):PV.DU (.osl o s e len)=some false:=(rfl)
@[go_sem] theorem aqY (s:Nat) (r:List PV) (rs:List (List PV)):PV.DU (.sl s (r::rs))=some false:=(rfl)
@[go_sem] theorem arE (x:aN) (d:Option Nat) (K:PF→PH→Prop):wpOp C (.azZ x) d K F H=bQ (aO (.azZ x) F H) d K F H:=(rfl)
@[go_sem] theorem aqP (x:aN) (i:Nat) (d:Option Nat) (K:PF→PH→Prop):wpOp C (.extract x i) d K F H=bQ (aO (.extract x i) F H) d K F H:=(rfl)
@[go_sem] theorem arL (m:Bool) (x y:aN) (d:Option Nat) (K:PF→PH→Prop):wpOp C (.azI m x y) d K F H=bQ (aO (.azI m x y) F H) d K F H:=(rfl)
@[go_sem] theorem auW (n:Nat) (cs:List aN) (d:Option Nat) (K:PF→PH→Prop):wpOp C (.mkfn n cs) d K F H=bQ (aO (.mkfn n cs) F H) d K F H:=(rfl)
@[go_sem] theorem arJ (sh:MSh) (z:PV) (x k:aN) (ok:Bool) (d:Option Nat) (K:PF→PH→Prop):wpOp C (.lookup sh z x k ok) d K F H=bQ (aO (.lookup sh z x k ok) F H) d K F H:=(rfl)
@[go_sem] theorem aoD (x:aN) (d:Option Nat) (K:PF→PH→Prop):wpOp C (.azB x) d K F H=bQ (aO (.azB x) F H) d K F H:=(rfl)
@[go_sem] theorem auO (x:aN) (d:Option Nat) (K:PF→PH→Prop):wpOp C (.box true x) d K F H=bQ (aO (.box true x) F H) d K F H:=(rfl)
@[go_sem] theorem aqO (s l:Nat) (z:List PV) (ps:List (Nat × aN)) (d:Option Nat) (K:PF→PH→Prop):wpOp C (.ayS true s l z ps) d K F H=bQ (aO (.ayS true s l z ps) F H) d K F H:=(rfl)
@[go_sem] theorem atF (cs:List PV) (d:Option Nat) (K:PF→PH→Prop):wpOp C (.alloc cs) d K F H=mZ (cW (.alloc cs) F) d K F H:=(rfl)
@[go_sem] theorem aqQ (s b:Nat) (z:List PV) (l c:aN) (d:Option Nat) (K:PF→PH→Prop):wpOp C (.ayV s b z l c) d K F H=mZ (cW (.ayV s b z l c) F) d K F H:=(rfl)
@[go_sem] theorem atK (sh:MSh) (d:Option Nat) (K:PF→PH→Prop):wpOp C (.azV sh) d K F H=mZ (cW (.azV sh) F) d K F H:=(rfl)
@[go_sem] theorem awK (x:aN) (d:Option Nat) (K:PF→PH→Prop):wpOp C (.box false x) d K F H=mZ (cW (.box false x) F) d K F H:=(rfl)
@[go_sem] theorem arD (s l:Nat) (z:List PV) (ps:List (Nat × aN)) (d:Option Nat) (K:PF→PH→Prop):wpOp C (.ayS false s l z ps) d K F H=mZ (cW (.ayS false s l z ps) F) d K F H:=(rfl)
@[go_sem] theorem atM (n:Nat) (p x:aN) (d:Option Nat) (K:PF→PH→Prop):wpOp C (.store n p x) d K F H=bX (.store n p x) F H (fun r H'=>K (F.put d r) H'):=(rfl)
@[go_sem] theorem arC (s b:Nat) (x y:aN) (d:Option Nat) (K:PF→PH→Prop):wpOp C (.append s b x y) d K F H=bX (.append s b x y) F H (fun r H'=>K (F.put d r) H'):=(rfl)
@[go_sem] theorem arK (sh:MSh) (x k v:aN) (d:Option Nat) (K:PF→PH→Prop):wpOp C (.azF sh x k v) d K F H=bX (.azF sh x k v) F H (fun r H'=>K (F.put d r) H'):=(rfl)
@[go_sem] theorem arH (sh:MSh) (x k v:aN) (d:Option Nat) (K:PF→PH→Prop):wpOp C (.insert sh x k v) d K F H=bX (.insert sh x k v) F H (fun r H'=>K (F.put d r) H'):=(rfl)
@[go_sem] theorem auP (n:Nat) (e:List aN) (d:Option Nat) (K:PF→PH→Prop):wpOp C (.call n e) d K F H=fU C n e [] d K F H:=(rfl)
@[go_sem] theorem atH (x:aN) (e:List aN) (d:Option Nat) (K:PF→PH→Prop):wpOp C (.azQ x e) d K F H=uW C (x.ev F) e d K F H:=(rfl)
@[go_sem] theorem atE (n:Nat) (cs:List PV) (e:List aN) (d:Option Nat) (K:PF→PH→Prop):uW C (some (.fn n cs)) e d K F H=fU C n e cs d K F H:=(rfl)
theorem PF.nil_le:PF.nil.le F:=fun _ _ h=>(by cases h)
abbrev c_:=@PF.nil_le
theorem PF.aF {i:Nat} {v:PV} {G:PF} (w:F.le G) (x:G i=some v):(F.set i v).le G:=by
 intro j u l;rw[mF] at l;split at l
 ·rename_i e; subst e; cases l; exact x
 ·exact w _ _ l
abbrev d_:=@PF.aF
theorem PF.le_refl:F.le F:=fun _ _ h=>h
theorem PH.nil_le:PH.nil.le H:=fun _ _ h=>(by cases h)
abbrev a_:=@PH.nil_le
theorem PH.aF {i:Nat} {x:bF} {G:PH} (w:H.le G) (y:G i=some x):(H.set i x).le G:=by
 intro j u l;rw[aQ] at l;split at l
 ·rename_i e; subst e; cases l; exact y
 ·exact w _ _ l
abbrev e_:=@PH.aF
theorem PH.le_refl:H.le H:=fun _ _ h=>h
abbrev b_:=@PH.le_refl
theorem wp_loop {c:aE} {α:Type} (e:α→PF) (Hs:α→PH) (j:α→Prop) (m:α→Nat) (l:α) (u:j l) (w:(e l).le F) (x:(Hs l).le H)
  (hb:∀ a,j a→c.wp C (jU e Hs j m (m a) K) (e a) (Hs a)):aE.wp C (.loop c) K F H :=
 ⟨α,e,Hs,j,m,l,F,H,.refl F H,u,w,x,hb⟩
theorem aL {α:Type} {e:α→PF} {Hs:α→PH} {j:α→Prop} {m:α→Nat} {n:Nat} (a:α) (l:j a) (x:m a<n) (u:(e a).le F) (w:(Hs a).le H):jU e Hs j m n K .normal F H :=
 ⟨a,F,H,.refl F H,l,x,u,w⟩
@[go_sem] theorem asY {α:Type} {e:α→PF} {Hs:α→PH} {j:α→Prop} {m:α→Nat} {n:Nat} (id:Nat):jU e Hs j m n K (.exit id)=K (.exit id):=(rfl)
@[go_sem] theorem auK {α:Type} {e:α→PF} {Hs:α→PH} {j:α→Prop} {m:α→Nat} {n:Nat}:jU e Hs j m n K .ret=K .ret:=(rfl)
def aM (v:PV) (r:PV) (H:PH):Prop:=r=v∧H=PH.nil
theorem PH.jK:H.over .nil .nil=H:=PH.ext fun o=>rfl
theorem Kc {name:Nat} {vs cs:List PV} {v:PV} {args:List aN} {d:Option Nat} {K:PF→PH→Prop} (h:aG C name (vs++cs) .nil (aM v)) (e:aN.evs F args=some vs)
  (j:K (F.put d v) H):fU C name args cs d K F H:=by
 refine .inl ⟨vs++cs,.nil,_,by rw[e]; rfl,a_,h,?_⟩;rintro r H' ⟨rfl,rfl⟩ _;rw[PH.jK];exact j
theorem aB {name:Nat} {vs:List PV} {v:PV} {args:List aN} {d:Option Nat} {K:PF→PH→Prop} (h:aG C name vs .nil (aM v)) (e:aN.evs F args=some vs)
  (j:K (F.put d v) H):fU C name args [] d K F H:=Kc (cs:=[]) (by rw[aBU]; exact h) e j
theorem cD {res:List dT} {vs:List PV} {v:PV} {e:kC} (he:e=.normal∨e=.ret) (h:dT.evs F H res=some vs) (x:dB vs=v):aT res (aM v) e F H:=by
 have j:∃ vs,dT.evs F H res=some vs∧∃ l w H2,iU (PF.nil.set 0 (dB vs)) H l w∧H2.le w∧∃ u,l 0=some u∧aM v u H2 :=
  ⟨vs,h,_,H,.nil,.refl _ _,a_,v,by rw[mF,if_pos rfl,x],rfl,rfl⟩
 rcases he with rfl | rfl<;>exact j
@[go_sem] theorem oS:dT.evs F H []=some []:=(rfl)
@[go_sem] theorem kP (x:dT) (xs:List dT):dT.evs F H (x::xs)=(match x.ev F H,dT.evs F H xs with | some v,some vs=>some (v::vs) | _,_=>none):=(rfl)
@[go_sem] theorem nM (t:Nat):dT.ev F H (.tmp t)=F t:=(rfl)
@[go_sem] theorem awC (t:Nat):dT.ev F H (.cell t none)=(match F t with | some p=>(match loadCells H p 1 with | some [v]=>some v | _=>none) | none=>none):=(rfl)
@[go_sem] theorem auL (t k:Nat):dT.ev F H (.cell t (some k))=(match F t with | some p=>(loadCells H p k).map .agg | none=>none):=(rfl)
end
section
variable {C:Ctx} {K:cK} {F:PF} {H Hs:PH} {S:Spec}
theorem bN {ops:List (aU × Bool)} (Hs:PH) (S:Spec) (e:Hs.le H) (h:wpD C Hs S ops (K .normal) F H):aE.wp C (.draw ops) K F H:=⟨Hs,S,e,h⟩
def dC:Spec:=fun _ _=>none
def dOp (C:Ctx) (Hs:PH) (S:Spec) (st:Bool) (op:POp) (d:Option Nat) (K:PF→PH→Prop) (F:PF) (H:PH):Prop:=(op.kind F).run C Hs S st (fun v H'=>K (F.put d v) H') H
@[go_sem] theorem awH (K:PF→PH→Prop):wpD C Hs S [] K F H=K F H:=(rfl)
@[go_sem] theorem awI (d:Option Nat) (op:POp) (st:Bool) (e:List (aU × Bool)) (K:PF→PH→Prop):wpD C Hs S ((⟨d,op,none⟩,st)::e) K F H=dOp C Hs S st op d (wpD C Hs S e K) F H:=(rfl)
def zG (C:Ctx) (Hs:PH) (S:Spec) (v:Option PV) (j st:Bool) (op:POp) (d:Option Nat) (e:List (aU × Bool)) (K:PF→PH→Prop) (F:PF) (H:PH):Prop :=
 match v with
 | some (.bool b)=>if b=j then dOp C Hs S st op d (wpD C Hs S e K) F H else wpD C Hs S e K (F.put d (.tup [])) H
 | some (.tup [])=>wpD C Hs S e K (F.put d (.tup [])) H
 | _=>False
@[go_sem] theorem auN (d:Option Nat) (op:POp) (t:Nat) (e st:Bool) (j:List (aU × Bool)) (K:PF→PH→Prop) :
  wpD C Hs S ((⟨d,op,some (t,e)⟩,st)::j) K F H=zG C Hs S (F t) e st op d j K F H:=by
 have l:wpD C Hs S ((⟨d,op,some (t,e)⟩,st)::j) K F H=((⟨d,op,some (t,e)⟩:aU).kind F).run C Hs S st (fun v H'=>wpD C Hs S j K (F.put d v) H') H:=(rfl);rw[l];unfold aU.kind zG;simp only;cases F t with
 | none=>rfl
 | some v =>
  cases v
  case bool b =>
   simp only;by_cases hb:b=e
   ·rw[if_pos hb,if_pos hb]; rfl
   ·rw[if_neg hb,if_neg hb]; simp[Kind.run]
  case tup vs=>cases vs<;>simp[Kind.run]
  all_goals rfl
@[go_sem] theorem auE (op:POp) (st:Bool) (d:Option Nat) (e:List (aU × Bool)) (K:PF→PH→Prop):zG C Hs S (some (.bool true)) true st op d e K F H=dOp C Hs S st op d (wpD C Hs S e K) F H:=(rfl)
@[go_sem] theorem auB (op:POp) (st:Bool) (d:Option Nat) (e:List (aU × Bool)) (K:PF→PH→Prop):zG C Hs S (some (.bool false)) false st op d e K F H=dOp C Hs S st op d (wpD C Hs S e K) F H:=(rfl)
@[go_sem] theorem auD (op:POp) (st:Bool) (d:Option Nat) (e:List (aU × Bool)) (K:PF→PH→Prop):zG C Hs S (some (.bool true)) false st op d e K F H=wpD C Hs S e K (F.put d (.tup [])) H:=(rfl)
@[go_sem] theorem auC (op:POp) (st:Bool) (d:Option Nat) (e:List (aU × Bool)) (K:PF→PH→Prop):zG C Hs S (some (.bool false)) true st op d e K F H=wpD C Hs S e K (F.put d (.tup [])) H:=(rfl)
@[go_sem] theorem aqW (j:Bool) (op:POp) (st:Bool) (d:Option Nat) (e:List (aU × Bool)) (K:PF→PH→Prop):zG C Hs S (some (.tup [])) j st op d e K F H=wpD C Hs S e K (F.put d (.tup [])) H:=(rfl)
@[go_sem] theorem axB (x:aN) (st:Bool) (d:Option Nat) (K:PF→PH→Prop):dOp C Hs S st (.mv x) d K F H=bQ (aO (.mv x) F (if st then Hs else H)) d K F H:=(rfl)
@[go_sem] theorem avN (x:aN) (st:Bool) (d:Option Nat) (K:PF→PH→Prop):dOp C Hs S st (.same x) d K F H=bQ (aO (.same x) F (if st then Hs else H)) d K F H:=(rfl)
@[go_sem] theorem avM (c a b:aN) (st:Bool) (d:Option Nat) (K:PF→PH→Prop):dOp C Hs S st (.pick c a b) d K F H=bQ (aO (.pick c a b) F (if st then Hs else H)) d K F H:=(rfl)
@[go_sem] theorem awQ (o:BinOp) (x y:aN) (st:Bool) (d:Option Nat) (K:PF→PH→Prop):dOp C Hs S st (.bin o x y) d K F H=bQ (aO (.bin o x y) F (if st then Hs else H)) d K F H:=(rfl)
@[go_sem] theorem awS (n:Bool) (x y:aN) (st:Bool) (d:Option Nat) (K:PF→PH→Prop):dOp C Hs S st (.eqb n x y) d K F H=bQ (aO (.eqb n x y) F (if st then Hs else H)) d K F H:=(rfl)
@[go_sem] theorem awT (n:Bool) (e:List Sc) (x y:aN) (st:Bool) (d:Option Nat) (K:PF→PH→Prop):dOp C Hs S st (.eqs n e x y) d K F H=bQ (aO (.eqs n e x y) F (if st then Hs else H)) d K F H:=(rfl)
@[go_sem] theorem axC (o:UnOp) (x:aN) (st:Bool) (d:Option Nat) (K:PF→PH→Prop):dOp C Hs S st (.un o x) d K F H=bQ (aO (.un o x) F (if st then Hs else H)) d K F H:=(rfl)
@[go_sem] theorem avF (k:IntKind) (x:aN) (st:Bool) (d:Option Nat) (K:PF→PH→Prop):dOp C Hs S st (.conv k x) d K F H=bQ (aO (.conv k x) F (if st then Hs else H)) d K F H:=(rfl)
@[go_sem] theorem atS (z:List PV) (ps:List (Nat × Nat × aN)) (st:Bool) (d:Option Nat) (K:PF→PH→Prop):dOp C Hs S st (.build z ps) d K F H=bQ (aO (.build z ps) F (if st then Hs else H)) d K F H:=(rfl)
@[go_sem] theorem avK (n:Option Nat) (p:aN) (st:Bool) (d:Option Nat) (K:PF→PH→Prop):dOp C Hs S st (.load n p) d K F H=bQ (aO (.load n p) F (if st then Hs else H)) d K F H:=(rfl)
@[go_sem] theorem asS (x:aN) (st:Bool) (d:Option Nat) (K:PF→PH→Prop):dOp C Hs S st (.azA x) d K F H=bQ (aO (.azA x) F (if st then Hs else H)) d K F H:=(rfl)
@[go_sem] theorem asM (e:Nat) (x:aN) (st:Bool) (d:Option Nat) (K:PF→PH→Prop):dOp C Hs S st (.azR e x) d K F H=bQ (aO (.azR e x) F (if st then Hs else H)) d K F H:=(rfl)
@[go_sem] theorem atT (e:Nat) (n:Option Nat) (x:aN) (st:Bool) (d:Option Nat) (K:PF→PH→Prop):dOp C Hs S st (.field e n x) d K F H=bQ (aO (.field e n x) F (if st then Hs else H)) d K F H:=(rfl)
@[go_sem] theorem avH (s:Nat) (x i:aN) (st:Bool) (d:Option Nat) (K:PF→PH→Prop):dOp C Hs S st (.azE s x i) d K F H=bQ (aO (.azE s x i) F (if st then Hs else H)) d K F H:=(rfl)
@[go_sem] theorem avG (n s:Nat) (x i:aN) (st:Bool) (d:Option Nat) (K:PF→PH→Prop):dOp C Hs S st (.idxA n s x i) d K F H=bQ (aO (.idxA n s x i) F (if st then Hs else H)) d K F H:=(rfl)
@[go_sem] theorem avI (n s:Nat) (g:Bool) (x i:aN) (st:Bool) (d:Option Nat) (K:PF→PH→Prop):dOp C Hs S st (.idxV n s g x i) d K F H=bQ (aO (.idxV n s g x i) F (if st then Hs else H)) d K F H:=(rfl)
@[go_sem] theorem asN (x i:aN) (st:Bool) (d:Option Nat) (K:PF→PH→Prop):dOp C Hs S st (.azP x i) d K F H=bQ (aO (.azP x i) F (if st then Hs else H)) d K F H:=(rfl)
@[go_sem] theorem atW (s:Nat) (x:aN) (lo hi mx:Option aN) (st:Bool) (d:Option Nat) (K:PF→PH→Prop):dOp C Hs S st (.slice s x lo hi mx) d K F H=bQ (aO (.slice s x lo hi mx) F (if st then Hs else H)) d K F H:=(rfl)
@[go_sem] theorem apF (x:aN) (lo hi:Option aN) (st:Bool) (d:Option Nat) (K:PF→PH→Prop):dOp C Hs S st (.azK x lo hi) d K F H=bQ (aO (.azK x lo hi) F (if st then Hs else H)) d K F H:=(rfl)
@[go_sem] theorem awU (x:aN) (st:Bool) (d:Option Nat) (K:PF→PH→Prop):dOp C Hs S st (.len x) d K F H=bQ (aO (.len x) F (if st then Hs else H)) d K F H:=(rfl)
@[go_sem] theorem asO (x:aN) (st:Bool) (d:Option Nat) (K:PF→PH→Prop):dOp C Hs S st (.azO x) d K F H=bQ (aO (.azO x) F (if st then Hs else H)) d K F H:=(rfl)
@[go_sem] theorem avJ (x:aN) (st:Bool) (d:Option Nat) (K:PF→PH→Prop):dOp C Hs S st (.lenM x) d K F H=bQ (aO (.lenM x) F (if st then Hs else H)) d K F H:=(rfl)
@[go_sem] theorem atU (n:Bool) (x:aN) (st:Bool) (d:Option Nat) (K:PF→PH→Prop):dOp C Hs S st (.isNil n x) d K F H=bQ (aO (.isNil n x) F (if st then Hs else H)) d K F H:=(rfl)
@[go_sem] theorem asL (x:aN) (st:Bool) (d:Option Nat) (K:PF→PH→Prop):dOp C Hs S st (.azZ x) d K F H=bQ (aO (.azZ x) F (if st then Hs else H)) d K F H:=(rfl)
@[go_sem] theorem aqU (x:aN) (i:Nat) (st:Bool) (d:Option Nat) (K:PF→PH→Prop):dOp C Hs S st (.extract x i) d K F H=bQ (aO (.extract x i) F (if st then Hs else H)) d K F H:=(rfl)
@[go_sem] theorem asR (m:Bool) (x y:aN) (st:Bool) (d:Option Nat) (K:PF→PH→Prop):dOp C Hs S st (.azI m x y) d K F H=bQ (aO (.azI m x y) F (if st then Hs else H)) d K F H:=(rfl)
@[go_sem] theorem avL (n:Nat) (cs:List aN) (st:Bool) (d:Option Nat) (K:PF→PH→Prop):dOp C Hs S st (.mkfn n cs) d K F H=bQ (aO (.mkfn n cs) F (if st then Hs else H)) d K F H:=(rfl)
@[go_sem] theorem asP (sh:MSh) (z:PV) (x k:aN) (ok:Bool) (st:Bool) (d:Option Nat) (K:PF→PH→Prop):dOp C Hs S st (.lookup sh z x k ok) d K F H=bQ (aO (.lookup sh z x k ok) F (if st then Hs else H)) d K F H:=(rfl)
@[go_sem] theorem aoG (x:aN) (st:Bool) (d:Option Nat) (K:PF→PH→Prop):dOp C Hs S st (.azB x) d K F H=bQ (aO (.azB x) F (if st then Hs else H)) d K F H:=(rfl)
@[go_sem] theorem avE (x:aN) (st:Bool) (d:Option Nat) (K:PF→PH→Prop):dOp C Hs S st (.box true x) d K F H=bQ (aO (.box true x) F (if st then Hs else H)) d K F H:=(rfl)
@[go_sem] theorem aqT (s l:Nat) (z:List PV) (ps:List (Nat × aN)) (st:Bool) (d:Option Nat) (K:PF→PH→Prop):dOp C Hs S st (.ayS true s l z ps) d K F H=bQ (aO (.ayS true s l z ps) F (if st then Hs else H)) d K F H:=(rfl)
@[go_sem] theorem atQ (cs:List PV) (st:Bool) (d:Option Nat) (K:PF→PH→Prop):dOp C Hs S st (.alloc cs) d K F H=mZ (cW (.alloc cs) F) d K F H:=(rfl)
@[go_sem] theorem aqV (s b:Nat) (z:List PV) (l c:aN) (st:Bool) (d:Option Nat) (K:PF→PH→Prop):dOp C Hs S st (.ayV s b z l c) d K F H=mZ (cW (.ayV s b z l c) F) d K F H:=(rfl)
@[go_sem] theorem atV (sh:MSh) (st:Bool) (d:Option Nat) (K:PF→PH→Prop):dOp C Hs S st (.azV sh) d K F H=mZ (cW (.azV sh) F) d K F H:=(rfl)
@[go_sem] theorem awR (x:aN) (st:Bool) (d:Option Nat) (K:PF→PH→Prop):dOp C Hs S st (.box false x) d K F H=mZ (cW (.box false x) F) d K F H:=(rfl)
@[go_sem] theorem asK (s l:Nat) (z:List PV) (ps:List (Nat × aN)) (st:Bool) (d:Option Nat) (K:PF→PH→Prop):dOp C Hs S st (.ayS false s l z ps) d K F H=mZ (cW (.ayS false s l z ps) F) d K F H:=(rfl)
@[go_sem] theorem atX (n:Nat) (p x:aN) (st:Bool) (d:Option Nat) (K:PF→PH→Prop):dOp C Hs S st (.store n p x) d K F H=bX (.store n p x) F H (fun r H'=>Hs.le H'∧K (F.put d r) H'):=(rfl)
@[go_sem] theorem asJ (s b:Nat) (x y:aN) (st:Bool) (d:Option Nat) (K:PF→PH→Prop):dOp C Hs S st (.append s b x y) d K F H=bX (.append s b x y) F H (fun r H'=>Hs.le H'∧K (F.put d r) H'):=(rfl)
@[go_sem] theorem asQ (sh:MSh) (x k v:aN) (st:Bool) (d:Option Nat) (K:PF→PH→Prop):dOp C Hs S st (.azF sh x k v) d K F H=bX (.azF sh x k v) F H (fun r H'=>Hs.le H'∧K (F.put d r) H'):=(rfl)
theorem HU:H.only []=PH.nil:=PH.ext fun o=>by simp[PH.only,PH.nil]
theorem dL {name:Nat} {vs:List PV} {v:PV} {args:List aN} {st:Bool} {d:Option Nat} {K:PF→PH→Prop} (j:S name vs=some ([],fun _=>aM v)) (h:aG C name vs .nil (aM v)) (l:aN.evs F args=some vs)
  (e:Hs.le H) (u:K (F.put d v) H):dOp C Hs S st (.call name args) d K F H:=by
 refine⟨vs,[],fun _=>aM v,l,j,fun o w=>by simp at w,by rw[HU]; exact h,fun G=>⟨v,.nil,⟨rfl,rfl⟩,fun o x y=>by simp[PH.nil] at y⟩,?_⟩;rintro r H' ⟨rfl,rfl⟩ -;rw[HU,PH.jK];exact⟨e,u⟩
end
theorem wrap_i64 {n:Int} (j:-9223372036854775808≤n) (l:n≤9223372036854775807):IntKind.i64.wrap n=n:=by
 have e:IntKind.i64.wrap n=if decide (n%18446744073709551616≥9223372036854775808)=true then n%18446744073709551616-18446744073709551616 else n%18446744073709551616:=by simp[IntKind.wrap,IntKind.bits,IntKind.signed]
 rw[e];split
 ·rename_i h; simp only[decide_eq_true_eq] at h; omega
 ·rename_i h; simp only[decide_eq_true_eq] at h; omega
theorem XW {k:Nat} (h:k≤9223372036854775807):IntKind.i64.wrap (k:Int)=k:=wrap_i64 Om Om
theorem dN {k:Nat} (h:k<9223372036854775807):IntKind.i64.wrap ((k:Int)+1)=((k+1:Nat):Int):=by
 rw[wrap_i64 Om Om]; omega
theorem wZz (k:Nat) (h:k<9223372036854775807:=by omega):IntKind.i64.wrap ((k:Int)+1)=((k+1:Nat):Int):=dN h
theorem wrap_u64 {n:Int} (j:0≤n) (l:n<18446744073709551616):IntKind.u64.wrap n=n:=by
 have e:IntKind.u64.wrap n=n%18446744073709551616:=by simp[IntKind.wrap,IntKind.bits,IntKind.signed]
 rw[e]; omega
abbrev ints (xs:List Int):PV:=.sl 1 (xs.map fun n=>[.int .i64 n])
open Go Go.RowKit
inductive CT where
 | int (k:IntKind)
 | bool
 | str
 | sl (es:List CT)
 deriving Inhabited
def qN (P:Program) (rec:TypeId→Option (List CT)):Nat→List Field→Option (List CT)
 | _,[]=>some []
 | k,f::e=>match rec f.type with
  | some cts=>if f.offset=k∧P.cellsOf f.type=cts.length then (qN P rec (k+cts.length) e).map (cts++·) else none
  | none=>none
def gZ (P:Program):Nat→TypeId→Option (List CT)
 | 0,_=>none
 | n+1,t=>match P.underlying t with
  | some .bool=>some [.bool]
  | some (.int k)=>some [.int k]
  | some .string=>some [.str]
  | some (.slice e)=>match gZ P n e with
   | some cts=>if P.cellsOf e=cts.length∧0<cts.length then some [.sl cts] else none
   | none=>none
  | some (.struct j)=>match qN P (gZ P n) 0 j.toList with
   | some cts=>if P.cellsOf t=cts.length then some cts else none
   | none=>none
  | some (.array k e)=>match gZ P n e with
   | some cts=>if P.cellsOf e=cts.length∧P.cellsOf t=k*cts.length then some (aAC k cts).flatten else none
   | none=>none
  | _=>none
inductive PV.Ty:CT→PV→Prop
 | int {k:IntKind} {n:Int} (h:(Lit.int k n).wf=true):PV.Ty (.int k) (.int k n)
 | bool (b:Bool):PV.Ty .bool (.bool b)
 | str {s:List UInt8} (h:s.length≤maxLen):PV.Ty .str (.str s)
 | sl {es:List CT} {rows:List (List PV)} (hr:∀ r∈rows,r.length=es.length) (hl:rows.length≤maxLen) (h:∀ (i j:Nat) pv ct,at2 rows i j=some pv→es[j]?=some ct→PV.Ty ct pv):PV.Ty (.sl es) (.sl es.length rows)
def Env.of (W:World) (num:Nat→FuncId):Env:=⟨fun b=>match W.heap[b]? with | some (.cells cs _ _)=>some cs | _=>none,fun _=>none,num⟩
theorem bK.start (W:World) (num:Nat→FuncId):bK (Env.of W num) PH.nil W:=by
 refine⟨fun b cs hb=>⟨fun x e=>(by cases e),?_⟩,fun o x e=>(by cases e),fun o n h=>(by cases h)⟩;simp only[Env.of] at hb;split at hb
 ·rename_i c ty j h;cases hb;exact⟨ty,j,h⟩
 ·cases hb
structure Reads (E:Env) (cts:List CT) (pvs:List PV) (cs:List Value):Prop where
 lp:pvs.length=cts.length
 lc:cs.length=cts.length
 rep:∀ (j:Nat) pv c,pvs[j]?=some pv→cs[j]?=some c→aR E pv c∧c.oneCell'=true
 ty:∀ (j:Nat) pv ct,pvs[j]?=some pv→cts[j]?=some ct→PV.Ty ct pv
theorem Reads.one {E:Env} {ct:CT} {pv:PV} {c:Value} (h:aR E pv c) (e:c.oneCell'=true) (l:PV.Ty ct pv):Reads E [ct] [pv] [c]:=by
 refine⟨rfl,rfl,fun j p u a b=>?_,fun j p u a b=>?_⟩
 ·cases j with
  | zero=>simp at a b; subst a; subst b; exact⟨h,e⟩
  | succ j=>simp at a
 ·cases j with
  | zero=>simp at a b; subst a; subst b; exact l
  | succ j=>simp at a
theorem Reads.append {E:Env} {e w:List CT} {l A:List PV} {x y:List Value} (h:Reads E e l x) (k:Reads E w A y):Reads E (e++w) (l++A) (x++y):=by
 refine⟨by simp[h.lp,k.lp],by simp[h.lc,k.lc],fun j p u a b=>?_,fun j p u a b=>?_⟩
 ·rcases aAV j l.length with hj | hj
  ·rw[aCB hj] at a;rw[aCB (by rw[h.lc,← h.lp]; exact hj)] at b;exact h.rep j p u a b
  ·rw[aBY hj] at a;rw[aBY (by rw[h.lc,← h.lp]; exact hj)] at b;rw[show j-x.length=j-l.length by rw[h.lc,h.lp]] at b;exact k.rep _ p u a b
 ·rcases aAV j l.length with hj | hj
  ·rw[aCB hj] at a;rw[aCB (by rw[← h.lp]; exact hj)] at b;exact h.ty j p u a b
  ·rw[aBY hj] at a;rw[aBY (by rw[← h.lp]; exact hj)] at b;rw[show j-e.length=j-l.length by rw[h.lp]] at b;exact k.ty _ p u a b
theorem YP {W:World} {num:Nat→FuncId} {a:Addr} {v:Value} (h:W.cell? a=some v):a.spot=none∧(Env.of W num).cell a.block a.off=some v:=by
 unfold World.cell? at h;split at h
 ·rename_i c ty j hb;split at h
  ·cases h
  ·rename_i e;refine⟨by simpa using e,?_⟩;simp only[Env.cell,Env.of,hb];exact h
 ·cases h
inductive PV.Len (N:Nat):PV→Prop
 | flat {pv:PV} (h1:∀ n rows,pv≠.sl n rows) (h2:∀ vs,pv≠.agg vs):PV.Len N pv
 | sl {n:Nat} {rows:List (List PV)} (h:rows.length≤N) (hr:∀ r∈rows,∀ v∈r,PV.Len N v):PV.Len N (.sl n rows)
 | agg {vs:List PV} (h:∀ v∈vs,PV.Len N v):PV.Len N (.agg vs)
theorem PV.Len.int {N:Nat} (k:IntKind) (n:Int):PV.Len N (.int k n):=.flat (fun _ _ h=>by cases h) fun _ h=>by cases h
theorem PV.Len.bool {N:Nat} (b:Bool):PV.Len N (.bool b):=.flat (fun _ _ h=>by cases h) fun _ h=>by cases h
theorem PV.Len.str {N:Nat} (s:List UInt8):PV.Len N (.str s):=.flat (fun _ _ h=>by cases h) fun _ h=>by cases h
theorem PV.Len.rows {N n:Nat} {rows:List (List PV)} (h:PV.Len N (.sl n rows)):rows.length≤N∧∀ r∈rows,∀ v∈r,PV.Len N v:=by
 cases h with
 | flat e _=>exact absurd rfl (e n rows)
 | sl e j=>exact⟨e,j⟩
theorem PV.Len.parts {N:Nat} {vs:List PV} (h:PV.Len N (.agg vs)):∀ v∈vs,PV.Len N v:=by
 cases h with
 | flat _ e=>exact absurd rfl (e vs)
 | agg h=>exact h
structure TG {H:Type} (P:Program) (N:Nat) (S:TypeId→DataW H→Prop):Prop where
 sl:∀ t e elems spare,P.underlying t=some (.slice e)→S t (.slice elems spare)→elems.length≤N∧∀ d∈elems,S e d
 st:∀ t fs parts,P.underlying t=some (.struct fs)→S t (.agg parts)→∀ (i:Nat) g d,fs[i]?=some g→parts[i]?=some d→S g.type d
 ar:∀ t n e parts,P.underlying t=some (.array n e)→S t (.agg parts)→∀ d∈parts,S e d
theorem PJ {H:Type} {P:Program} {A:(TypeId→DataW H→Prop)→Prop} {pv:PV} (h:∀ {N},PV.Len N pv):∀ N S,TG P N S→A S→∀ v∈[pv],PV.Len N v:=fun N S _ _ v e=>by
 obtain rfl:=aBL.1 e;exact h
theorem YV {P:Program} {E:Env} {rec:TypeId→Option (List CT)} {H:Type} {f:TypeId→List Value→Option (DataW H × List MemPlace)}
  (J:∀ t cs x cts,f t cs=some x→rec t=some cts→∃ e,Reads E cts e cs∧∀ N S,TG P N S→S t x.1→∀ v∈e,PV.Len N v) (cs:List Value) :
  ∀ (u:List Field) (k:Nat) (cts:List CT),(∀ g∈u,∃ x,f g.type ((cs.drop g.offset).take (P.cellsOf g.type))=some x)→qN P rec k u=some cts →
   ∃ e,Reads E cts e ((cs.drop k).take cts.length)∧∀ N S,TG P N S→(∀ g∈u,∀ x,f g.type ((cs.drop g.offset).take (P.cellsOf g.type))=some x→S g.type x.1)→∀ v∈e,PV.Len N v
 | [],k,cts,_,h=>by simp[qN] at h; subst h;exact⟨[],⟨rfl,by simp,fun j p c a=>by simp at a,fun j p c a=>by simp at a⟩,fun _ _ _ _ v hv=>by cases hv⟩
 | g::u,k,cts,F,h=>by
  simp only[qN] at h;split at h
  ·rename_i K O;split at h
   ·rename_i B;simp only[aAJ] at h;obtain⟨M,R,rfl⟩:=h;obtain⟨x,I⟩:=F g (by simp);obtain⟨W,r1,U⟩:=J _ _ _ _ I O;rw[B.1,B.2] at r1;obtain⟨X,r2,V⟩:=YV J cs u (k+K.length) M (fun w l=>F w (by simp[l])) R;refine⟨W++X,?_,fun N S y A v hv=>?_⟩
    ·have:=r1.append r2;rw[aAE,List.take_add,List.drop_drop];exact this
    ·rcases aBH.1 hv with hv | hv
     ·exact U N S y (A g (by simp) x I) v hv
     ·exact V N S y (fun w l=>A w (by simp[l])) v hv
   ·cases h
  ·cases h
theorem kw {E:Env} {cts:List CT} {R:List PV→Prop} (l:R []) (u:∀ a b,R a→R b→R (a++b)) (cs:List Value) :
  ∀ n:Nat,(∀ i,i<n→∃ e,Reads E cts e ((cs.drop (i*cts.length)).take cts.length)∧R e)→∃ e,Reads E (aAC n cts).flatten e (cs.take (n*cts.length))∧R e
 | 0,_=>⟨[],⟨rfl,by simp,fun j p c a=>by simp at a,fun j p c a=>by simp at a⟩,l⟩
 | n+1,h=>by obtain⟨w,r1,y⟩:=kw l u cs n fun i hi=>h i Om;obtain⟨x,r2,A⟩:=h n Om;refine⟨w++x,?_,u _ _ y A⟩;rw[List.replicate_succ',List.flatten_append,List.flatten_singleton,aCN,List.take_add];exact r1.append r2
theorem agR {H:Type} {enc:TypeId × Value→H} {P:Program} {W:World} {base:Nat} {sp:Nat→Bool} {β:Bool} (num:Nat→FuncId) :
  ∀ (fuel m:Nat) (t:TypeId) (cs:List Value) (x:DataW H × List MemPlace) (cts:List CT),DataW.trod enc P W base sp β fuel t cs=some x→gZ P m t=some cts→∃ l,Reads (Env.of W num) cts l cs∧∀ N S,TG P N S→S t x.1→∀ v∈l,PV.Len N v:=by
 intro fuel
 induction fuel with
 | zero=>intro m t cs x cts h; simp[DataW.trod] at h
 | succ fuel ih =>
  intro m t cs x cts h A;cases m with
  | zero=>simp[gZ] at A
  | succ m =>
   simp only[gZ] at A;split at A
   ·rename_i O;cases A;obtain⟨b,rfl,-⟩:=DataW.trod_bool O h;exact⟨[.bool b],.one (.bool b) rfl (.bool b),PJ (.bool b)⟩
   ·rename_i k O;cases A;obtain⟨n,rfl,-,hw⟩:=DataW.trod_int O h;exact⟨[.int k n],.one (.int k n) rfl (.int hw),PJ (.int k n)⟩
   ·rename_i O;cases A;obtain⟨s,rfl,-,hs⟩:=DataW.trod_string O h;exact⟨[.str s.data.toList],.one (.str s) rfl (.str (by rw[aDC]; exact hs)),PJ (.str _)⟩
   ·rename_i e O;split at A
    ·rename_i u he;split at A
     ·rename_i B;cases A;rcases DataW.trod_slice O h with ⟨rfl,-⟩ | ⟨a,len,cap,elems,rest,n,hn,rfl,Y,-,γ,hcap,hel,helem,-⟩
      ·refine⟨[.sl u.length []],.one ?_ rfl (.sl (by simp) (by simp) (by simp[at2])),PJ (.sl (aAP _) (fun r V=>by cases V))⟩;exact .sl (fun _ _=>.bool false) (by simp) (by decide) (by simp) (by simp) (fun _ _=>rfl) (by simp[at2])
      ·cases hn;have each:∀ i,i<len→∃ l Z,(Reads (Env.of W num) u l Z∧∀ N S,TG P N S→(∀ d∈elems.map (·.1),S e d)→∀ v∈l,PV.Len N v)∧W.cells? base (a.add (i*u.length)) u.length=some Z:=by intro i hi;have h1:=helem i hi;rw[aAH Om,aDT] at h1;obtain⟨Z,h2,h3⟩:=h1;obtain⟨l,r,rl⟩:=ih m e Z _ u h3 he;rw[B.1] at h2;exact⟨l,Z,⟨r,fun N S J K=>rl N S J (K _ (aAW.2 ⟨_,aAG _,rfl⟩))⟩,h2⟩
       have δ:∀ i,∃ l,∃ Z,i<len→(Reads (Env.of W num) u l Z∧∀ N S,TG P N S→(∀ d∈elems.map (·.1),S e d)→∀ v∈l,PV.Len N v)∧W.cells? base (a.add (i*u.length)) u.length=some Z:=by
        intro i;by_cases hi:i<len
        ·obtain⟨l,Z,h1⟩:=each i hi;exact⟨l,Z,fun _=>h1⟩
        ·exact⟨[],[],fun h=>(hi h).elim⟩
       obtain⟨pf,ξ⟩:=Classical.axiomOfChoice δ;obtain⟨uf,M⟩:=Classical.axiomOfChoice ξ;have ε:∀ i j pv,at2 ((aAB len).map pf) i j=some pv→i<len∧(pf i)[j]?=some pv:=by
        intro i j pv F;unfold at2 at F;rw[aAT,aDT] at F;obtain⟨r,V,F⟩:=F;rw[aAJ] at V;obtain⟨i',U,rfl⟩:=V;have hi:i<len:=by simpa using (aBD.1 U).1
        have:i'=i:=by simp[hi] at U; exact U.symm
        subst this;exact⟨hi,F⟩
       have hu2:∀ i j pv,at2 ((aAB len).map pf) i j=some pv→∃ v,(uf i)[j]?=some v∧j<u.length∧aR (Env.of W num) pv v∧v.oneCell'=true:=by
        intro i j pv F;obtain⟨hi,X⟩:=ε i j pv F;obtain⟨⟨r,-⟩,-⟩:=M i hi;have hj:j<u.length:=by rw[← r.lp]; exact (aBD.1 X).1
        have I:(uf i)[j]?=some ((uf i)[j]'(by rw[r.lc]; exact hj)):=aAH _;exact⟨_,I,hj,(r.rep j pv _ X I).1,(r.rep j pv _ X I).2⟩
       have α:((aAB len).map pf).length=len:=by simp
       refine⟨[.sl u.length ((aAB len).map pf)],.one ?_ rfl (.sl (fun r V=>?_) (by rw[α]; omega) fun i j pv ct F κ=>?_),fun N S J K v I=>?_⟩
       ·have η:=aR.sl (E:=Env.of W num) (size:=u.length) (rows:=(aAB len).map pf) (a:=some a) (cap:=cap)
         (fun i j=>match at2 ((aAB len).map pf) i j with | some _=>((uf i)[j]?).getD (.bool false) | none=>.bool false) (by rw[α]; exact γ) hcap
         (fun r V=>by simp only[aAW,aAU] at V;obtain⟨i,hi,rfl⟩:=V;exact (M i hi).1.1.lp)
         (fun ν=>by
          have μ:0<len:=by
           rcases aCH len with h | h
           ·subst h; exact (ν rfl).elim
           ·exact h
          have ζ:a.spot=none:=by obtain⟨⟨r,-⟩,A⟩:=M 0 μ;have h3:=(World.cells?_some A).2.2 0 B.2;rw[Nat.zero_mul,Addr.add_zero',Addr.add_zero',aAH (by rw[r.lc]; exact B.2)] at h3;exact (YP (num:=num) h3).1
          refine⟨a,rfl,ζ,fun i j pv F=>?_⟩;obtain⟨hi,-⟩:=ε i j pv F;obtain⟨v,I,hj,-⟩:=hu2 i j pv F;have h3:=(World.cells?_some (M i hi).2).2.2 j hj;rw[nY ζ,add_plain,add_plain,I] at h3;have h4:=(YP (num:=num) h3).2;simp only[F,I,aCU];exact h4)
         (fun i j=>by
          split
          ·rename_i pv F;obtain⟨v,I,-,-,h1⟩:=hu2 i j pv F;simp[I,h1]
          ·rfl)
         (fun i j pv F=>by obtain⟨v,I,-,h1,-⟩:=hu2 i j pv F;simp only[F,I,aCU];exact h1)
        rw[α] at η;exact η
       ·simp only[aAW,aAU] at V;obtain⟨i,hi,rfl⟩:=V;exact (M i hi).1.1.lp
       ·obtain⟨hi,X⟩:=ε i j pv F;exact (M i hi).1.1.ty j pv ct X κ
       ·rw[Y] at K;obtain⟨m1,m2⟩:=J.sl t e _ _ O K;obtain rfl:=aBL.1 I;refine .sl (by rw[α]; simpa [hel] using m1) fun r V w hw=>?_;simp only[aAW,aAU] at V;obtain⟨i,hi,rfl⟩:=V;exact (M i hi).1.2 N S J m2 w hw
     ·cases A
    ·cases A
   ·rename_i fs O;split at A
    ·rename_i ρ θ;split at A
     ·rename_i γ;cases A;obtain⟨xs,n,hn,Y,ι,ο,hx⟩:=DataW.trod_struct O h;cases hn;have:=YV (f:=DataW.trod enc P W base sp β fuel) (fun t cs x cts a b=>ih m t cs x cts a b) cs fs.toList 0 cts (fun g hg=>by obtain⟨i,hi,rfl⟩:=aBZ hg;have:=hx i fs.toList[i] (by simp at hi; simp[hi]);rw[this];exact⟨_,aAH (by simp at hi; omega)⟩) θ
      rw[aBM,aAQ Om] at this;obtain⟨l,r,rl⟩:=this;refine⟨l,r,fun N S J K=>rl N S J fun g hg y hy=>?_⟩;rw[Y] at K;obtain⟨i,hi,rfl⟩:=aBZ hg;have U:i<fs.size:=by simpa using hi
      have:=hx i fs.toList[i] (by simp[U]);rw[hy,aAH Om] at this;refine J.st t fs _ O K i fs.toList[i] y.1 (by simp[U]) ?_;rw[aAT,aAH Om,← this]; rfl
     ·cases A
    ·cases A
   ·rename_i k e O;split at A
    ·rename_i u he;split at A
     ·rename_i B;cases A;obtain⟨xs,n,hn,Y,ι,ο,hx⟩:=DataW.trod_array O h;cases hn;obtain⟨l,r,hq⟩:=kw (E:=Env.of W num) (cts:=u) (R:=fun l=>∀ N S,TG P N S→(∀ d:DataW H,d∈xs.map (fun y:DataW H × List MemPlace=>y.1)→S e d)→∀ v∈l,PV.Len N v) (fun _ _ _ _ v I=>by cases I)
       (fun a b ha hb N S J K v I=>(aBH.1 I).elim (ha N S J K v) (hb N S J K v)) cs k fun i hi=>by have h2:=hx i hi;rw[aAH Om,B.1] at h2;obtain⟨l,r,rl⟩:=ih m e _ _ u h2 he;exact⟨l,r,fun N S J K=>rl N S J (K _ (aAW.2 ⟨_,aAG _,rfl⟩))⟩
      rw[aAQ Om] at r;exact⟨l,r,fun N S J K=>hq N S J (J.ar t k e _ O (by rw[Y] at K; exact K))⟩
     ·cases A
    ·cases A
   ·cases A
theorem dw {H:Type} {enc:TypeId × Value→H} {P:Program} {W:World} {base:Nat} {u:Nat→Bool} {e:Bool} (num:Nat→FuncId)
  (fuel m:Nat) (t:TypeId) (cs:List Value) (x:DataW H × List MemPlace) (cts:List CT) (h:DataW.trod enc P W base u e fuel t cs=some x) (l:gZ P m t=some cts):∃ j,Reads (Env.of W num) cts j cs :=
 (agR num fuel m t cs x cts h l).imp fun _ r=>r.1
open Go Go.RowKit Go.ChangeShapes Go.WideShapes
theorem Ext.below {E j:Env} {H':PH} {w e:World} (h:Ext E PH.nil w j H' e):Below w.heap.size w e :=
 ⟨h.os,h.tape,h.output,h.size,fun k l=>h.block k l rfl⟩
theorem Below.trodAll {H:Type} {enc:TypeId × Value→H} {P:Program} (w:laidOutB P=true) {W j:World} (hb:Below W.heap.size W j) :
  ∀ {ts:List TypeId} {vs:List Value} {ds:List (DataW H)} {ps:List MemPlace},(∀ t∈ts,P.readableRec t=true∧t<P.types.size)→DataW.TrodAll enc P W 0 (fun _=>true) true ts vs ds ps →
   DataW.TrodAll enc P j 0 (fun b=>decide (b<W.heap.size)) true ts vs ds ps
 | [],[],[],ps,_,h=>h
 | [],_::_,_,_,_,h=>h.elim
 | [],[],_::_,_,_,h=>h.elim
 | _::_,[],_,_,_,h=>h.elim
 | _::_,_::_,[],_,_,h=>h.elim
 | t::ts,v::vs,d::ds,ps,e,h=>by obtain⟨p,q,l,y,rfl⟩:=h;have hlt:∀ x∈p,x.block<W.heap.size:=fun x B=>DataW.TrodAll.lt (ts:=[t]) (vs:=[v]) (ds:=[d]) ⟨p,[],l,rfl,(aBU p).symm⟩ x B;exact⟨p,q,Below.trod w (e t (by simp)).1 (e t (by simp)).2 l hb hlt,Below.trodAll w hb (fun u A=>e u (by simp[A])) y,rfl⟩
theorem Zh {H:Type} {enc:TypeId × Value→H} {P:Program} {f:Func} {s:ChangeSpec} {e apart fresh:Bool} {W B:World} {args:Array Value} {ds l:List (DataW H)} {j:List MemPlace} {bt:TypeId}
  (I:laidOutB P=true) (hW:DataW.Whole enc P f.params.toList s.vars apart W args.toList ds l j) (hb:Below W.heap.size W B) (x:∀ t∈f.params.toList,P.readableRec t=true∧t<P.types.size)
  (w:f.resultTypes=#[bt]) (u:P.underlying bt=some .bool) (y:s.vars=[]) (K:(s.fn H (ds++l)).results=[.lit (.bool true)]) (F:(s.fn H (ds++l)).args=ds) (A:(s.fn H (ds++l)).vars=[]) :
  s.post enc P f apart fresh e false W args (.bool true) B:=by
 obtain⟨p,q,E,hV,rfl,M,J⟩:=hW;rw[y] at hV;obtain⟨rfl,rfl⟩:=trodVars_none hV;refine⟨ds,[],p++[],[],p,[],⟨p,[],E,by rw[y]; exact hV,rfl,M,J⟩,?_,?_,?_,hb.frame _,fun h=>by cases h⟩
 ·rw[K,w];refine⟨[],[],⟨1,?_⟩,rfl,rfl⟩;simp[DataW.trod,u,Value.cells,Value.resultList]
 ·rw[F];exact Below.trodAll I hb x E
 ·rw[y,A];exact rfl
theorem Xy {C:Ctx} {name:Nat} {W:World} {args:Array Value} {l:List PV} (h:aG C name l PH.nil (aM (.bool true))) (x:eO (Env.of W C.num) l args.toList) :
  Calls C.P (C.num name) args W fun e u=>e=.returned (.bool true)∧Below W.heap.size W u :=
 (h.2 (Env.of W C.num) W args rfl (bK.start W C.num) x).mono fun e u he=>by obtain⟨v,pv,y,H',rfl,-,j,w,rfl,-⟩:=he;cases j;exact⟨rfl,w.below⟩
theorem Sa {H:Type} {enc:TypeId × Value→H} {P:Program} {W:World} {r:Reach} {base:Nat} {J:Nat→Bool} {w:Bool} (num:Nat→FuncId) {t:TypeId} {v:Value} {d:DataW H} {ps:List MemPlace} {B:Array Field} {n:Nat} {cts:List CT}
  (y:P.underlying t=some (.struct B)) (x:Value.okWide P W r base t v) (F:DataW.Trod enc P W 0 J w t v d ps) (E:gZ P n t=some cts) :
  ∃ e,aR (Env.of W num) (.agg e) v∧e.length=cts.length∧∀ (j:Nat) pv ct,e[j]?=some pv→cts[j]?=some ct→PV.Ty ct pv:=by
 obtain⟨cs,rfl,-⟩:=okWide_struct y x;obtain⟨fuel,h⟩:=F;obtain⟨e,l⟩:=dw num fuel n t _ _ cts h E;have I:cs.size=e.length:=by have:=l.lc; rw[l.lp,← this]; simp[Value.cells]
 refine⟨e,.agg cs I (fun u y=>?_) (fun j pv u a b=>(l.rep j pv u a (by simpa [Value.cells] using b)).1),l.lp,l.ty⟩;obtain⟨j,A,rfl⟩:=aBZ y;simp only[aDC] at A;exact (l.rep j _ _ (aAH Om) (by simp[Value.cells,A])).2
theorem tZ {H:Type} {enc:TypeId × Value→H} {P:Program} {W:World} {B:Nat→Bool} {e:Bool} (num:Nat→FuncId) {t:TypeId} {v:Value} {d:DataW H} {ps:List MemPlace} {n:Nat} {ct:CT}
  (A:v.cells=#[v]) (x:DataW.Trod enc P W 0 B e t v d ps) (w:gZ P n t=some [ct]):∃ pv,aR (Env.of W num) pv v∧PV.Ty ct pv:=by
 obtain⟨fuel,h⟩:=x;obtain⟨l,j⟩:=dw num fuel n t _ _ [ct] h w;rw[A] at j;have y:=j.lp;cases l with
 | nil=>simp at y
 | cons pv u=>exact⟨pv,(j.rep 0 pv v rfl rfl).1,j.ty 0 pv ct rfl rfl⟩
def InK (k:IntKind) (n:Int):Prop:=k.min≤n∧n≤k.max
def Tz (k:IntKind) (xs:List Int):PV:=.sl 1 (xs.map fun n=>[.int k n])
theorem Ty.iw {k:IntKind} {pv:PV} (h:PV.Ty (.int k) pv):∃ n,pv=.int k n∧InK k n:=by
 cases h with
 | int h=>simp only[Lit.wf,aAO,decide_eq_true_eq] at h; exact⟨_,rfl,h⟩
theorem Ty.anM {ct:CT} {pv:PV} (h:PV.Ty (.sl [ct]) pv):∃ vs:List PV,pv=.sl 1 (vs.map fun v=>[v])∧vs.length≤maxLen∧∀ v∈vs,PV.Ty ct v:=by
 cases h with
 | @sl B rows A y h =>
 have j:∀ r∈rows,r=[r.headD .junk]:=fun r l=>by
  have:=A r l
  match r,this with
  | [x],_=>rfl
 have e:rows=(rows.map fun r=>r.headD .junk).map fun v=>[v]:=by rw[aDE];apply List.ext_getElem (by simp);intro n w E;simp only[aCW,Function.comp];exact j _ (aAG w)
 refine⟨rows.map fun r=>r.headD .junk,by rw[← e]; rfl,by simpa using y,fun v u=>?_⟩;rw[aAW] at u;obtain⟨r,l,rfl⟩:=u;obtain⟨i,hi,rfl⟩:=aBZ l;refine h i 0 _ ct ?_ rfl;have:=j rows[i] l;unfold at2;rw[aAH hi,aDU,this];rfl
theorem Ty.adJ {k:IntKind} {pv:PV} (h:PV.Ty (.sl [.int k]) pv):∃ xs:List Int,pv=Tz k xs∧xs.length≤maxLen∧∀ x∈xs,InK k x:=by
 obtain⟨vs,rfl,A,l⟩:=Ty.anM h;have e:vs=(vs.map fun v=>match v with | .int _ n=>n | _=>0).map fun n=>PV.int k n:=by rw[aDE];apply List.ext_getElem (by simp);intro n w B;simp only[aCW,Function.comp];obtain⟨m,j,-⟩:=Ty.iw (l _ (aAG w));rw[j]
 refine⟨vs.map fun v=>match v with | .int _ n=>n | _=>0,?_,by simpa using A,fun x u=>?_⟩
 ·unfold Tz
  conv=>lhs; rw[e]
  rw[aDE];rfl
 ·rw[aAW] at u;obtain⟨v,j,rfl⟩:=u;obtain⟨m,rfl,y⟩:=Ty.iw (l v j);exact y
abbrev Rg:=List aU
abbrev Rd:=List (aU×Bool)
def iM (d s:Nat):aU:=⟨some d,.mv (.tmp s),none⟩
def iI (d:Nat) (n:Int):aU:=⟨some d,.mv (.const (.int .i64 n)),none⟩
def iB (d:Nat) (o:BinOp) (x y:Nat):aU:=⟨some d,.bin o (.tmp x) (.tmp y),none⟩
def iC (d:Nat) (o:BinOp) (x:Nat) (n:Int):aU:=⟨some d,.bin o (.tmp x) (.const (.int .i64 n)),none⟩
def iL (d s:Nat):aU:=⟨some d,.load none (.tmp s),none⟩
def iX (d n x y:Nat):aU:=⟨some d,.azE n (.tmp x) (.tmp y),none⟩
def iN (d x:Nat):aU:=⟨some d,.len (.tmp x),none⟩
def iF (d n x:Nat):aU:=⟨some d,.azR n (.tmp x),none⟩
def iS (n p x:Nat):aU:=⟨none,.store n (.tmp p) (.tmp x),none⟩
def iA (d:Nat) (o:POp):aU:=⟨some d,o,none⟩
def iG (d:Nat) (o:POp) (g:Nat) (b:Bool):aU:=⟨some d,o,some (g,b)⟩
def iP (d a b:Nat):aU:=⟨some d,.pick (.tmp a) (.tmp b) (.const (.bool false)),none⟩
def iQ (d a b:Nat):aU:=⟨some d,.pick (.tmp a) (.const (.bool true)) (.tmp b),none⟩
def iO (d s a:Nat):aU:=⟨some d,.load (some s) (.tmp a),none⟩
def iE (d a n:Nat):aU:=⟨some d,.extract (.tmp a) n,none⟩
def iK (d f a:Nat):aU:=⟨some d,.call f [.tmp a],none⟩
def iK2 (d f a b:Nat):aU:=⟨some d,.call f [.tmp a,.tmp b],none⟩
def iT (d:Nat) (b:Bool):aU:=⟨some d,.mv (.const (.bool b)),none⟩
def iZ (d:Nat):aU:=⟨some d,.mv (.const .aA),none⟩
def gM (d s g:Nat) (b:Bool):aU:=⟨some d,.mv (.tmp s),some (g,b)⟩
def gL (d s g:Nat) (b:Bool):aU:=⟨some d,.load none (.tmp s),some (g,b)⟩
def gF (d n s g:Nat) (b:Bool):aU:=⟨some d,.azR n (.tmp s),some (g,b)⟩
def gN (d s g:Nat) (b:Bool):aU:=⟨some d,.len (.tmp s),some (g,b)⟩
def gO (d n s g:Nat) (b:Bool):aU:=⟨some d,.load (some n) (.tmp s),some (g,b)⟩
def gK (d f a g:Nat) (b:Bool):aU:=⟨some d,.call f [.tmp a],some (g,b)⟩
def gK2 (d f a c g:Nat) (b:Bool):aU:=⟨some d,.call f [.tmp a,.tmp c],some (g,b)⟩
def gC (d:Nat) (o:BinOp) (x:Nat) (n:Int) (g:Nat) (b:Bool):aU:=⟨some d,.bin o (.tmp x) (.const (.int .i64 n)),some (g,b)⟩
def gB (d:Nat) (o:BinOp) (x y g:Nat) (b:Bool):aU:=⟨some d,.bin o (.tmp x) (.tmp y),some (g,b)⟩
def zI:PV:=.int .i64 0
def zB:PV:=.bool false
def sq (r:Rg) (c:aE):aE:=.seq (.region r) c
def dq (r:Rd) (c:aE):aE:=.seq (.draw r) c
def Tm (n:Nat):aN:=.tmp n
def Ci (n:Int):aN:=.const (.int .i64 n)
@[go_sem] theorem ayA (d s:Nat):iM d s=⟨some d,.mv (.tmp s),none⟩:=(rfl)
@[go_sem] theorem axX (d:Nat) (n:Int):iI d n=⟨some d,.mv (.const (.int .i64 n)),none⟩:=(rfl)
@[go_sem] theorem axS (d:Nat) (o:BinOp) (x y:Nat):iB d o x y=⟨some d,.bin o (.tmp x) (.tmp y),none⟩:=(rfl)
@[go_sem] theorem axT (d:Nat) (o:BinOp) (x:Nat) (n:Int):iC d o x n=⟨some d,.bin o (.tmp x) (.const (.int .i64 n)),none⟩:=(rfl)
@[go_sem] theorem axZ (d s:Nat):iL d s=⟨some d,.load none (.tmp s),none⟩:=(rfl)
@[go_sem] theorem ayH (d n x y:Nat):iX d n x y=⟨some d,.azE n (.tmp x) (.tmp y),none⟩:=(rfl)
@[go_sem] theorem ayB (d x:Nat):iN d x=⟨some d,.len (.tmp x),none⟩:=(rfl)
@[go_sem] theorem axV (d n x:Nat):iF d n x=⟨some d,.azR n (.tmp x),none⟩:=(rfl)
@[go_sem] theorem ayF (n p x:Nat):iS n p x=⟨none,.store n (.tmp p) (.tmp x),none⟩:=(rfl)
@[go_sem] theorem axR (d:Nat) (o:POp):iA d o=⟨some d,o,none⟩:=(rfl)
@[go_sem] theorem axW (d:Nat) (o:POp) (g:Nat) (b:Bool):iG d o g b=⟨some d,o,some (g,b)⟩:=(rfl)
@[go_sem] theorem ayD (d a b:Nat):iP d a b=⟨some d,.pick (.tmp a) (.tmp b) (.const (.bool false)),none⟩:=(rfl)
@[go_sem] theorem ayE (d a b:Nat):iQ d a b=⟨some d,.pick (.tmp a) (.const (.bool true)) (.tmp b),none⟩:=(rfl)
@[go_sem] theorem ayC (d s a:Nat):iO d s a=⟨some d,.load (some s) (.tmp a),none⟩:=(rfl)
@[go_sem] theorem axU (d a n:Nat):iE d a n=⟨some d,.extract (.tmp a) n,none⟩:=(rfl)
@[go_sem] theorem axY (d f a:Nat):iK d f a=⟨some d,.call f [.tmp a],none⟩:=(rfl)
@[go_sem] theorem axE (d f a b:Nat):iK2 d f a b=⟨some d,.call f [.tmp a,.tmp b],none⟩:=(rfl)
@[go_sem] theorem ayG (d:Nat) (b:Bool):iT d b=⟨some d,.mv (.const (.bool b)),none⟩:=(rfl)
@[go_sem] theorem ayI (d:Nat):iZ d=⟨some d,.mv (.const .aA),none⟩:=(rfl)
@[go_sem] theorem axO (d s g:Nat) (b:Bool):gM d s g b=⟨some d,.mv (.tmp s),some (g,b)⟩:=(rfl)
@[go_sem] theorem axN (d s g:Nat) (b:Bool):gL d s g b=⟨some d,.load none (.tmp s),some (g,b)⟩:=(rfl)
@[go_sem] theorem axL (d n s g:Nat) (b:Bool):gF d n s g b=⟨some d,.azR n (.tmp s),some (g,b)⟩:=(rfl)
@[go_sem] theorem axP (d s g:Nat) (b:Bool):gN d s g b=⟨some d,.len (.tmp s),some (g,b)⟩:=(rfl)
@[go_sem] theorem axQ (d n s g:Nat) (b:Bool):gO d n s g b=⟨some d,.load (some n) (.tmp s),some (g,b)⟩:=(rfl)
@[go_sem] theorem axM (d f a g:Nat) (b:Bool):gK d f a g b=⟨some d,.call f [.tmp a],some (g,b)⟩:=(rfl)
@[go_sem] theorem axD (d f a c g:Nat) (b:Bool):gK2 d f a c g b=⟨some d,.call f [.tmp a,.tmp c],some (g,b)⟩:=(rfl)
@[go_sem] theorem axK (d:Nat) (o:BinOp) (x:Nat) (n:Int) (g:Nat) (b:Bool):gC d o x n g b=⟨some d,.bin o (.tmp x) (.const (.int .i64 n)),some (g,b)⟩:=(rfl)
@[go_sem] theorem axJ (d:Nat) (o:BinOp) (x y g:Nat) (b:Bool):gB d o x y g b=⟨some d,.bin o (.tmp x) (.tmp y),some (g,b)⟩:=(rfl)
@[go_sem] theorem ayL:zI=.int .i64 0:=(rfl)
@[go_sem] theorem ayK:zB=.bool false:=(rfl)
@[go_sem] theorem ayJ (r:Rg) (c:aE):sq r c=.seq (.region r) c:=(rfl)
@[go_sem] theorem axI (r:Rd) (c:aE):dq r c=.seq (.draw r) c:=(rfl)
@[go_sem] theorem axH (n:Nat):Tm n=.tmp n:=(rfl)
@[go_sem] theorem axG (n:Int):Ci n=.const (.int .i64 n):=(rfl)
end Go.PM
namespace Go.PM
open Go
def HO:Rg:=[iI 2 0]
def HP:Rg:=[iM 4 0,iN 5 4,iM 3 5]
def HQ:Rg:=[iM 6 3,iC 7 .gtr 6 0,iM 8 7,gM 9 0 8 true,gM 10 3 8 true,gC 11 .sub 10 1 8 true,iG 12 (.azE 1 (Tm 9) (Tm 11)) 8 true,gL 13 12 8 true,iG 14 (.bin .eql (Tm 13) (.const (.int .u32 0))) 8 true,iP 15 8 14]
def HR:Rg:=[iM 16 3,iC 17 .sub 16 1,iM 3 17]
def HN:aE:=(.seq (sq HQ (.cond (Tm 15) .skip (.exit 0))) (.block 1 (.region HR)))
def tG:Rg:=[iM 18 3,iM 2 18]
def pK:aE:=(sq HO (sq HP (.seq (.block 0 (.loop HN)) (sq tG .ret))))
def Uv:List Nat:=[]
def DX:bB:=⟨1,19,pK,[.tmp 2]⟩
def p7:Rg:=[iT 2 false]
def p8:Rg:=[iM 3 0,iK 4 138 3,iC 5 .gtr 4 512,iM 2 5]
def CH:aE:=(sq p7 (sq p8 .ret))
def Yu:List Nat:=[]
def Eu:bB:=⟨1,6,CH,[.tmp 2]⟩
def qk:Rg:=[iZ 2,iI 3 0]
def ql:Rg:=[iM 5 0,iK 6 138 5,iM 4 6]
def qn:Rg:=[iM 7 4,iC 8 .gtr 7 512]
def qo:Rg:=[iZ 2,iI 3 2]
def qp:Rg:=[iM 9 0,iM 10 4,iM 11 4,iA 12 (.slice 1 (Tm 9) none (some (Tm 10)) (some (Tm 11))),iM 2 12,iI 3 0]
def CJ:aE:=(sq qk (sq ql (.seq (sq qn (.cond (Tm 8) (sq qo .ret) .skip)) (sq qp .ret))))
def Yz:List Nat:=[]
def Fb:bB:=⟨1,13,CJ,[.tmp 2,.tmp 3]⟩
def Ew:Rg:=[iZ 2]
def Ex:Rg:=[iM 4 0,iA 5 (.conv .u32 (Tm 4)),iM 6 0,iA 7 (.bin .shr (Tm 6) (.const (.int .u64 32))),iA 8 (.conv .u32 (Tm 7)),iA 9 (.ayS true 1 2 [(.int .u32 0)] [(0,(Tm 5)),(1,(Tm 8))]),iM 3 9]
def Ey:Rg:=[iM 10 3,iM 11 3,iK 12 138 11,iA 13 (.slice 1 (Tm 10) none (some (Tm 12)) none),iM 2 13]
def HS:aE:=(sq Ew (sq Ex (sq Ey .ret)))
def afI:List Nat:=[9]
def Uw:bB:=⟨1,14,HS,[.tmp 2]⟩
def Fk:Rg:=[iZ 2]
def Fl:Rg:=[iM 3 0,iM 4 0,iK 5 138 4,iA 6 (.slice 1 (Tm 3) none (some (Tm 5)) none),iA 7 (.append 1 4 (.const .aA) (Tm 6)),iM 2 7]
def HT:aE:=(sq Fk (sq Fl .ret))
def afO:List Nat:=[]
def Uy:bB:=⟨1,8,HT,[.tmp 2]⟩
def Pe:Rg:=[iI 4 0]
def Pf:Rg:=[iM 8 0,iK 9 138 8,iM 10 1,iK 11 138 10,iM 5 9,iM 6 11]
def Pg:Rg:=[iM 13 5,iM 14 6,iB 15 .lss 13 14,iM 12 15]
def Ph:Rg:=[iI 4 (-1)]
def Pi:Rg:=[iM 17 5,iM 18 6,iB 19 .gtr 17 18,iM 16 19]
def Pj:Rg:=[iI 4 1]
def Pk:Rg:=[iM 20 5,iC 21 .sub 20 1,iM 7 21]
def Pl:Rg:=[iM 22 7,iC 23 .geq 22 0]
def Pm:Rd:=[(iM 27 0,false),(iM 28 7,false),(iX 29 1 27 28,false),(iL 30 29,false),(iM 31 1,false),(iM 32 7,false),(iX 33 1 31 32,false),(iL 34 33,false),(iB 35 .lss 30 34,false),(iM 26 35,false)]
def Pn:Rg:=[iI 4 (-1)]
def Ek:Rd:=[(iM 37 0,false),(iM 38 7,false),(iX 39 1 37 38,false),(iL 40 39,false),(iM 41 1,false),(iM 42 7,false),(iX 43 1 41 42,false),(iL 44 43,false),(iB 45 .gtr 40 44,false),(iM 36 45,false)]
def El:Rg:=[iI 4 1]
def Em:Rg:=[iM 24 7,iC 25 .sub 24 1,iM 7 25]
def Ej:aE:=(.seq (sq Pl (.cond (Tm 23) .skip (.exit 1))) (.seq (.block 2 (.block 3 (dq Pm (.cond (Tm 26) (sq Pn .ret) (dq Ek (.cond (Tm 36) (sq El .ret) .skip)))))) (.region Em)))
def En:Rg:=[iI 4 0]
def ML:aE:=(sq Pe (sq Pf (.seq (.block 0 (sq Pg (.cond (Tm 12) (sq Ph .ret) (sq Pi (.cond (Tm 16) (sq Pj .ret) .skip))))) (.seq (sq Pk (.block 1 (.loop Ej))) (sq En .ret)))))
def amK:List Nat:=[]
def afB:bB:=⟨2,46,ML,[.tmp 4]⟩
def O7:Rg:=[iZ 4,iI 5 0]
def O8:Rg:=[iM 9 0,iK 10 137 9,iM 11 10,gM 12 1 11 false,gK 13 137 12 11 false,iQ 14 11 13]
def jb:Rg:=[iZ 4,iI 5 2]
def O9:Rd:=[(iM 15 0,true),(iM 16 0,false),(iK 17 138 16,true),(iA 18 (.slice 1 (Tm 15) none (some (Tm 17)) none),true),(iM 19 1,true),(iM 20 1,true),(iK 21 138 20,true),(iA 22 (.slice 1 (Tm 19) none (some (Tm 21)) none),false),(iM 0 18,false),(iM 1 22,false)]
def Pa:Rg:=[iM 23 0,iN 24 23,iM 25 1,iN 26 25,iB 27 .lss 24 26]
def Pb:Rg:=[iM 28 1,iM 29 0,iM 0 28,iM 1 29]
def jc:Rg:=[iM 30 0,iN 31 30,iC 32 .add 31 1,iA 33 (.ayV 1 4 [(.int .u32 0)] (Tm 32) (Tm 32)),iM 6 33]
def jd:Rg:=[iA 7 (.mv (.const (.int .u64 0)))]
def je:Rg:=[iM 34 0,iN 35 34,iI 36 0]
def Pc:Rg:=[iB 37 .lss 36 35]
def D4:Rg:=[iM 38 36,iM 8 38]
def D5:Rg:=[iM 39 7,iM 40 0,iM 41 8,iX 42 1 40 41,iL 43 42,iA 44 (.conv .u64 (Tm 43)),iB 45 .add 39 44,iM 7 45]
def D6:Rg:=[iM 46 8,iM 47 1,iN 48 47,iB 49 .lss 46 48]
def D7:Rg:=[iM 50 7,iM 51 1,iM 52 8,iX 53 1 51 52,iL 54 53,iA 55 (.conv .u64 (Tm 54)),iB 56 .add 50 55,iM 7 56]
def WC:Rg:=[iM 57 6,iM 58 8,iM 59 7,iA 60 (.conv .u32 (Tm 59)),iX 61 1 57 58,iS 1 61 60]
def WD:Rg:=[iM 62 7,iA 63 (.bin .shr (Tm 62) (.const (.int .u64 32))),iM 7 63]
def WE:Rg:=[iC 64 .add 36 1,iM 36 64]
def WB:aE:=(sq Pc (.seq (.cond (Tm 37) .skip (.exit 0)) (.seq (.block 1 (sq D4 (sq D5 (.seq (sq D6 (.cond (Tm 49) (.region D7) .skip)) (sq WC (.region WD)))))) (.region WE))))
def WF:Rg:=[iM 65 6,iM 66 0,iN 67 66,iM 68 7,iA 69 (.conv .u32 (Tm 68)),iX 70 1 65 67,iS 1 70 69]
def WG:Rg:=[iM 71 6,iK 72 141 71,iE 73 72 0,iE 74 72 1,iM 4 73,iM 5 74]
def MJ:aE:=(sq O7 (.seq (sq O8 (.cond (Tm 14) (sq jb .ret) .skip)) (dq O9 (.seq (sq Pa (.cond (Tm 27) (.region Pb) .skip)) (sq jc (sq jd (.seq (sq je (.block 0 (.loop WB))) (sq WF (sq WG .ret)))))))))
def amF:List Nat:=[]
def aeX:bB:=⟨2,75,MJ,[.tmp 4,.tmp 5]⟩
def Qd:Rg:=[iZ 4,iI 5 0]
def Qe:Rg:=[iM 11 0,iK 12 137 11,iM 13 12,gM 14 1 13 false,gK 15 137 14 13 false,iQ 16 13 15,iM 10 16]
def jw:Rg:=[iZ 4,iI 5 2]
def Qf:Rg:=[iM 18 0,iM 19 1,iK2 20 129 18 19,iC 21 .lss 20 0,iM 17 21]
def Qg:Rg:=[iZ 4,iI 5 4]
def Qh:Rd:=[(iM 22 0,true),(iM 23 0,false),(iK 24 138 23,true),(iA 25 (.slice 1 (Tm 22) none (some (Tm 24)) none),true),(iM 26 1,true),(iM 27 1,true),(iK 28 138 27,true),(iA 29 (.slice 1 (Tm 26) none (some (Tm 28)) none),false),(iM 0 25,false),(iM 1 29,false)]
def jx:Rg:=[iM 30 0,iN 31 30,iA 32 (.ayV 1 4 [(.int .u32 0)] (Tm 31) (Tm 31)),iM 6 32]
def jy:Rg:=[iA 7 (.mv (.const (.int .u64 0)))]
def jz:Rg:=[iM 33 0,iN 34 33,iI 35 0]
def Qi:Rg:=[iB 36 .lss 35 34]
def Fc:Rg:=[iM 37 35,iM 8 37]
def Fe:Rg:=[iM 38 0,iM 39 8,iX 40 1 38 39,iL 41 40,iA 42 (.conv .u64 (Tm 41)),iM 43 7,iB 44 .sub 42 43,iM 9 44]
def Ff:Rg:=[iM 45 8,iM 46 1,iN 47 46,iB 48 .lss 45 47]
def Fg:Rg:=[iM 49 9,iM 50 1,iM 51 8,iX 52 1 50 51,iL 53 52,iA 54 (.conv .u64 (Tm 53)),iB 55 .sub 49 54,iM 9 55]
def WT:Rg:=[iM 56 6,iM 57 8,iM 58 9,iA 59 (.conv .u32 (Tm 58)),iX 60 1 56 57,iS 1 60 59]
def WU:Rg:=[iM 61 9,iA 62 (.bin .shr (Tm 61) (.const (.int .u64 63))),iM 7 62]
def WV:Rg:=[iC 63 .add 35 1,iM 35 63]
def WS:aE:=(sq Qi (.seq (.cond (Tm 36) .skip (.exit 1)) (.seq (.block 2 (sq Fc (sq Fe (.seq (sq Ff (.cond (Tm 48) (.region Fg) .skip)) (sq WT (.region WU)))))) (.region WV))))
def WW:Rg:=[iM 64 6,iK 65 141 64,iE 66 65 0,iE 67 65 1,iM 4 66,iM 5 67]
def MV:aE:=(sq Qd (.seq (.block 0 (sq Qe (.cond (Tm 10) (sq jw .ret) (sq Qf (.cond (Tm 17) (sq Qg .ret) .skip))))) (dq Qh (sq jx (sq jy (.seq (sq jz (.block 1 (.loop WS))) (sq WW .ret)))))))
def amZ:List Nat:=[]
def afM:bB:=⟨2,68,MV,[.tmp 4,.tmp 5]⟩
def P9:Rg:=[iZ 4,iI 5 0]
def Qa:Rg:=[iM 12 0,iK 13 137 12,iM 14 13,gM 15 1 14 false,gK 16 137 15 14 false,iQ 17 14 16]
def jo:Rg:=[iZ 4,iI 5 2]
def Qb:Rd:=[(iM 18 0,true),(iM 19 0,false),(iK 20 138 19,true),(iA 21 (.slice 1 (Tm 18) none (some (Tm 20)) none),true),(iM 22 1,true),(iM 23 1,true),(iK 24 138 23,true),(iA 25 (.slice 1 (Tm 22) none (some (Tm 24)) none),false),(iM 0 21,false),(iM 1 25,false)]
def jp:Rg:=[iM 26 0,iN 27 26,iM 28 1,iN 29 28,iB 30 .add 27 29,iA 31 (.ayV 1 4 [(.int .u32 0)] (Tm 30) (Tm 30)),iM 6 31]
def jr:Rg:=[iM 32 0,iN 33 32,iI 34 0]
def Qc:Rg:=[iB 35 .lss 34 33]
def js:Rg:=[iM 36 34,iX 37 1 32 34,iL 38 37,iM 7 36,iM 8 38]
def jt:Rg:=[iA 9 (.mv (.const (.int .u64 0)))]
def ju:Rg:=[iM 39 1,iN 40 39,iI 41 0]
def Ez:Rg:=[iB 42 .lss 41 40]
def E0:Rg:=[iM 43 41,iX 44 1 39 41,iL 45 44,iM 10 43,iM 11 45]
def E4:Rg:=[iM 46 9,iM 47 8,iA 48 (.conv .u64 (Tm 47)),iM 49 11,iA 50 (.conv .u64 (Tm 49)),iB 51 .mul 48 50,iM 52 6,iM 53 7,iM 54 10,iB 55 .add 53 54,iX 56 1 52 55,iL 57 56,iA 58 (.conv .u64 (Tm 57)),iB 59 .add 51 58,iB 60 .add 46 59,iM 9 60]
def E5:Rg:=[iM 61 6,iM 62 7,iM 63 10,iB 64 .add 62 63,iM 65 9,iA 66 (.conv .u32 (Tm 65)),iX 67 1 61 64,iS 1 67 66]
def E6:Rg:=[iM 68 9,iA 69 (.bin .shr (Tm 68) (.const (.int .u64 32))),iM 9 69]
def E7:Rg:=[iC 70 .add 41 1,iM 41 70]
def WL:aE:=(sq Ez (.seq (.cond (Tm 42) .skip (.exit 2)) (.seq (.block 3 (sq E0 (sq E4 (sq E5 (.region E6))))) (.region E7))))
def WN:Rg:=[iM 71 6,iM 72 7,iM 73 1,iN 74 73,iB 75 .add 72 74,iM 76 9,iA 77 (.conv .u32 (Tm 76)),iX 78 1 71 75,iS 1 78 77]
def E8:Rg:=[iC 79 .add 34 1,iM 34 79]
def WM:aE:=(sq Qc (.seq (.cond (Tm 35) .skip (.exit 0)) (.seq (.block 1 (sq js (sq jt (.seq (sq ju (.block 2 (.loop WL))) (.region WN))))) (.region E8))))
def WP:Rg:=[iM 80 6,iK 81 141 80,iE 82 81 0,iE 83 81 1,iM 4 82,iM 5 83]
def MS:aE:=(sq P9 (.seq (sq Qa (.cond (Tm 17) (sq jo .ret) .skip)) (dq Qb (sq jp (.seq (sq jr (.block 0 (.loop WM))) (sq WP .ret))))))
def amX:List Nat:=[]
def afJ:bB:=⟨2,84,MS,[.tmp 4,.tmp 5]⟩
def Ea:Rg:=[iI 2 0]
def Eb:Rg:=[iM 6 0,iK 7 138 6,iM 3 7]
def Ec:Rg:=[iM 8 3,iC 9 .eql 8 0]
def Ed:Rg:=[iI 2 0]
def Ee:Rg:=[iM 10 3,iC 11 .sub 10 1,iC 12 .mul 11 32,iM 4 12]
def Ef:Rg:=[iM 13 0,iM 14 3,iC 15 .sub 14 1,iX 16 1 13 15,iL 17 16,iM 5 17]
def Eg:Rg:=[iM 18 5,iA 19 (.bin .gtr (Tm 18) (.const (.int .u32 0)))]
def Eh:Rg:=[iM 22 4,iC 23 .add 22 1,iM 4 23]
def Ei:Rg:=[iM 20 5,iA 21 (.bin .shr (Tm 20) (.const (.int .u64 1))),iM 5 21]
def D9:aE:=(.seq (sq Eg (.cond (Tm 19) .skip (.exit 0))) (.seq (.block 1 (.region Eh)) (.region Ei)))
def p5:Rg:=[iM 24 4,iM 2 24]
def HL:aE:=(sq Ea (sq Eb (.seq (sq Ec (.cond (Tm 9) (sq Ed .ret) .skip)) (sq Ee (.seq (sq Ef (.block 0 (.loop D9))) (sq p5 .ret))))))
def afA:List Nat:=[]
def Ug:bB:=⟨1,25,HL,[.tmp 2]⟩
def P2:Rg:=[iZ 4,iI 5 0]
def P3:Rg:=[iM 8 0,iK 9 137 8,iM 10 9,gM 11 1 10 false,gK 12 137 11 10 false,iQ 13 10 12]
def jn:Rg:=[iZ 4,iI 5 2]
def P4:Rg:=[iM 14 0,iK 15 135 14,iM 16 1,iK 17 135 16,iM 0 15,iM 1 17]
def P5:Rg:=[iM 18 1,iN 19 18,iC 20 .gtr 19 0]
def P6:Rg:=[iM 22 0,iM 23 1,iK2 24 136 22 23,iM 21 24,iE 25 21 0,iE 26 21 1,iM 6 25,iM 7 26]
def P7:Rg:=[iM 27 1,iM 28 7,iM 0 27,iM 1 28]
def P1:aE:=(.seq (sq P5 (.cond (Tm 20) .skip (.exit 0))) (.block 1 (sq P6 (.region P7))))
def P8:Rg:=[iM 29 0,iM 4 29,iI 5 0]
def MR:aE:=(sq P2 (.seq (sq P3 (.cond (Tm 13) (sq jn .ret) .skip)) (sq P4 (.seq (.block 0 (.loop P1)) (sq P8 .ret)))))
def amV:List Nat:=[]
def afG:bB:=⟨2,30,MR,[.tmp 4,.tmp 5]⟩
def Po:Rg:=[iZ 4,iZ 5,iI 6 0]
def Pp:Rg:=[iM 10 0,iK 11 137 10,iM 12 11,gM 13 1 12 false,gK 14 137 13 12 false,iQ 15 12 14,iM 9 15]
def jh:Rg:=[iZ 4,iZ 5,iI 6 2]
def Pq:Rg:=[iM 17 1,iK 18 138 17,iC 19 .eql 18 0,iM 16 19]
def Ps:Rg:=[iZ 4,iZ 5,iI 6 3]
def Pt:Rd:=[(iM 21 0,true),(iM 22 0,false),(iK 23 138 22,true),(iA 24 (.slice 1 (Tm 21) none (some (Tm 23)) none),true),(iM 25 1,true),(iM 26 1,true),(iK 27 138 26,true),(iA 28 (.slice 1 (Tm 25) none (some (Tm 27)) none),false),(iK2 29 136 24 28,true),(iM 20 29,false),(iE 30 20 0,false),(iE 31 20 1,false),(iM 7 30,false),(iM 8 31,false)]
def Pu:Rg:=[iM 32 7,iM 33 8,iM 4 32,iM 5 33,iI 6 0]
def MN:aE:=(sq Po (.seq (.block 0 (sq Pp (.cond (Tm 9) (sq jh .ret) (sq Pq (.cond (Tm 16) (sq Ps .ret) .skip))))) (dq Pt (sq Pu .ret))))
def amM:List Nat:=[]
def afC:bB:=⟨2,34,MN,[.tmp 4,.tmp 5,.tmp 6]⟩
def qb:Rg:=[iZ 4,iA 5 (.mv (.const (.int .u32 0)))]
def qc:Rg:=[iM 9 0,iN 10 9,iA 11 (.ayV 1 4 [(.int .u32 0)] (Tm 10) (Tm 10)),iM 6 11]
def qd:Rg:=[iA 7 (.mv (.const (.int .u64 0)))]
def qe:Rg:=[iM 12 0,iN 13 12,iC 14 .sub 13 1,iM 8 14]
def qf:Rg:=[iM 15 8,iC 16 .geq 15 0]
def qg:Rg:=[iM 19 7,iA 20 (.bin .shl (Tm 19) (.const (.int .u64 32))),iM 21 0,iM 22 8,iX 23 1 21 22,iL 24 23,iA 25 (.conv .u64 (Tm 24)),iB 26 .or 20 25,iM 7 26]
def qh:Rg:=[iM 27 6,iM 28 8,iM 29 7,iM 30 1,iA 31 (.conv .u64 (Tm 30)),iB 32 .quo 29 31,iA 33 (.conv .u32 (Tm 32)),iX 34 1 27 28,iS 1 34 33]
def qi:Rg:=[iM 35 7,iM 36 1,iA 37 (.conv .u64 (Tm 36)),iB 38 .rem 35 37,iM 7 38]
def qj:Rg:=[iM 17 8,iC 18 .sub 17 1,iM 8 18]
def qa:aE:=(.seq (sq qf (.cond (Tm 16) .skip (.exit 0))) (.seq (.block 1 (sq qg (sq qh (.region qi)))) (.region qj)))
def db:Rg:=[iM 39 6,iM 40 6,iK 41 138 40,iA 42 (.slice 1 (Tm 39) none (some (Tm 41)) none),iM 43 7,iA 44 (.conv .u32 (Tm 43)),iM 4 42,iM 5 44]
def CI:aE:=(sq qb (sq qc (sq qd (.seq (sq qe (.block 0 (.loop qa))) (sq db .ret)))))
def Yx:List Nat:=[]
def Fa:bB:=⟨2,45,CI,[.tmp 4,.tmp 5]⟩
def Y1:Rg:=[iZ 4]
def Y2:Rg:=[iM 9 0,iN 10 9,iC 11 .add 10 1,iA 12 (.ayV 1 4 [(.int .u32 0)] (Tm 11) (Tm 11)),iM 5 12]
def Y3:Rg:=[iA 6 (.mv (.const (.int .u64 0)))]
def Y4:Rg:=[iM 13 0,iN 14 13,iI 15 0]
def Y5:Rg:=[iB 16 .lss 15 14]
def Y6:Rg:=[iM 17 15,iX 18 1 13 15,iL 19 18,iM 7 17,iM 8 19]
def Y7:Rg:=[iM 20 6,iM 21 8,iA 22 (.conv .u64 (Tm 21)),iM 23 1,iB 24 .shl 22 23,iB 25 .or 20 24,iM 6 25]
def Y8:Rg:=[iM 26 5,iM 27 7,iM 28 6,iA 29 (.conv .u32 (Tm 28)),iX 30 1 26 27,iS 1 30 29]
def Y9:Rg:=[iM 31 6,iA 32 (.bin .shr (Tm 31) (.const (.int .u64 32))),iM 6 32]
def Za:Rg:=[iC 33 .add 15 1,iM 15 33]
def Qj:aE:=(sq Y5 (.seq (.cond (Tm 16) .skip (.exit 0)) (.seq (.block 1 (sq Y6 (sq Y7 (sq Y8 (.region Y9))))) (.region Za))))
def Qk:Rg:=[iM 34 5,iM 35 0,iN 36 35,iM 37 6,iA 38 (.conv .u32 (Tm 37)),iX 39 1 34 36,iS 1 39 38]
def Ql:Rg:=[iM 40 5,iM 4 40]
def WX:aE:=(sq Y1 (sq Y2 (sq Y3 (.seq (sq Y4 (.block 0 (.loop Qj))) (sq Qk (sq Ql .ret))))))
def apV:List Nat:=[]
def nup:bB:=⟨2,41,WX,[.tmp 4]⟩
def cn:Rg:=[iZ 4,iZ 5]
def cq:Rg:=[iM 21 0,iM 22 1,iK2 23 129 21 22,iC 24 .lss 23 0]
def cu:Rg:=[iM 25 0,iK 26 135 25,iZ 4,iM 5 26]
def cv:Rg:=[iM 27 1,iN 28 27,iC 29 .eql 28 1]
def cw:Rg:=[iM 31 0,iM 32 1,iA 33 (.azE 1 (Tm 32) (Ci 0)),iL 34 33,iK2 35 140 31 34,iM 30 35,iE 36 30 0,iE 37 30 1,iM 6 36,iM 7 37]
def cx:Rg:=[iM 38 6,iM 39 7,iA 40 (.conv .u64 (Tm 39)),iK 41 132 40,iM 4 38,iM 5 41]
def cz:Rg:=[iA 8 (.mv (.const (.int .u64 0)))]
def c7:Rg:=[iM 42 1,iM 43 1,iN 44 43,iC 45 .sub 44 1,iX 46 1 42 45,iL 47 46,iM 48 8,iB 49 .shl 47 48,iA 50 (.bin .lss (Tm 49) (.const (.int .u32 2147483648)))]
def c8:Rg:=[iM 51 8,iA 52 (.bin .add (Tm 51) (.const (.int .u64 1))),iM 8 52]
def ck:aE:=(.seq (sq c7 (.cond (Tm 50) .skip (.exit 0))) (.block 1 (.region c8)))
def RL:Rd:=[(iM 53 0,false),(iM 54 8,false),(iK2 55 143 53 54,true),(iM 56 1,true),(iM 57 8,true),(iK2 58 143 56 57,true),(iM 59 1,true),(iN 60 59,true),(iA 61 (.slice 1 (Tm 58) none (some (Tm 60)) none),false),(iM 9 55,false),(iM 10 61,false)]
def RM:Rg:=[iM 62 10,iN 63 62,iM 11 63]
def RN:Rg:=[iM 64 9,iN 65 64,iM 66 11,iB 67 .sub 65 66,iA 68 (.ayV 1 4 [(.int .u32 0)] (Tm 67) (Tm 67)),iM 12 68]
def RO:Rd:=[(iM 69 10,false),(iM 70 11,false),(iC 71 .sub 70 1,false),(iX 72 1 69 71,false),(iL 73 72,false),(iA 74 (.conv .u64 (Tm 73)),false),(iM 75 10,false),(iM 76 11,false),(iC 77 .sub 76 2,false),(iX 78 1 75 77,false),(iL 79 78,false),(iA 80 (.conv .u64 (Tm 79)),false),(iM 13 74,false),(iM 14 80,false)]
def RP:Rg:=[iM 81 12,iN 82 81,iC 83 .sub 82 1,iM 15 83]
def RQ:Rg:=[iM 84 15,iC 85 .geq 84 0]
def BV:Rd:=[(iM 88 9,false),(iM 89 15,false),(iM 90 11,false),(iB 91 .add 89 90,false),(iX 92 1 88 91,false),(iL 93 92,false),(iA 94 (.conv .u64 (Tm 93)),false),(iA 95 (.bin .shl (Tm 94) (.const (.int .u64 32))),false),(iM 96 9,false),(iM 97 15,false),(iM 98 11,false),(iB 99 .add 97 98,false),(iC 100 .sub 99 1,false),(iX 101 1 96 100,false),(iL 102 101,false),(iA 103 (.conv .u64 (Tm 102)),false),(iB 104 .or 95 103,false),(iM 16 104,false)]
def BW:Rd:=[(iM 105 16,false),(iM 106 13,false),(iB 107 .quo 105 106,false),(iM 108 16,false),(iM 109 13,false),(iB 110 .rem 108 109,false),(iM 17 107,false),(iM 18 110,false)]
def RR:Rg:=[iM 111 17,iA 112 (.bin .geq (Tm 111) (.const (.int .u64 4294967296))),iM 113 112,gM 114 17 113 false,gM 115 14 113 false,gB 116 .mul 114 115 113 false,gM 117 18 113 false,iG 118 (.bin .shl (Tm 117) (.const (.int .u64 32))) 113 false,gM 119 9 113 false,gM 120 15 113 false,gM 121 11 113 false,gB 122 .add 120 121 113 false,gC 123 .sub 122 2 113 false,iG 124 (.azE 1 (Tm 119) (Tm 123)) 113 false,gL 125 124 113 false,iG 126 (.conv .u64 (Tm 125)) 113 false,gB 127 .or 118 126 113 false,gB 128 .gtr 116 127 113 false,iQ 129 113 128]
def BY:Rg:=[iM 130 17,iA 131 (.bin .sub (Tm 130) (.const (.int .u64 1))),iM 17 131]
def BZ:Rg:=[iM 132 18,iM 133 13,iB 134 .add 132 133,iM 18 134]
def CA:Rg:=[iM 135 18,iA 136 (.bin .geq (Tm 135) (.const (.int .u64 4294967296)))]
def vH:aE:=(.seq (sq RR (.cond (Tm 129) .skip (.exit 4))) (.block 5 (sq BY (sq BZ (sq CA (.cond (Tm 136) (.exit 4) .skip))))))
def CB:Rg:=[iM 137 9,iM 138 15,iM 139 15,iM 140 11,iB 141 .add 139 140,iC 142 .add 141 1,iA 143 (.slice 1 (Tm 137) (some (Tm 138)) (some (Tm 142)) none),iM 144 10,iM 145 17,iA 146 (.call 142 [(Tm 143),(Tm 144),(Tm 145)])]
def CC:Rg:=[iM 147 17,iA 148 (.bin .sub (Tm 147) (.const (.int .u64 1))),iM 17 148]
def CD:Rg:=[iM 149 9,iM 150 15,iM 151 15,iM 152 11,iB 153 .add 151 152,iC 154 .add 153 1,iA 155 (.slice 1 (Tm 149) (some (Tm 150)) (some (Tm 154)) none),iM 156 10,iK2 157 139 155 156]
def vI:Rg:=[iM 158 12,iM 159 15,iM 160 17,iA 161 (.conv .u32 (Tm 160)),iX 162 1 158 159,iS 1 162 161]
def RT:Rg:=[iM 86 15,iC 87 .sub 86 1,iM 15 87]
def BT:aE:=(.seq (sq RQ (.cond (Tm 85) .skip (.exit 2))) (.seq (.block 3 (dq BV (dq BW (.seq (.block 4 (.loop vH)) (.seq (sq CB (.cond (Tm 146) (sq CC (.region CD)) .skip)) (.region vI)))))) (.region RT)))
def CE:Rg:=[iM 163 11,iA 164 (.ayV 1 4 [(.int .u32 0)] (Tm 163) (Tm 163)),iM 19 164]
def CF:Rg:=[iM 165 19,iN 166 165,iI 167 0]
def RU:Rg:=[iB 168 .lss 167 166]
def RV:Rg:=[iM 169 167,iM 20 169]
def RW:Rd:=[(iM 170 19,false),(iM 171 20,false),(iM 172 9,false),(iM 173 20,false),(iC 174 .add 173 1,false),(iX 175 1 172 174,false),(iL 176 175,false),(iA 177 (.conv .u64 (Tm 176)),false),(iA 178 (.bin .shl (Tm 177) (.const (.int .u64 32))),false),(iM 179 9,false),(iM 180 20,false),(iX 181 1 179 180,false),(iL 182 181,false),(iA 183 (.conv .u64 (Tm 182)),false),(iB 184 .or 178 183,false),(iM 185 8,false),(iB 186 .shr 184 185,false),(iA 187 (.conv .u32 (Tm 186)),false),(iX 188 1 170 171,false),(iS 1 188 187,true)]
def RX:Rg:=[iC 189 .add 167 1,iM 167 189]
def BU:aE:=(sq RU (.seq (.cond (Tm 168) .skip (.exit 6)) (.seq (.block 7 (sq RV (.draw RW))) (.region RX))))
def RY:Rd:=[(iM 190 12,true),(iM 191 12,false),(iK 192 138 191,true),(iA 193 (.slice 1 (Tm 190) none (some (Tm 192)) none),true),(iM 194 19,true),(iM 195 19,true),(iK 196 138 195,true),(iA 197 (.slice 1 (Tm 194) none (some (Tm 196)) none),false),(iM 4 193,false),(iM 5 197,false)]
def zK:aE:=(sq cn (.seq (sq cq (.cond (Tm 24) (sq cu .ret) .skip)) (.seq (sq cv (.cond (Tm 29) (sq cw (sq cx .ret)) .skip)) (sq cz (.seq (.block 0 (.loop ck)) (dq RL (sq RM (sq RN (dq RO (.seq (sq RP (.block 2 (.loop BT))) (sq CE (.seq (sq CF (.block 6 (.loop BU))) (dq RY .ret)))))))))))))
def Ul:List Nat:=[]
def ji:bB:=⟨2,198,zK,[.tmp 4,.tmp 5]⟩
def MX:Rg:=[iT 6 false]
def MY:Rg:=[iA 7 (.mv (.const (.int .u64 0))),iA 8 (.mv (.const (.int .u64 0)))]
def MZ:Rg:=[iM 13 1,iN 14 13,iI 15 0]
def NA:Rg:=[iB 16 .lss 15 14]
def NB:Rg:=[iM 17 15,iX 18 1 13 15,iL 19 18,iM 9 17,iM 10 19]
def NC:Rg:=[iM 20 7,iM 21 2,iM 22 10,iA 23 (.conv .u64 (Tm 22)),iB 24 .mul 21 23,iB 25 .add 20 24,iM 7 25]
def ND:Rg:=[iM 26 0,iM 27 9,iX 28 1 26 27,iL 29 28,iA 30 (.conv .u64 (Tm 29)),iM 31 7,iA 32 (.bin .and (Tm 31) (.const (.int .u64 4294967295))),iB 33 .sub 30 32,iM 34 8,iB 35 .sub 33 34,iM 11 35]
def NE:Rg:=[iM 36 0,iM 37 9,iM 38 11,iA 39 (.conv .u32 (Tm 38)),iX 40 1 36 37,iS 1 40 39]
def NF:Rg:=[iM 41 11,iA 42 (.bin .shr (Tm 41) (.const (.int .u64 63))),iM 8 42]
def NG:Rg:=[iM 43 7,iA 44 (.bin .shr (Tm 43) (.const (.int .u64 32))),iM 7 44]
def JW:Rg:=[iC 45 .add 15 1,iM 15 45]
def JV:aE:=(sq NA (.seq (.cond (Tm 16) .skip (.exit 0)) (.seq (.block 1 (sq NB (sq NC (sq ND (sq NE (sq NF (.region NG))))))) (.region JW))))
def JX:Rg:=[iM 46 0,iM 47 1,iN 48 47,iX 49 1 46 48,iL 50 49,iA 51 (.conv .u64 (Tm 50)),iM 52 7,iB 53 .sub 51 52,iM 54 8,iB 55 .sub 53 54,iM 12 55]
def JY:Rg:=[iM 56 0,iM 57 1,iN 58 57,iM 59 12,iA 60 (.conv .u32 (Tm 59)),iX 61 1 56 58,iS 1 61 60]
def JZ:Rg:=[iM 62 12,iA 63 (.bin .shr (Tm 62) (.const (.int .u64 63))),iA 64 (.bin .eql (Tm 63) (.const (.int .u64 1))),iM 6 64]
def uK:aE:=(sq MX (sq MY (.seq (sq MZ (.block 0 (.loop JV))) (sq JX (sq JY (sq JZ .ret))))))
def Fj:List Nat:=[]
def MW:bB:=⟨3,65,uK,[.tmp 6]⟩
def SA:Rg:=[iA 4 (.mv (.const (.int .u64 0)))]
def SB:Rg:=[iM 7 1,iN 8 7,iI 9 0]
def SC:Rg:=[iB 10 .lss 9 8]
def SD:Rg:=[iM 11 9,iX 12 1 7 9,iL 13 12,iM 5 11,iM 6 13]
def SE:Rg:=[iM 14 4,iM 15 0,iM 16 5,iX 17 1 15 16,iL 18 17,iA 19 (.conv .u64 (Tm 18)),iM 20 6,iA 21 (.conv .u64 (Tm 20)),iB 22 .add 19 21,iB 23 .add 14 22,iM 4 23]
def SF:Rg:=[iM 24 0,iM 25 5,iM 26 4,iA 27 (.conv .u32 (Tm 26)),iX 28 1 24 25,iS 1 28 27]
def SG:Rg:=[iM 29 4,iA 30 (.bin .shr (Tm 29) (.const (.int .u64 32))),iM 4 30]
def SH:Rg:=[iC 31 .add 9 1,iM 9 31]
def RZ:aE:=(sq SC (.seq (.cond (Tm 10) .skip (.exit 0)) (.seq (.block 1 (sq SD (sq SE (sq SF (.region SG))))) (.region SH))))
def SI:Rg:=[iM 32 0,iM 33 1,iN 34 33,iX 35 1 32 34,iL 36 35,iM 37 4,iA 38 (.conv .u32 (Tm 37)),iB 39 .add 36 38,iX 40 1 32 34,iS 1 40 39]
def wS:aE:=(sq SA (.seq (sq SB (.block 0 (.loop RZ))) (.region SI)))
def J2:List Nat:=[]
def WR:bB:=⟨2,41,wS,[]⟩
open Go Go.RowKit Go.ChangeShapes Go.WideShapes
inductive AT where
 | one (ct:CT)
 | struct (cts:List CT)
 deriving Inhabited
def R9 (P:Program) (n:Nat) (t:TypeId):Option AT :=
 match P.underlying t with
 | some .bool=>some (.one .bool)
 | some (.int k)=>some (.one (.int k))
 | some .string=>some (.one .str)
 | some (.slice _)=>match gZ P n t with
  | some [ct]=>some (.one ct)
  | _=>none
 | some (.struct _)=>(gZ P n t).map .struct
 | _=>none
def DL (P:Program) (n:Nat):List TypeId→Option (List AT)
 | []=>some []
 | t::ts=>match R9 P n t,DL P n ts with
  | some a,some e=>some (a::e)
  | _,_=>none
inductive AT.Ty:AT→PV→Prop
 | one {ct:CT} {pv:PV} (h:PV.Ty ct pv):AT.Ty (.one ct) pv
 | struct {cts:List CT} {pvs:List PV} (hl:pvs.length=cts.length) (h:∀ (j:Nat) pv ct,pvs[j]?=some pv→cts[j]?=some ct→PV.Ty ct pv):AT.Ty (.struct cts) (.agg pvs)
def AT.TyL:List AT→List PV→Prop
 | [],[]=>True
 | a::e,p::ps=>AT.Ty a p∧AT.TyL e ps
 | _,_=>False
section
variable {H:Type} {enc:TypeId × Value→H} {P:Program} {W:World} {sp:Nat→Bool} {held:Bool}
theorem aoX {r:Reach} {base:Nat} (num:Nat→FuncId) {t:TypeId} {v:Value} {d:DataW H} {ps:List MemPlace} {n:Nat} {a:AT}
  (j:Value.okWide P W r base t v) (A:DataW.Trod enc P W 0 sp held t v d ps) (u:R9 P n t=some a):∃ pv,aR (Env.of W num) pv v∧AT.Ty a pv:=by
 unfold R9 at u;cases n with
 | zero =>
  split at u
  ·rename_i l;cases u;obtain⟨b,rfl⟩:=okWide_bool l j;obtain⟨pv,w,y⟩:=tZ (n:=1) (ct:=.bool) num (by simp[Value.cells]) A (by simp[gZ,l]);exact⟨pv,w,.one y⟩
  ·rename_i k l;cases u;obtain⟨b,rfl⟩:=okWide_int l j;obtain⟨pv,w,y⟩:=tZ (n:=1) (ct:=.int k) num (by simp[Value.cells]) A (by simp[gZ,l]);exact⟨pv,w,.one y⟩
  ·rename_i l;cases u;obtain⟨b,rfl⟩:=okWide_string l j;obtain⟨pv,w,y⟩:=tZ (n:=1) (ct:=.str) num (by simp[Value.cells]) A (by simp[gZ,l]);exact⟨pv,w,.one y⟩
  ·simp[gZ] at u
  ·simp[gZ] at u
  ·cases u
 | succ n =>
  split at u
  ·rename_i l;cases u;obtain⟨b,rfl⟩:=okWide_bool l j;obtain⟨pv,w,y⟩:=tZ (n:=n+1) (ct:=.bool) num (by simp[Value.cells]) A (by simp[gZ,l]);exact⟨pv,w,.one y⟩
  ·rename_i k l;cases u;obtain⟨b,rfl⟩:=okWide_int l j;obtain⟨pv,w,y⟩:=tZ (n:=n+1) (ct:=.int k) num (by simp[Value.cells]) A (by simp[gZ,l]);exact⟨pv,w,.one y⟩
  ·rename_i l;cases u;obtain⟨b,rfl⟩:=okWide_string l j;obtain⟨pv,w,y⟩:=tZ (n:=n+1) (ct:=.str) num (by simp[Value.cells]) A (by simp[gZ,l]);exact⟨pv,w,.one y⟩
  ·rename_i e l;split at u
   ·rename_i ct B;cases u;obtain⟨x,len,cap,rfl⟩:=okWide_slice l j;obtain⟨pv,w,y⟩:=tZ num (by simp[Value.cells]) A B;exact⟨pv,w,.one y⟩
   ·cases u
  ·rename_i I l;rw[aAJ] at u;obtain⟨cts,B,rfl⟩:=u;obtain⟨F,w,y,E⟩:=Sa num l j A B;exact⟨_,w,.struct y E⟩
  ·cases u
theorem Kl {r:Reach} {base:Nat} (num:Nat→FuncId) {n:Nat}:∀ {ts:List TypeId} {vs:List Value} {ds:List (DataW H)} {ps:List MemPlace} {l:List AT},DataW.TrodAll enc P W 0 sp held ts vs ds ps →
  (∀ (j:Nat) t v,ts[j]?=some t→vs[j]?=some v→Value.okWide P W r base t v)→DL P n ts=some l→∃ e,eO (Env.of W num) e vs∧AT.TyL l e
 | [],[],_,_,l,_,_,h=>by simp[DL] at h;subst h;exact⟨[],.nil,trivial⟩
 | [],_::_,_,_,_,h,_,_=>h.elim
 | _::_,[],[],_,_,h,_,_=>h.elim
 | _::_,[],_::_,_,_,h,_,_=>h.elim
 | _::_,_::_,[],_,_,h,_,_=>h.elim
 | t::ts,v::vs,d::ds,ps,l,h,w,u=>by
  obtain⟨p,q,B,E,rfl⟩:=h;simp only[DL] at u;split at u
  ·rename_i a x y A;cases u;obtain⟨pv,r1,F⟩:=aoX num (w 0 t v rfl rfl) B y;obtain⟨e,r2,I⟩:=Kl num E (fun j t v a b=>w (j+1) t v (by simpa using a) (by simpa using b)) A;exact⟨pv::e,.cons r1 r2,F,I⟩
  ·cases u
theorem TrodAll.length:∀ {ts:List TypeId} {vs:List Value} {ds:List (DataW H)} {ps:List MemPlace},DataW.TrodAll enc P W 0 sp held ts vs ds ps→ds.length=ts.length
 | [],[],[],_,_=>rfl
 | [],[],_::_,_,h=>h.elim
 | [],_::_,_,_,h=>h.elim
 | _::_,[],[],_,h=>h.elim
 | _::_,[],_::_,_,h=>h.elim
 | _::_,_::_,[],_,h=>h.elim
 | t::ts,v::vs,d::ds,ps,h=>by obtain⟨p,q,j,e,rfl⟩:=h;simp[TrodAll.length e]
end
theorem vw {H:Type} {enc:TypeId × Value→H} {P:Program} {f:FuncId} {fn:Func} {s:ChangeSpec} {apart fresh l:Bool} {bt:TypeId} {num:Nat→FuncId} {name n:Nat} {ats:List AT}
  (U:laidOutB P=true) (K:fn.params.toList.all (fun t=>P.readableRec t&&decide (t<P.types.size))=true) (I:fn.resultTypes=#[bt]) (F:P.underlying bt=some .bool) (O:s.vars=[])
  (X:∀ ds:List (DataW H),ds.length=fn.params.toList.length→(s.fn H ds).results=[.lit (.bool true)]∧(s.fn H ds).args=ds∧(s.fn H ds).vars=[])
  (y:num name=f) (S:DL P n fn.params.toList=some ats) (h:∀ w,AT.TyL ats w→aG ⟨P,num⟩ name w PH.nil (aM (.bool true)))
  {W:World} {base:Nat} {args:Array Value} {ds R:List (DataW H)} {u:List MemPlace}
  (B:∀ (j:Nat) t v,fn.params[j]?=some t→args[j]?=some v→Value.okWide P W .any base t v) (hW:DataW.Whole enc P fn.params.toList s.vars apart W args.toList ds R u) :
  Calls P f args W fun e M=>∃ v,e=.returned v∧s.post enc P fn apart fresh l false W args v M:=by
 have A:∀ t∈fn.params.toList,P.readableRec t=true∧t<P.types.size:=fun t J=>by have:=aBK.1 K t J;simpa using this
 have E:=hW;obtain⟨p,q,N,hV,rfl,hz,Z⟩:=hW;rw[O] at hV;obtain⟨rfl,rfl⟩:=trodVars_none hV;obtain⟨w,V,J⟩:=Kl num N (fun j t v a b=>B j t v (by simpa using a) (by simpa using b)) S;have x:=TrodAll.length N;subst y;obtain⟨r1,r2,Y⟩:=X (ds++[]) (by simpa using x);refine (Xy (C:=⟨P,num⟩) (h w J) V).mono fun e M he=>?_;obtain⟨rfl,hb⟩:=he;exact⟨_,rfl,Zh U E hb A I F O r1 (by rw[r2]; simp) Y⟩
attribute [go_sem] pT iD setCells PV.cells PV.one bX storeAt cW loadCells eJ bnd PV.slice PV.intOf PV.eqs PV.eq1 PV.un keyOf KS.of KS.ofs KS.sh List.all_cons List.all_nil aDX List.set_cons_succ aBB aCJ aAR aBS aBK Bool.and_self
attribute [go_sem] Bool.bne_false Bool.bne_true Int.le_refl Int.lt_irrefl decide_true decide_false exists_eq_left exists_eq_left' aAA aEA aDK Int.natCast_nonneg Option.isSome_some Option.isSome_none aCU Option.getD_none decide_eq_true_eq decide_eq_false_iff_not aAX aBP aAF Nat.sub_zero
def bT (xs:List Int):List (List PV):=xs.map fun n=>[.int .i64 n]
theorem bC {a b:Int} (h:a≠b):(a==b)=false:=by simp[h]
theorem bO {a b:Int} (h:a=b):(a==b)=true:=by simp[h]
theorem dP {a b:Int} (h:a≠b):(a != b)=true:=by simp[h]
theorem cM {a b:Int} (h:a=b):(a != b)=false:=by simp[h]
section
variable {H:PH}
@[go_sem] theorem PH.set_set (o:Nat) (x y:bF):(H.set o x).set o y=H.set o y:=PH.ext fun q=>by
 simp only[aQ]; split<;>rfl
@[go_sem] theorem cG (o:Nat) (x:bF):(H.set o x) o=some x:=by simp only[aQ,if_true]
end
section
variable {C:Ctx} {K:cK} {F:PF} {H:PH}
theorem PH.nL (o:Nat) (x:bF):H.over .nil (PH.nil.set o x)=H.set o x:=PH.ext fun q=>by
 rw[oP]; simp only[aQ,iv]; split<;>simp_all
theorem PH.pL (o:Nat) (x y:bF):H.over (PH.nil.set o x) (PH.nil.set o y)=H.set o y:=PH.ext fun q=>by
 rw[oP]; simp only[aQ,iv]; split<;>simp_all
theorem dS {name:Nat} {vs:List PV} {e:PH} {R:PV→PH→Prop} {args:List aN} {d:Option Nat} {K:PF→PH→Prop} (h:aG C name vs e R) (l:aN.evs F args=some vs) (j:e.le H)
  (u:∀ r H',R r H'→kJ H e H'→K (F.put d r) (H.over e H')):fU C name args [] d K F H :=
 .inl ⟨vs,e,R,by rw[l]; simp,j,h,u⟩
theorem aV {res:List dT} {R:PV→PH→Prop} {vs:List PV} {e:kC} (he:e=.normal∨e=.ret) (j:PH) (h:dT.evs F H res=some vs) (l:j.le H) (A:R (dB vs) j):aT res R e F H:=by
 have w:∃ vs,dT.evs F H res=some vs∧∃ x y H2,iU (PF.nil.set 0 (dB vs)) H x y∧H2.le y∧∃ u,x 0=some u∧R u H2 :=
  ⟨vs,h,_,H,j,.refl _ _,l,dB vs,by rw[mF,if_pos rfl],A⟩
 rcases he with rfl | rfl<;>exact w
theorem agD {t o s k:Nat} {rs:List (List PV)} {R:PV→PH→Prop} {e:kC} (he:e=.normal∨e=.ret) (h:F t=some (.osl o s 0 k)) (y:H o=some (.rows s rs)) (A:k≤rs.length) (x:R (.sl s (rs.take k)) .nil) :
  aT [.tmp t] R e F H:=by
 have j:∃ vs,dT.evs F H [.tmp t]=some vs∧∃ l w H2,iU (PF.nil.set 0 (dB vs)) H l w∧H2.le w∧∃ u,l 0=some u∧R u H2:=by refine⟨[.osl o s 0 k],by rw[kP,nM,h,oS],_,_,.nil,.step o y (.refl _ _),a_,.sl s (rs.take k),?_,x⟩;have:0+k≤rs.length:=Om;simp only[PF.frz,mF,if_true,dB,aBJ,PV.frz,PV.pI,PV.bP,true_and,if_pos this,aBM]
 rcases he with rfl | rfl<;>exact j
def cL (v:PV) (r:PV) (H:PH):Prop:=Co r v∧H=PH.nil
theorem aG.aqD {name:Nat} {args:List PV} {H:PH} {v:PV} (h:aG C name args H (cL v)):aG C name args H (aM v) :=
 h.post fun r H' ⟨e,j⟩=>⟨v,e,rfl,j⟩
theorem aM.aqD {v r:PV} {H:PH} (h:aM v r H):cL v r H:=by
 obtain⟨rfl,rfl⟩:=h;exact⟨.refl _,rfl⟩
theorem zV {s b:Nat} {y:PV} {src:List (List PV)} {K:PV→PH→Prop} (u:eJ H s y=some src) (l:roomFor 0 src.length b) (e:src=[]→K .aA H)
  (j:src≠[]→∀ o,H o=none→K (.osl o s 0 src.length) (H.set o (.rows s src))):mG H s b .aA y K:=⟨src,u,l,e,j⟩
theorem OV {o s b len:Nat} {rs:List (List PV)} {y:PV} {src:List (List PV)} {K:PV→PH→Prop} (A:eJ H s y=some src) (x:roomFor len src.length b) (w:H o=some (.rows s rs)) (u:len≤rs.length)
  (j:K (.osl o s 0 (len+src.length)) (H.set o (.rows s (rs.take len++src))))
  (l:∀ e,H e=none→K (.osl e s 0 (len+src.length)) (H.set e (.rows s (rs.take len++src)))):mG H s b (.osl o s 0 len) y K :=
 ⟨src,A,rfl,rfl,x,rs,w,u,j,l⟩
end
def bY (H:PH) (s:Nat) (v:PV) (rows:List (List PV)):Prop :=
 (rows=[]∧v=.aA)∨∃ q rs,v=.osl q s 0 rows.length∧H q=some (.rows s rs)∧rows.length≤rs.length∧rs.take rows.length=rows
def Seen (s:Nat) (v:PV) (rows:List (List PV)):Prop:=(rows=[]∧v=.aA)∨v=.sl s rows
section
variable {C:Ctx} {K:cK} {F:PF} {H:PH} {s b:Nat} {v y:PV} {rows src:List (List PV)}
theorem bY.nil:bY H s .aA []:=.inl ⟨rfl,rfl⟩
theorem bY.ext {H':PH} (h:bY H s v rows) (e:∀ o x,H o=some x→H' o=some x):bY H' s v rows:=by
 rcases h with h | ⟨q,rs,h0,h1,h2,h3⟩
 ·exact .inl h
 ·exact .inr ⟨q,rs,h0,e q _ h1,h2,h3⟩
theorem jH {K:PV→PH→Prop} (h:bY H s v rows) (J:eJ H s y=some src) (I:roomFor rows.length src.length b)
  (E:∀ v' H',bY H' s v' (rows++src)→(∀ o x,H o=some x→(∀ l,v≠.osl o s 0 l)→H' o=some x)→K v' H'):mG H s b v y K:=by
 rcases h with ⟨rfl,rfl⟩ | ⟨q,rs,rfl,h1,h2,h3⟩
 ·refine⟨src,J,I,fun e=>?_,fun e o A=>?_⟩
  ·subst e;exact E _ _ (.inl ⟨rfl,rfl⟩) fun o x A _=>A
  ·refine E _ _ (.inr ⟨o,src,rfl,by simp only[aQ,if_true],aAF _,by simp⟩) fun B x j _=>?_;have:B≠o:=by rintro rfl; rw[A] at j; cases j
   simp only[aQ,if_neg this,j]
 ·have u:(rows++src).length=rows.length+src.length:=aAE;refine⟨src,J,rfl,rfl,I,rs,h1,h2,?_,fun o A=>?_⟩
  ·rw[h3];refine E _ _ (.inr ⟨q,rows++src,by rw[u],by simp only[aQ,if_true],aAF _,aBT⟩) fun B x j w=>?_;have:B≠q:=by rintro rfl; exact w _ rfl
   simp only[aQ,if_neg this,j]
  ·rw[h3];refine E _ _ (.inr ⟨o,rows++src,by rw[u],by simp only[aQ,if_true],aAF _,aBT⟩) fun B x j w=>?_;have M:B≠o:=by rintro rfl; rw[A] at j; cases j
   simp only[aQ,if_neg M,j]
def Pure (u:PV):Prop:=∀ q s rs,PV.frz q s rs u=u
theorem bY.frz (h:bY H s v rows):∃ j,Seen s j rows∧∀ F:PF,∃ e l,iU F H e l∧(∀ t,F t=some v→e t=some j)∧∀ i u,F i=some u→Pure u→e i=some u:=by
 rcases h with ⟨rfl,rfl⟩ | ⟨q,rs,rfl,h1,h2,h3⟩
 ·exact⟨.aA,.inl ⟨rfl,rfl⟩,fun F=>⟨F,H,.refl _ _,fun t h=>h,fun i u h _=>h⟩⟩
 ·refine⟨.sl s rows,.inr rfl,fun F=>⟨_,_,.step q h1 (.refl _ _),fun t x=>?_,fun i u hi w=>?_⟩⟩
  ·have:0+rows.length≤rs.length:=Om;simp only[PF.frz,x,aBJ,PV.frz,PV.pI,PV.bP,if_true,true_and,if_pos this,aBM,h3]
  ·simp only[PF.frz,hi,aBJ];rw[w]
theorem U9 {t:Nat} {e:kC} (he:e=.normal∨e=.ret) (h:bY H s v rows) (j:F t=some v):aT [.tmp t] (cL (.sl s rows)) e F H:=by
 rcases h with ⟨rfl,rfl⟩ | ⟨q,rs,rfl,h1,h2,h3⟩
 ·exact aV (vs:=[.aA]) he .nil (by rw[kP,nM,j,oS]) a_ ⟨.nil s,rfl⟩
 ·exact agD he j h1 h2 ⟨by rw[h3]; exact .refl _,rfl⟩
end
end Go.PM
namespace Go.PM
open Go
section
variable {C:Ctx} {F:PF} {H:PH}
@[go_sem] theorem kF (o s:Nat) (rs:List (List PV)) (i:Nat):(F.frz o s rs) i=(F i).map (PV.frz o s rs):=(rfl)
theorem qG {name t o s k:Nat} {rs:List (List PV)} {v:PV} {d:Option Nat} {K:PF→PH→Prop} (h:aG C name [.sl s (rs.take k)] .nil (aM v)) (l:F t=some (.osl o s 0 k)) (j:H o=some (.rows s rs)) (u:k≤rs.length)
  (e:K ((F.frz o s rs).put d v) (H.frz o s rs)):fU C name [.tmp t] [] d K F H:=by
 refine .inr ⟨_,_,.step o j (.refl _ _),[.sl s (rs.take k)],.nil,aM v,?_,a_,h,?_⟩
 ·have:0+k≤rs.length:=Om;simp only[nZ,yG,vZ,kF,l,aBJ,PV.frz,PV.pI,PV.bP,if_true,true_and,if_pos this,aBM,aBU]
 ·rintro r H' ⟨rfl,rfl⟩ -;rw[PH.jK];exact e
end
end Go.PM
namespace Go.Na
def val:List Nat→Nat
 | []=>0
 | x::xs=>x+4294967296*val xs
def Lim (xs:List Nat):Prop:=∀ x∈xs,x<4294967296
def aJ (n:Nat):List Nat:=if h:n=0 then [] else (n%4294967296)::aJ (n/4294967296)
termination_by n
decreasing_by exact Nat.div_lt_self (aCT h) (by decide)
def nl (n:Nat):Nat:=(aJ n).length
theorem gS:aJ 0=[]:=by rw[aJ]; simp
theorem rU {n:Nat} (h:n≠0):aJ n=(n%4294967296)::aJ (n/4294967296):=by rw[aJ]; simp[h]
theorem oN {n:Nat} (h:n≠0) (hb:n<4294967296):aJ n=[n]:=by
 rw[rU h,aBQ hb,aDG hb,gS]
theorem aY (n:Nat):val (aJ n)=n:=by
 induction n using Nat.strongRecOn with
 | _ n e =>
  by_cases h:n=0
  ·subst h; rw[gS]; rfl
  ·rw[rU h,val,e _ (Nat.div_lt_self (aCT h) (by decide))];exact Nat.mod_add_div n 4294967296
theorem bA (n:Nat):Lim (aJ n):=by
 induction n using Nat.strongRecOn with
 | _ n e =>
  by_cases h:n=0
  ·subst h; rw[gS]; intro x hx; cases hx
  ·rw[rU h];intro x hx;rw[aAK] at hx;rcases hx with rfl | hx
   ·exact aBX _ (by decide)
   ·exact e _ (Nat.div_lt_self (aCT h) (by decide)) x hx
theorem yQ:nl 0=0:=by rw[nl,gS]; rfl
theorem Ys {n:Nat} (h:n≠0):nl n=nl (n/4294967296)+1:=by rw[nl,rU h]; rfl
theorem jF (n k:Nat):nl n≤k↔n<4294967296 ^ k:=by
 induction k generalizing n with
 | zero =>
  by_cases h:n=0
  ·subst h; simp[yQ]
  ·rw[Ys h]; simp; omega
 | succ k e =>
  by_cases h:n=0
  ·subst h; simp[yQ,aDB]
  ·rw[Ys h,Nat.succ_le_succ_iff,e,aCD,aDI (by decide)]
theorem lC {n:Nat}:nl n=0↔n=0:=by
 have:=jF n 0;simp at this;exact this
theorem gT (xs e:List Nat):val (xs++e)=val xs+4294967296 ^ xs.length*val e:=by
 induction xs with
 | nil=>simp[val]
 | cons x xs j =>simp only[List.cons_append,val,aBV,j,aCD];rw[aAM,aCQ,← aAZ,aBA 4294967296 (4294967296 ^ xs.length)]
theorem fG {xs:List Nat} (h:Lim xs):val xs<4294967296 ^ xs.length:=by
 induction xs with
 | nil=>simp[val]
 | cons x xs l =>have u:=h x (by simp);have e:=l fun y j=>h y (by simp[j]);simp only[val,aBV,aCD];have:4294967296*(val xs+1)≤4294967296*4294967296 ^ xs.length:=aCR _ e;rw[aAM,Nat.mul_one] at this;rw[aBA (4294967296 ^ xs.length)];omega
theorem Lim.app {xs j:List Nat} (h:Lim xs) (k:Lim j):Lim (xs++j):=fun x e=>by
 rw[aBH] at e;exact e.elim (h x) (k x)
theorem Lim.take {xs:List Nat} (h:Lim xs) (n:Nat):Lim (xs.take n):=fun x e=>h x (List.mem_of_mem_take e)
theorem Lim.drop {xs:List Nat} (h:Lim xs) (n:Nat):Lim (xs.drop n):=fun x e=>h x (List.mem_of_mem_drop e)
theorem Lim.set {xs:List Nat} (h:Lim xs) (i:Nat) {v:Nat} (e:v<4294967296):Lim (xs.set i v):=fun x j=>by
 rcases List.mem_or_eq_of_mem_set j with h1 | h1
 ·exact h x h1
 ·subst h1; exact e
theorem wE (n:Nat):Lim (aAC n 0):=fun x e=>by
 rw[List.mem_replicate] at e; rw[e.2]; decide
theorem sC (n:Nat):val (aAC n 0)=0:=by
 induction n with
 | zero=>rfl
 | succ n e=>simp[List.replicate_succ,val,e]
theorem X5 {xs:List Nat} (h:Lim xs) (B:∀ x,xs.getLast?=some x→x≠0):aJ (val xs)=xs:=by
 induction xs with
 | nil=>simp[val,gS]
 | cons x xs M =>
  have w:=h x (by simp);have A:Lim xs:=fun y J=>h y (by simp[J]);cases xs with
  | nil =>have:=B x (by simp);simp only[val,Nat.mul_zero,aBP];exact oN this w
  | cons y l =>
   have j:=M A fun z K=>B z (by rw[List.getLast?_cons_cons]; exact K);have I:val (y::l)≠0:=fun e=>by rw[e,gS] at j; cases j
   have u:x+4294967296*val (y::l)≠0:=by have:0<4294967296*val (y::l):=Nat.mul_pos (by decide) (aCT I);omega
   show aJ (x+4294967296*val (y::l))=_;rw[rU u];have E:(x+4294967296*val (y::l))%4294967296=x:=by rw[Nat.add_mul_mod_self_left,aBQ w]
   have F:(x+4294967296*val (y::l))/4294967296=val (y::l):=by rw[Nat.add_mul_div_left _ _ (by decide),aDG w,aAX]
   rw[E,F,j]
theorem Iy {xs:List Nat} {n:Nat} (h:∀ j x,n≤j→xs[j]?=some x→x=0):val (xs.take n)=val xs:=by
 have e:xs.drop n=aAC (xs.drop n).length 0:=by apply List.ext_getElem (by simp);intro i l u;rw[List.getElem_replicate,List.getElem_drop];exact h (n+i) _ Om (aAH _)
 conv=>rhs; rw[← aDA n xs,gT,e,sC]
 simp
theorem II {xs:List Nat} (y:Lim xs) {n:Nat} (w:n≤xs.length) (h:∀ j x,n≤j→xs[j]?=some x→x=0) (u:∀ x,0<n→xs[n-1]?=some x→x≠0):xs.take n=aJ (val xs):=by
 rw[← Iy h,X5 (y.take n)];intro x l;rw[List.getLast?_eq_getElem?,aAN,aCF w] at l;rcases aCH n with e | e
 ·subst e; simp at l
 ·rw[List.getElem?_take_of_lt Om] at l;exact u x e l
theorem Q4 {xs:List Nat} (u:Lim xs) {n:Nat} (l:n≤xs.length) (h:∀ j x,n≤j→xs[j]?=some x→x=0) (e:∀ x,0<n→xs[n-1]?=some x→x≠0):nl (val xs)=n:=by
 rw[nl,← II u l h e,aAN]; omega
theorem fR {xs:List Nat} (h:Lim xs):nl (val xs)≤xs.length:=(jF _ _).2 (fG h)
theorem kR {xs : List Nat} (h : Lim xs) : xs.take (nl (val xs)) = aJ (val xs) := by
  have hl := fR h;have e : val (xs.take (nl (val xs)) ++ xs.drop (nl (val xs))) = val xs := by rw [aDA]
  rw [gT, aAN, aCF hl] at e;have h1 := fG (h.take (nl (val xs)));rw [aAN, aCF hl] at h1;have h2 := (jF (val xs) (nl (val xs))).1 (aAF _);have hd : val (xs.drop (nl (val xs))) = 0 := by
    rcases aCH (val (xs.drop (nl (val xs)))) with h | h
    · exact h
    · have := aCR (4294967296 ^ nl (val xs)) h
      omega
  have hz : ∀ j x, nl (val xs) ≤ j → xs[j]? = some x → x = 0 := by
    have zero : ∀ ys : List Nat, val ys = 0 → ∀ y ∈ ys, y = 0 := by
      intro ys
      induction ys with
      | nil => intro _ y hy; cases hy
      | cons z zs ih =>
        intro hv y hy;simp only [val] at hv;rw [aAK] at hy;rcases hy with rfl | hy
        · omega
        · exact ih (by have : 4294967296 * val zs = 0 := Om
                       rcases Nat.mul_eq_zero.1 this with h | h
                       · cases h
                       · exact h) y hy
    intro j x hj hx;refine zero _ hd x ?_;rw [List.mem_iff_getElem?];exact ⟨j - nl (val xs), by rw [aDO, Nat.add_sub_cancel' hj]; exact hx⟩
  refine II h hl hz fun x hpos hx e => ?_;subst e;have hz2 : ∀ j x, nl (val xs) - 1 ≤ j → xs[j]? = some x → x = 0 := fun j y hj hy => by
    rcases aAV j (nl (val xs)) with h3 | h3
    · have : j = nl (val xs) - 1 := Om
      subst this; rw [hx] at hy; cases hy; rfl
    · exact hz j y h3 hy
  have h3 := Iy hz2;have h4 := fG (h.take (nl (val xs) - 1));rw [h3, aAN, aCF Om] at h4;have := (jF (val xs) (nl (val xs) - 1)).2 h4;omega
theorem G5 {xs:List Nat} (h:Lim xs) {n:Nat} (w:nl (val xs)=n+1):∃ x,xs[n]?=some x∧x≠0:=by
 have y:=fR h;refine⟨xs[n]'Om,aAH _,fun e=>?_⟩;have u:=kR h;have j:=aY (val xs);rw[← u,w,aCM Om,e,gT] at j;simp only[val,Nat.mul_zero,aBP] at j;have l:=fG (h.take n);rw[j,aAN,aCF Om] at l;have:=(jF (val xs) n).2 l;omega
theorem sA (xs:List Nat) {k:Nat} (h:k<xs.length):val xs=val (xs.take k)+4294967296 ^ k*(xs[k]+4294967296*val (xs.drop (k+1))):=by
 conv=>lhs; rw[← aDA k xs,gT,aAN,aCF Om,aCK h]
 rfl
theorem YS {xs e:List Nat} (y:Lim xs) {k:Nat} (j:k<xs.length) (l:k<e.length) (x:xs.drop (k+1)=e.drop (k+1)) (h:xs[k]<e[k]):val xs<val e:=by
 rw[sA xs j,sA e l,x];have u:=fG (y.take k);rw[aAN,aCF Om] at u;have w:4294967296 ^ k*(xs[k]+4294967296*val (e.drop (k+1))+1)≤4294967296 ^ k*(e[k]+4294967296*val (e.drop (k+1))):=aCR _ Om;rw[aAM _ _ 1,Nat.mul_one] at w;omega
def eN (a b:Nat):Int:=if a<b then -1 else if b<a then 1 else 0
theorem ku {xs e:List Nat} {k:Nat} (j:k<xs.length) (l:k<e.length) (u:xs.drop (k+1)=e.drop (k+1)) (h:xs[k]=e[k]):xs.drop k=e.drop k:=by
 rw[aCK j,aCK l,u,h]
theorem jQ {a b:Nat} (h:a≤b):nl a≤nl b:=(jF a _).2 (Nat.lt_of_le_of_lt h ((jF b _).1 (aAF _)))
theorem vq {xs:List Nat} (h:Lim xs) {j:Nat} (l:j<nl (val xs)):∃ (u:j<xs.length) (w:j<(aJ (val xs)).length),xs[j]=(aJ (val xs))[j]:=by
 have x:=fR h;refine⟨by omega,l,?_⟩;have e:=kR h;have:(xs.take (nl (val xs)))[j]?=(aJ (val xs))[j]?:=by rw[e]
 rw[List.getElem?_take_of_lt l,aAH Om,aAH l] at this;exact aCI.inj this
def cN (n:Nat):Nat:=if h:n=0 then 0 else cN (n/2)+1
termination_by n
decreasing_by exact Nat.div_lt_self (aCT h) (by decide)
theorem lF:cN 0=0:=by rw[cN]; simp
theorem rA {n:Nat} (h:n≠0):cN n=cN (n/2)+1:=by rw[cN]; simp[h]
theorem mL (n k:Nat):cN n≤k↔n<2 ^ k:=by
 induction k generalizing n with
 | zero =>
  by_cases h:n=0
  ·subst h; simp[lF]
  ·rw[rA h]; simp; omega
 | succ k e =>
  by_cases h:n=0
  ·subst h; simp[lF,aDB]
  ·rw[rA h,Nat.succ_le_succ_iff,e,aCD,aDI (by decide)]
theorem kD {n:Nat}:cN n=0↔n=0:=by
 have:=mL n 0;simp at this;exact this
theorem vr {hi lo k:Nat} (u:lo<2 ^ k) (j:hi≠0):cN (lo+2 ^ k*hi)=k+cN hi:=by
 apply Nat.le_antisymm
 ·rw[mL,Nat.pow_add];have e:=(mL hi _).1 (aAF _);have:2 ^ k*(hi+1)≤2 ^ k*2 ^ cN hi:=aCR _ e;rw[aAM,Nat.mul_one] at this;omega
 ·obtain⟨b,hb⟩:∃ b,cN hi=b+1:=⟨cN hi-1,by have:=mt kD.1 j; omega⟩;rw[hb];rcases aAV (cN (lo+2 ^ k*hi)) (k+(b+1)) with h | h
  ·have e:=(mL (lo+2 ^ k*hi) (k+b)).1 Om;rw[Nat.pow_add] at e;have l:¬ hi<2 ^ b:=fun h=>by have:=(mL hi b).2 h; omega
   have:2 ^ k*2 ^ b≤2 ^ k*hi:=aCR _ Om;omega
  ·exact h
theorem rP (n k:Nat):cN n≤32*k↔nl n≤k:=by
 rw[mL,jF,Nat.pow_mul]
end Go.Na
namespace Go.PM
theorem Lq {F e:PF} (h:F.le e:=by (repeat' (first|exact c_|refine d_ ?_ ?_))<;>first|(simp only[go_sem]<;>rfl)|rfl|assumption):F.le e:=h
end Go.PM
namespace Go.PM
open Go Go.Na
abbrev aH (xs:List Nat):List (List PV):=xs.map fun (n:Nat)=>[PV.int .u32 (n:Int)]
abbrev aI (xs:List Nat):PV:=.sl 1 (xs.map fun (n:Nat)=>[PV.int .u32 (n:Int)])
theorem bV (xs:List Nat):(aH xs).length=xs.length:=by simp
theorem bL (xs:List Nat) {i:Nat} (h:i<xs.length):(aH xs)[i]?=some [.int .u32 (xs[i]:Nat)]:=by simp[h]
theorem p4 (xs:List Nat) (k:Nat):aI (xs.take k)=.sl 1 ((xs.map fun (n:Nat)=>[PV.int .u32 (n:Int)]).take k):=by rw[aI,List.map_take]
theorem cI (n:Nat):IntKind.u32.wrap (n:Int)=((n%4294967296:Nat):Int):=by
 have e:IntKind.u32.wrap (n:Int)=(n:Int)%4294967296:=by simp[IntKind.wrap,IntKind.bits,IntKind.signed]
 rw[e]; rfl
theorem wN {k:Nat} (h:k≤9223372036854775807) (e:0<k):IntKind.i64.wrap ((k:Int)-1)=((k-1:Nat):Int):=by
 rw[wrap_i64 Om Om]; omega
def Us (xs:List Nat) (n:Nat):PF:=((PF.nil.set 0 (aI xs)).set 3 (.int .i64 n))
theorem Uu {C:Ctx} (xs:List Nat) (B:Lim xs) (F:xs.length≤35184372087808):pK.wp C (aT DX.res (aM (.int .i64 (nl (val xs):Nat)))) (PF.args [aI xs]) .nil:=by
 simp only[go_sem,pK,HO,HP,DX];refine wp_loop (α:=Nat) (Us xs) (fun _=>.nil) (fun n=>n≤xs.length∧∀ j x,n≤j→xs[j]?=some x→x=0) (fun n=>n) xs.length ⟨aAF _,fun j x h e=>by rw[aBN h] at e; cases e⟩ ?_ a_ ?_
 ·unfold Us;exact Lq
 rintro n ⟨A,y⟩;have out:(∀ x,0<n→xs[n-1]?=some x→x≠0)→nl (val xs)=n:=fun h=>Q4 B A y h;simp only[go_sem,HN,HQ,Us];by_cases u:(n:Int)>0
 ·have w:0<n:=Om;have hi:=bL xs (Om:n-1<xs.length);simp only[go_sem,u,wN (Om:n≤9223372036854775807) w,hi];by_cases l:xs[n-1]=0
  ·simp only[go_sem,bO (Om:((xs[n-1]:Nat):Int)=0),HR,wN (Om:n≤9223372036854775807) w];refine aL (n-1) ⟨by omega,fun j x E he=>?_⟩ Om ?_ a_
   ·rcases aAV j n with h | h
    ·have:j=n-1:=Om;subst this;rw[aAH Om] at he;cases he; exact l
    ·exact y j x h he
   ·exact Lq
  ·simp only[go_sem,bC (Om:((xs[n-1]:Nat):Int)≠0),tG];refine cD (.inr rfl) rfl ?_;rw[out fun x _ he=>by rw[aAH Om] at he; cases he; exact l];rfl
 ·simp only[go_sem,u,tG];refine cD (.inr rfl) rfl ?_;rw[out fun x h=>by omega];rfl
theorem Yt {C:Ctx} (xs:List Nat) (e:aG C 138 [aI xs] .nil (aM (.int .i64 (nl (val xs):Nat)))):CH.wp C (aT Eu.res (aM (.bool (decide (nl (val xs)>512))))) (PF.args [aI xs]) .nil:=by
 simp only[go_sem,CH,p7,p8,Eu];refine aB e rfl ?_;simp only[go_sem];refine cD (.inr rfl) rfl ?_;simp only[dB,PV.bool.injEq,decide_eq_decide];omega
def szL (n:Nat):List Nat:=if nl n>512 then [] else aJ n
def szE (n:Nat):Int:=if nl n>512 then 2 else 0
def szV (n:Nat):PV:=.tup [aI (szL n),.int .i64 (szE n)]
theorem Yy {C:Ctx} (xs:List Nat) (w:Lim xs) (e:aG C 138 [aI xs] .nil (aM (.int .i64 (nl (val xs):Nat)))):CJ.wp C (aT Fb.res (cL (szV (val xs)))) (PF.args [aI xs]) .nil:=by
 simp only[go_sem,CJ,qk,ql,Fb];refine aB e rfl ?_;simp only[go_sem,qn];by_cases h:nl (val xs)>512
 ·have u:((nl (val xs):Nat):Int)>512:=Om;simp only[go_sem,u,qo];refine aV (vs:=[.aA,.int .i64 2]) (.inr rfl) .nil rfl a_ ⟨?_,rfl⟩;rw[szV,szL,szE,if_pos h,if_pos h];refine .tup rfl fun j p q l hq=>?_
  match j with
  | 0=>simp at l hq; subst l; subst hq; exact .nil 1
  | 1=>simp at l hq; subst l; subst hq; exact .refl _
  | j+2=>simp at l
 ·have u:¬ ((nl (val xs):Nat):Int)>512:=Om;have y:=fR w;have x:((nl (val xs):Nat):Int)≤(xs.length:Nat):=Om;simp only[go_sem,u,qp,x,or_true,aBM];refine aV (.inr rfl) .nil rfl a_ ⟨?_,rfl⟩;rw[szV,szL,szE,if_neg h,if_neg h,← kR w,p4];exact .refl _
theorem afH {C:Ctx} (v:Nat) (K:v<18446744073709551616) (j:∀ xs,Lim xs→xs.length≤35184372087808→aG C 138 [aI xs] .nil (aM (.int .i64 (nl (val xs):Nat)))) :
  HS.wp C (aT Uw.res (aM (aI (aJ v)))) (PF.args [.int .u64 v]) .nil:=by
 have B:IntKind.u32.wrap ((v:Nat):Int)=((v%4294967296:Nat):Int):=cI v;have E:Int.fdiv ((v:Nat):Int) 4294967296=((v/4294967296:Nat):Int):=by rw[Int.fdiv_eq_ediv_of_nonneg _ (by decide)]; rfl
 have w:v/4294967296<4294967296:=Om;have F:IntKind.u32.wrap ((v/4294967296:Nat):Int)=((v/4294967296:Nat):Int):=by rw[cI,aBQ w]
 have l:Lim [v%4294967296,v/4294967296]:=by
  intro x A;simp only[aAK,List.mem_nil_iff,or_false] at A;rcases A with rfl | rfl
  ·exact aBX _ (by decide)
  ·exact w
 have e:val [v%4294967296,v/4294967296]=v:=by simp only[val,Nat.mul_zero,aBP]; exact Nat.mod_add_div v 4294967296
 have J:∀ a b:Int,PV.bin .shr (.int .u64 a) (.int .u64 b)=shift .shr .u64 a b:=fun _ _=>rfl;have u:shift .shr .u64 (v:Int) 32=some (.int .u64 ((v/4294967296:Nat):Int)):=by
  unfold shift;rw[if_neg (by decide)];simp only;have:min (Int.toNat 32) IntKind.u64.bits=32:=by decide
  rw[this];rw[show (2:Int) ^ 32=4294967296 by decide,E]
 simp only[go_sem,HS,Ew,Ex,Uw,B,u,F];have hb:(2:Nat)*1≤16777216:=by decide
 simp only[go_sem,Ey];refine aB (j [v%4294967296,v/4294967296] l (by simp)) rfl ?_;have y:=fR l;rw[e] at y ⊢;have I:((nl v:Nat):Int)≤((2:Nat):Int):=by simp at y; omega
 simp only[go_sem,I,or_true,aBM];refine cD (.inr rfl) rfl ?_;have:=kR l;rw[e] at this;rw[← this,p4];rfl
theorem afN {C:Ctx} (xs:List Nat) (j:Lim xs) (w:xs.length≤35184372087808) (e:aG C 138 [aI xs] .nil (aM (.int .i64 (nl (val xs):Nat)))) :
  HT.wp C (aT Uy.res (cL (aI (aJ (val xs))))) (PF.args [aI xs]) .nil:=by
 simp only[go_sem,HT,Fk,Fl,Uy];refine aB e rfl ?_;have x:=fR j;have l:((nl (val xs):Nat):Int)≤(xs.length:Nat):=Om;simp only[go_sem,l,or_true,aBM];refine jH (rows:=[]) (src:=aH (aJ (val xs))) .nil ?_ ?_ fun v H' u _=>?_
 ·simp only[go_sem];rw[← kR j,← List.map_take]
 ·unfold roomFor;rw[bV];have:(aJ (val xs)).length=nl (val xs):=rfl;simp only[aCL,maxLen];omega
 ·exact U9 (.inr rfl) (by simpa using u) rfl
end Go.PM
theorem Sq {p:Prop} (h:p:=by simp only[go_sem]):p:=h
theorem Ev {p:Prop} (h:p:=by simp only[go_sem]<;>rfl):p:=h
namespace Go.PM
open Go Go.Na
def Uh (xs e:List Nat) (i:Int):PF:=(((PF.nil.set 0 (aI xs)).set 1 (aI e)).set 7 (.int .i64 i))
theorem amJ {C:Ctx} (xs e:List Nat) (M:Lim xs) (N:Lim e) (lx:xs.length≤35184372087808) (ly:e.length≤35184372087808) (A:aG C 138 [aI xs] .nil (aM (.int .i64 (nl (val xs):Nat)))) (B:aG C 138 [aI e] .nil (aM (.int .i64 (nl (val e):Nat)))) :
  ML.wp C (aT afB.res (aM (.int .i64 (eN (val xs) (val e))))) (PF.args [aI xs,aI e]) .nil:=by
 simp only[go_sem,ML,Pe,Pf,afB];refine aB A Ev ?_;simp only[go_sem];refine aB B Ev ?_;simp only[go_sem,Pg];have Z:=fR M;have V:=fR N;by_cases c1:nl (val xs)<nl (val e)
 ·have j:((nl (val xs):Nat):Int)<(nl (val e):Nat):=Om;simp only[go_sem,j,Ph];refine cD (.inr rfl) Ev ?_;have:val xs<val e:=by
   rcases aAV (val xs) (val e) with h | h
   ·exact h
   ·have:=jQ h; omega
  simp[dB,eN,this]
 have j:¬ ((nl (val xs):Nat):Int)<(nl (val e):Nat):=Om;simp only[go_sem,j,Pi];by_cases c2:nl (val xs)>nl (val e)
 ·have l:((nl (val xs):Nat):Int)>(nl (val e):Nat):=Om;simp only[go_sem,l,Pj];refine cD (.inr rfl) Ev ?_;have:val e<val xs:=by
   rcases aAV (val e) (val xs) with h | h
   ·exact h
   ·have:=jQ h; omega
  have x:¬ val xs<val e:=Om;simp[dB,eN,this,x]
 have l:¬ ((nl (val xs):Nat):Int)>(nl (val e):Nat):=Om;have Y:nl (val xs)=nl (val e):=Om;simp only[go_sem,l,Pk];have ex:=aY (val xs);have w:=aY (val e);have S:=bA (val xs);have U:=bA (val e);refine wp_loop (α:=Nat) (fun k=>Uh xs e ((k:Int)-1)) (fun _=>.nil) (fun k=>k≤nl (val xs)∧(aJ (val xs)).drop k=(aJ (val e)).drop k) (fun k=>k) (nl (val xs)) ⟨aAF _,?_⟩ ?_ a_ ?_
 ·rw[aDW (by rw[nl]; exact aAF _),aDW (by rw[Y,nl]; exact aAF _)]
 ·unfold Uh
  (repeat' (first|exact c_|refine d_ ?_ ?_))<;>first|(simp only[go_sem,wrap_i64 (show -9223372036854775808≤((nl (val xs):Nat):Int)-1 by omega) (show ((nl (val xs):Nat):Int)-1≤9223372036854775807 by omega)]<;>rfl)|rfl
 rintro k ⟨hk,u⟩;simp only[go_sem,Ej,Pl,Uh];by_cases h0:0<k
 ·obtain⟨m,rfl⟩:∃ m,k=m+1:=⟨k-1,by omega⟩;have E:((m+1:Nat):Int)-1=(m:Int):=Om;have y:(m:Int)≥0:=Om;obtain⟨O,F,I⟩:=vq M (Om:m<nl (val xs));obtain⟨R,J,K⟩:=vq N (Om:m<nl (val e));simp only[go_sem,E,y];refine bN .nil dC a_ ?_;simp only[go_sem,Pm,bL xs O,bL e R];by_cases W:xs[m]<e[m]
  ·simp only[go_sem,show ((xs[m]:Nat):Int)<(e[m]:Nat) by omega,Pn];refine cD (.inr rfl) Ev ?_;have:=YS S F J u (by rw[← I,← K]; exact W);rw[ex,w] at this;simp[dB,eN,this]
  ·simp only[go_sem,show ¬ ((xs[m]:Nat):Int)<(e[m]:Nat) by omega];refine bN .nil dC a_ ?_;simp only[go_sem,Ek,bL xs O,bL e R];by_cases X:xs[m]>e[m]
   ·simp only[go_sem,show ((xs[m]:Nat):Int)>(e[m]:Nat) by omega,El];refine cD (.inr rfl) Ev ?_;have:=YS U J F u.symm (by rw[← I,← K]; exact X);rw[ex,w] at this;have x:¬ val xs<val e:=Om;simp[dB,eN,this,x]
   ·simp only[go_sem,show ¬ ((xs[m]:Nat):Int)>(e[m]:Nat) by omega,Em];refine aL m ⟨by omega,ku F J u (by rw[← I,← K]; omega)⟩ Om ?_ a_
    (repeat' (first|exact c_|refine d_ ?_ ?_))<;>first|(simp only[go_sem,wrap_i64 (Om:-9223372036854775808≤(m:Int)-1) (Om:(m:Int)-1≤9223372036854775807)]<;>rfl)|rfl
 ·have:k=0:=Om;subst this;have E:¬ ((0:Nat):Int)-1≥0:=by decide
  simp only[go_sem,E,En];refine cD (.inr rfl) Ev ?_;rw[aBM,aBM] at u;have:val xs=val e:=by rw[← ex,← w,u]
  simp[dB,eN,this]
def D8 (k:Nat) (v:Nat):PF:=((PF.nil.set 4 (.int .i64 k)).set 5 (.int .u32 v))
theorem aeZ {C:Ctx} (xs:List Nat) (A:Lim xs) (X:xs.length≤35184372087808) (B:aG C 138 [aI xs] .nil (aM (.int .i64 (nl (val xs):Nat)))) :
  HL.wp C (aT Ug.res (aM (.int .i64 (cN (val xs):Nat)))) (PF.args [aI xs]) .nil:=by
 simp only[go_sem,HL,Ea,Eb,Ug];refine aB B Ev ?_;simp only[go_sem,Ec];have W:=fR A;by_cases O:nl (val xs)=0
 ·simp only[go_sem,bO (show ((nl (val xs):Nat):Int)=0 by omega),Ed];refine cD (.inr rfl) Ev ?_;have:val xs=0:=lC.1 O;simp[dB,this,lF]
 obtain⟨n,N⟩:∃ n,nl (val xs)=n+1:=⟨nl (val xs)-1,by omega⟩;obtain⟨t,x,E⟩:=G5 A N;have y:t<4294967296:=A t (aCA x);have j:n<xs.length:=Om;have V:val xs=val (xs.take n)+4294967296 ^ n*t:=by
  have e:=kR A;have:=aY (val xs);have U:xs[n]=t:=by rw[aAH j] at x; exact aCI.inj x
  rw[← e,N,aCM j,U,gT,aAN,aCF Om] at this;simp only[val,Nat.mul_zero,aBP] at this;exact this.symm
 have hb:cN (val xs)=32*n+cN t:=by
  have J:=fG (A.take n);rw[aAN,aCF Om] at J;rw[V,show (4294967296:Nat) ^ n=2 ^ (32*n) by rw[Nat.pow_mul]] at *
  exact vr J E
 have l:(aH xs)[n]?=some [.int .u32 (t:Nat)]:=by rw[bL xs j];rw[aAH j] at x;rw[aCI.inj x]
 have R:IntKind.i64.wrap (((nl (val xs):Nat):Int)-1)=(n:Int):=by rw[wrap_i64 Om Om]; omega
 have S:IntKind.i64.wrap ((n:Int)*32)=((32*n:Nat):Int):=by rw[wrap_i64 Om Om]; omega
 simp only[go_sem,bC (show ((nl (val xs):Nat):Int)≠0 by omega),Ee,Ef,R,S,l];refine wp_loop (α:=Nat × Nat) (fun a=>D8 a.1 a.2) (fun _=>.nil) (fun a=>a.1+cN a.2=32*n+cN t∧a.2<4294967296) (fun a=>a.2) (32*n,t) ⟨rfl,y⟩ ?_ a_ ?_
 ·unfold D8;exact Lq
 rintro⟨k,v⟩ ⟨K,hlt⟩;simp only at K hlt;have M:cN t≤32:=(mL t 32).2 y;simp only[go_sem,D9,Eg,D8];by_cases I:(v:Int)>0
 ·have F:v≠0:=Om;have u:PV.bin .shr (.int .u32 (v:Int)) (.int .u64 1)=some (.int .u32 ((v/2:Nat):Int)):=by
   show shift .shr .u32 (v:Int) 1=_;unfold shift;rw[if_neg (by decide)];simp only;have:min (Int.toNat 1) IntKind.u32.bits=1:=by decide
   rw[this,show (2:Int) ^ 1=2 by decide,Int.fdiv_eq_ediv_of_nonneg _ (by decide)];rfl
  have w:shift .shr .u32 (v:Int) 1=some (.int .u32 ((v/2:Nat):Int)):=u;simp only[go_sem,I,Eh,Ei,u,w,wZz k];refine aL (k+1,v/2) ⟨?_,?_⟩ (Nat.div_lt_self Om (by decide)) ?_ a_
  ·have:=rA F;simp only; omega
  ·simp only; omega
  ·exact Lq
 ·have:v=0:=Om;subst this;simp only[go_sem,I,p5];refine cD (.inr rfl) Ev ?_;rw[lF] at K;simp only[dB,PV.int.injEq,true_and];omega
structure qT (C:Ctx):Prop where
 length:∀ xs,Lim xs→xs.length≤35184372087808→aG C 138 [aI xs] .nil (aM (.int .i64 (nl (val xs):Nat)))
 large:∀ xs,Lim xs→xs.length≤35184372087808→aG C 137 [aI xs] .nil (aM (.bool (decide (nl (val xs)>512))))
 sized:∀ xs,Lim xs→xs.length≤35184372087808→aG C 141 [aI xs] .nil (aM (szV (val xs)))
 trim:∀ xs,Lim xs→xs.length≤35184372087808→aG C 135 [aI xs] .nil (aM (aI (aJ (val xs))))
 make:∀ v:Nat,v<18446744073709551616→aG C 132 [.int .u64 v] .nil (aM (aI (aJ v)))
 cmp:∀ xs ys,Lim xs→Lim ys→xs.length≤35184372087808→ys.length≤35184372087808→aG C 129 [aI xs,aI ys] .nil (aM (.int .i64 (eN (val xs) (val ys))))
def lS:PV→List Nat
 | .sl _ rows=>rows.map fun r=>match r with | [.int _ n]=>n.toNat | _=>0
 | _=>[]
theorem fM (xs:List Nat):lS (aI xs)=xs:=by
 simp[lS,aDE,Function.comp_def]
def Uf:Spec:=fun name vs=>match name,vs with
 | 138,[x]=>some ([],fun _=>aM (.int .i64 (nl (val (lS x)):Nat)))
 | _,_=>none
theorem oO (xs:List Nat):Uf 138 [aI xs]=some ([],fun _=>aM (.int .i64 (nl (val xs):Nat))):=by
 show some _=_; rw[fM]
theorem yS (P:List Nat) (k v:Nat):(P++aAC (k+1) 0).set P.length v=(P++[v])++aAC k 0:=by
 rw[aDQ _ _ (aAF _),Nat.sub_self,List.replicate_succ,aDX,aBE];rfl
theorem fS (L:List Nat) (i v:Nat):(aH L).set i [.int .u32 (v:Int)]=aH (L.set i v):=by
 unfold aH; rw[aDL]
theorem jO (P:List Nat) (v:Nat):val (P++[v])=val P+4294967296 ^ P.length*v:=by
 rw[gT]; simp[val]
theorem bZ (xs:List Nat) {i:Nat} (h:i<xs.length):val (xs.take (i+1))=val (xs.take i)+4294967296 ^ i*xs[i]:=by
 rw[aCM h,jO,aAN,aCF Om]
theorem xT {v:Nat}:shift .shr .u64 (v:Int) 32=some (.int .u64 ((v/4294967296:Nat):Int)):=by
 unfold shift;rw[if_neg (by decide)];simp only;have:min (Int.toNat 32) IntKind.u64.bits=32:=by decide
 rw[this,show (2:Int) ^ 32=4294967296 by decide,Int.fdiv_eq_ediv_of_nonneg _ (by decide)];rfl
theorem fH {a b:Nat} (h:a+b<18446744073709551616):IntKind.u64.wrap ((a:Int)+(b:Int))=((a+b:Nat):Int):=by
 rw[wrap_u64 Om Om]; omega
theorem aZ {a:Nat} (h:a<18446744073709551616):IntKind.u64.wrap (a:Int)=(a:Int):=wrap_u64 Om Om
def cj (a b:List Nat) (o i c:Nat):PF:=(((((((PF.nil.set 0 (aI a)).set 1 (aI b)).set 6 (.osl o 1 0 (a.length+1))).set 7 (.int .u64 c)).set 35 (.int .i64 (a.length:Nat))).set 34 (aI a)).set 36 (.int .i64 i))
theorem pw {C:Ctx} (L:qT C) (a b:List Nat) (ha:Lim a) (hb:Lim b) (hl:b.length≤a.length) (h1:a.length≤1000) (F:PF) (f0:F 0=some (aI a)) (f1:F 1=some (aI b)) :
  aE.wp C (.seq (.region jc) (.seq (.region jd) (.seq (.seq (.region je) (.block 0 (.loop WB))) (.seq (.region WF) (.seq (.region WG) .ret))))) (aT [.tmp 4,.tmp 5] (cL (szV (val a+val b)))) F .nil:=by
 have S:IntKind.i64.wrap ((a.length:Int)+1)=((a.length+1:Nat):Int):=dN Om;have η:((a.length+1:Nat):Int)*((4:Nat):Int)≤140737488355328:=Om;have θ:((a.length+1:Nat):Int)≤9223372036854775807:=Om;have hz:aAC (a.length+1) [PV.int .u32 0]=aH ([]++aAC (a.length+1) 0):=by simp[aH]
 simp only[go_sem,jc,f0,S,η,θ,hz];refine aP fun o ho=>?_;simp only[go_sem,jd,je,f0];refine wp_loop (α:=List Nat × Nat × Nat) (fun s=>cj a b s.2.2 s.1.length s.2.1) (fun s=>PH.nil.set s.2.2 (.rows 1 (aH (s.1++aAC (a.length+1-s.1.length) 0))))
  (fun s=>s.1.length≤a.length∧Lim s.1∧s.2.1≤1∧val s.1+4294967296 ^ s.1.length*s.2.1=val (a.take s.1.length)+val (b.take s.1.length)) (fun s=>a.length-s.1.length) ([],0,o) ⟨by simp,by simp[Lim],by simp,by simp[val]⟩ ?_ ?_ ?_
 ·unfold cj;exact Lq
 ·exact e_ a_ (by simp only[go_sem,aCL])
 rintro⟨P,c,q⟩ ⟨hP,j,hc,A⟩;simp only at hP j hc A;simp only[go_sem,WB,Pc,cj];by_cases Y:P.length<a.length
 ·have E:(P.length:Int)<(a.length:Nat):=Om;have ι:=ha _ (aAG Y);obtain⟨k,W⟩:∃ k,a.length+1-P.length=k+1:=⟨a.length-P.length,by omega⟩;have M:(aH (P++aAC (k+1) 0))[P.length]?=some [.int .u32 ((0:Nat):Int)]:=by rw[bL _ (by simp)]; simp
  have l:a.length+1-(P.length+1)=k:=Om;have I:(P.length:Int)<((a.length+1:Nat):Int):=Om;have fin:∀ (t:Nat) (w:PF) (H':PH),t<2*4294967296→val P+4294967296 ^ P.length*t=val (a.take (P.length+1))+val (b.take (P.length+1)) →
    w 0=some (aI a)→w 1=some (aI b)→w 6=some (.osl q 1 0 (a.length+1))→w 7=some (.int .u64 (t:Nat))→w 8=some (.int .i64 P.length)→w 34=some (aI a)→w 35=some (.int .i64 (a.length:Nat))→w 36=some (.int .i64 P.length) →
    H' q=some (.rows 1 (aH (P++aAC (k+1) 0)))→∀ K:cK,(∀ y B V H2,y.length=P.length+1→Lim y→B≤1→val y+4294967296 ^ y.length*B=val (a.take (P.length+1))+val (b.take (P.length+1))→(cj a b q y.length B).le V→H2 q=some (.rows 1 (aH (y++aAC k 0)))→K .normal V H2) →
    aE.wp C (.seq (.region WC) (.region WD)) (fZ 1 (mE C (aE.wp C (.region WE)) K)) w H':=by
   intro t w H' ht hv g0 g1 g6 g7 g8 γ δ ε gH K hK;have u:(aH (P++aAC (k+1) 0)).set P.length [.int .u32 ((t%4294967296:Nat):Int)]=aH ((P++[t%4294967296])++aAC k 0):=by rw[fS,yS]
   simp only[go_sem,WC,g6,g8,g7,cI,I,gH,M,u,WD,xT,WE,ε,dN (Om:P.length<9223372036854775807)];refine hK (P++[t%4294967296]) (t/4294967296) _ _ (by simp) (j.app fun x X=>by simp at X; subst X; exact aBX _ (by decide)) Om ?_ ?_ Sq
   ·rw[jO,aAE,aAI,aCD,aAZ,aCQ,← aAM,Nat.mod_add_div];exact hv
   ·unfold cj;rw[aAE,aAI];refine d_ (d_ (d_ (d_ (d_ (d_ (d_ c_ ?_) ?_) ?_) ?_) ?_) ?_) ?_<;>simp only[go_sem,g0,g1,g6,γ,δ]
  have U:=bZ a Y;have ea:IntKind.u64.wrap ((a[P.length]:Nat):Int)=((a[P.length]:Nat):Int):=aZ Om;have es:IntKind.u64.wrap ((c:Nat)+((a[P.length]:Nat):Int))=((c+a[P.length]:Nat):Int):=fH Om;simp only[go_sem,E,D4,D5,bL a Y,ea,es,D6];by_cases Z:P.length<b.length
  ·have J:(P.length:Int)<(b.length:Nat):=Om;have κ:=hb _ (aAG Z);have N:=bZ b Z;have eb:IntKind.u64.wrap ((b[P.length]:Nat):Int)=((b[P.length]:Nat):Int):=aZ Om;have β:IntKind.u64.wrap (((c+a[P.length]:Nat):Int)+((b[P.length]:Nat):Int))=((c+a[P.length]+b[P.length]:Nat):Int):=fH Om;simp only[go_sem,J,D7,bL b Z,eb,β];refine fin (c+a[P.length]+b[P.length]) _ _ Om ?_ ?_ ?_ ?_ ?_ ?_ ?_ ?_ ?_ ?_ _ ?_
   ·rw[U,N,aAM,aAM]; omega
   any_goals simp only[go_sem,W]
   intro y B V H2 O e2 e3 R e5 e6;rw[← O] at R;refine aL (y,B,q) ⟨by simp only; omega,e2,e3,R⟩ (by simp only; omega) e5 (e_ a_ ?_);simp only;rw[O,l]; exact e6
  ·have J:¬ (P.length:Int)<(b.length:Nat):=Om;have N:val (b.take (P.length+1))=val (b.take P.length):=by rw[aAQ Om,aAQ Om]
   simp only[go_sem,J];refine fin (c+a[P.length]) _ _ Om ?_ ?_ ?_ ?_ ?_ ?_ ?_ ?_ ?_ ?_ _ ?_
   ·rw[U,N,aAM]; omega
   any_goals simp only[go_sem,W]
   intro y B V H2 O e2 e3 R e5 e6;rw[← O] at R;refine aL (y,B,q) ⟨by simp only; omega,e2,e3,R⟩ (by simp only; omega) e5 (e_ a_ ?_);simp only;rw[O,l]; exact e6
 ·have e:P.length=a.length:=Om;have E:¬ (P.length:Int)<(a.length:Nat):=Om;have W:aAC (a.length+1-P.length) 0=[0]:=by rw[show a.length+1-P.length=1 by omega]; rfl
  have M:(aH (P++[0]))[a.length]?=some [.int .u32 ((0:Nat):Int)]:=by rw[bL _ (by simp; omega)];simp[e]
  have u:(aH (P++[0])).set a.length [.int .u32 ((c%4294967296:Nat):Int)]=aH (P++[c]):=by have:=yS P 0 (c%4294967296);simp only[List.replicate_zero,aBU,aAX,List.replicate_one] at this;rw[← e,fS,this,aBQ Om]
  have I:(a.length:Int)<((a.length+1:Nat):Int):=Om;have hV:val (P++[c])=val a+val b:=by rw[jO,A,e,aBT,aAQ hl]
  have ζ:Lim (P++[c]):=j.app fun x X=>by simp at X; omega
  simp only[go_sem,E,WF,cI,W,M,I,u,WG];have hs:=L.sized _ ζ (by simp; omega);rw[hV] at hs;refine qG (o:=q) (s:=1) (k:=a.length+1) (rs:=aH (P++[c])) (v:=szV (val a+val b)) ?_ rfl Sq (by rw[bV]; simp; omega) ?_
  ·rw[aAQ (by rw[bV]; simp; omega)]; exact hs
  ·simp only[go_sem,szV];exact aV (.inr rfl) .nil rfl a_ ⟨.refl _,rfl⟩
def opV (big:Bool) (n:Nat):PV:=if big then .tup [aI [],.int .i64 2] else szV n
def fI (a b:Nat):Bool:=decide (nl a>512)||decide (nl b>512)
theorem kG {res:List dT} {F:PF} {H:PH} {e:Int} (h:dT.evs F H res=some [.aA,.int .i64 e]):aT res (cL (.tup [aI [],.int .i64 e])) .ret F H:=by
 refine aV (.inr rfl) .nil h a_ ⟨?_,rfl⟩;refine .tup rfl fun j p q l hq=>?_
 match j with
 | 0=>simp at l hq; subst l; subst hq; exact .nil 1
 | 1=>simp at l hq; subst l; subst hq; exact .refl _
 | j+2=>simp at l
theorem bH (n:Nat):(aJ n).length=nl n:=rfl
theorem jI {xs:List Nat} (h:Lim xs):(xs.map fun (n:Nat)=>[PV.int .u32 (n:Int)]).take (nl (val xs))=(aJ (val xs)).map fun (n:Nat)=>[PV.int .u32 (n:Int)]:=by
 rw[← List.map_take,kR h]
theorem amE {C:Ctx} (L:qT C) (a b:List Nat) (w:Lim a) (hb:Lim b) (A:a.length≤35184372087808) (B:b.length≤35184372087808) :
  MJ.wp C (aT aeX.res (cL (opV (fI (val a) (val b)) (val a+val b)))) (PF.args [aI a,aI b]) .nil:=by
 simp only[go_sem,MJ,O7,O8,aeX];refine aB (L.large a w A) rfl ?_;by_cases l:nl (val a)>512
 ·simp only[go_sem,l,jb];rw[show opV (fI (val a) (val b)) (val a+val b)=.tup [aI [],.int .i64 2] by simp[opV,fI,l]];exact kG rfl
 simp only[go_sem,l];refine aB (L.large b hb B) rfl ?_;by_cases u:nl (val b)>512
 ·simp only[go_sem,u,jb];rw[show opV (fI (val a) (val b)) (val a+val b)=.tup [aI [],.int .i64 2] by simp[opV,fI,u]];exact kG rfl
 have e:opV (fI (val a) (val b)) (val a+val b)=szV (val a+val b):=by simp[opV,fI,l,u]
 rw[e];simp only[go_sem,u];refine bN .nil Uf a_ ?_;simp only[go_sem,O9];have J:=fR w;have K:=fR hb;have x:((nl (val a):Nat):Int)≤(a.length:Nat):=Om;have y:((nl (val b):Nat):Int)≤(b.length:Nat):=Om;refine dL (oO a) (L.length a w A) rfl a_ ?_;simp only[go_sem,x,or_true,aBM,jI w];refine dL (oO b) (L.length b hb B) rfl a_ ?_;simp only[go_sem,y,or_true,aBM,jI hb,Pa,bH];have E:=aY (val a);have F:=aY (val b);by_cases I:nl (val a)<nl (val b)
 ·have j:((nl (val a):Nat):Int)<(nl (val b):Nat):=Om;simp only[go_sem,j,Pb];have:=pw L (aJ (val b)) (aJ (val a)) (bA _) (bA _) (by rw[bH,bH]; omega) (by rw[bH]; omega);rw[E,F,Nat.add_comm] at this;exact this _ rfl rfl
 ·have j:¬ ((nl (val a):Nat):Int)<(nl (val b):Nat):=Om;simp only[go_sem,j];have:=pw L (aJ (val a)) (aJ (val b)) (bA _) (bA _) (by rw[bH,bH]; omega) (by rw[bH]; omega);rw[E,F] at this;exact this _ rfl rfl
theorem gG (n:Int):IntKind.u64.wrap n=n%18446744073709551616:=by simp[IntKind.wrap,IntKind.bits,IntKind.signed]
theorem TE (n:Int):IntKind.u32.wrap n=n%4294967296:=by simp[IntKind.wrap,IntKind.bits,IntKind.signed]
theorem Ve {v:Int}:shift .shr .u64 v 63=some (.int .u64 (v/9223372036854775808)):=by
 unfold shift;rw[if_neg (by decide)];simp only;have:min (Int.toNat 63) IntKind.u64.bits=63:=by decide
 rw[this,show (2:Int) ^ 63=9223372036854775808 by decide,Int.fdiv_eq_ediv_of_nonneg _ (by decide)]
def OA (a bor b:Nat):Nat:=(a+4294967296-bor-b)%4294967296
def XL (a bor b:Nat):Nat:=if a<bor+b then 1 else 0
theorem Gx {a bor b:Nat} (e:a<4294967296) (hb:b<4294967296) (j:bor≤1) (v:Int) (l:v=((a:Int)-bor-b)%18446744073709551616) :
  IntKind.u32.wrap v=((OA a bor b:Nat):Int)∧v/9223372036854775808=((XL a bor b:Nat):Int)∧a+4294967296*XL a bor b=OA a bor b+b+bor∧OA a bor b<4294967296:=by
 rw[TE];unfold OA XL;split<;>omega
def dc (a b:List Nat) (o i c:Nat):PF:=(((((((PF.nil.set 0 (aI a)).set 1 (aI b)).set 6 (.osl o 1 0 a.length)).set 7 (.int .u64 c)).set 33 (aI a)).set 34 (.int .i64 (a.length:Nat))).set 35 (.int .i64 i))
theorem Y0 {C:Ctx} (L:qT C) (a b:List Nat) (ha:Lim a) (hb:Lim b) (κ:val b≤val a) (hl:b.length≤a.length) (h1:a.length≤1000) (F:PF) (f0:F 0=some (aI a)) (f1:F 1=some (aI b)) :
  aE.wp C (.seq (.region jx) (.seq (.region jy) (.seq (.seq (.region jz) (.block 1 (.loop WS))) (.seq (.region WW) .ret)))) (aT [.tmp 4,.tmp 5] (cL (szV (val a-val b)))) F .nil:=by
 have η:(a.length:Int)*((4:Nat):Int)≤140737488355328:=Om;have θ:(a.length:Int)≤9223372036854775807:=Om;have hz:aAC a.length [PV.int .u32 0]=aH ([]++aAC a.length 0):=by simp[aH]
 simp only[go_sem,jx,f0,η,θ,hz];refine aP fun o ho=>?_;simp only[go_sem,jy,jz,f0];refine wp_loop (α:=List Nat × Nat × Nat) (fun s=>dc a b s.2.2 s.1.length s.2.1) (fun s=>PH.nil.set s.2.2 (.rows 1 (aH (s.1++aAC (a.length-s.1.length) 0))))
  (fun s=>s.1.length≤a.length∧Lim s.1∧s.2.1≤1∧val (a.take s.1.length)+4294967296 ^ s.1.length*s.2.1=val s.1+val (b.take s.1.length)) (fun s=>a.length-s.1.length) ([],0,o) ⟨by simp,by simp[Lim],by simp,by simp[val]⟩ ?_ ?_ ?_
 ·unfold dc;exact Lq
 ·exact e_ a_ (by simp only[go_sem,aCL])
 rintro⟨P,c,q⟩ ⟨hP,j,hc,B⟩;simp only at hP j hc B;simp only[go_sem,WS,Qi,dc];by_cases V:P.length<a.length
 ·have A:(P.length:Int)<(a.length:Nat):=Om;have δ:=ha _ (aAG V);obtain⟨k,U⟩:∃ k,a.length-P.length=k+1:=⟨a.length-P.length-1,by omega⟩;have ζ:(aH (P++aAC (k+1) 0))[P.length]?=some [.int .u32 ((0:Nat):Int)]:=by rw[bL _ (by simp)]; simp
  have l:a.length-(P.length+1)=k:=Om;have ι:=bZ a V;have fin:∀ (t:Nat) (v:Int) (w:PF) (H':PH),t<4294967296→v=((a[P.length]:Int)-c-t)%18446744073709551616→val (b.take (P.length+1))=val (b.take P.length)+4294967296 ^ P.length*t →
    w 0=some (aI a)→w 1=some (aI b)→w 6=some (.osl q 1 0 a.length)→w 9=some (.int .u64 v)→w 8=some (.int .i64 P.length)→w 33=some (aI a)→w 34=some (.int .i64 (a.length:Nat))→w 35=some (.int .i64 P.length) →
    H' q=some (.rows 1 (aH (P++aAC (k+1) 0)))→∀ K:cK,(∀ y E S H2,y.length=P.length+1→Lim y→E≤1→val (a.take (P.length+1))+4294967296 ^ y.length*E=val y+val (b.take (P.length+1))→(dc a b q y.length E).le S→H2 q=some (.rows 1 (aH (y++aAC k 0)))→K .normal S H2) →
    aE.wp C (.seq (.region WT) (.region WU)) (fZ 2 (mE C (aE.wp C (.region WV)) K)) w H':=by
   intro t v w H' ht hv u g0 g1 g6 g9 g8 Z β γ gH K hK;obtain⟨J,N,O,M⟩:=Gx δ ht hc v hv;have R:(aH (P++aAC (k+1) 0)).set P.length [.int .u32 ((OA a[P.length] c t:Nat):Int)]=aH ((P++[OA a[P.length] c t])++aAC k 0):=by rw[fS,yS]
   simp only[go_sem,WT,g6,g8,g9,J,A,gH,ζ,R,WU,Ve,N,WV,γ,dN (Om:P.length<9223372036854775807)];refine hK (P++[OA a[P.length] c t]) (XL a[P.length] c t) _ _ (by simp) (j.app fun x hx=>by simp at hx; subst hx; exact M) (by unfold XL; split<;>omega) ?_ ?_ Sq
   ·rw[jO,aAE,aAI,aCD,aAZ,ι,u,aCQ,← aAM,O,aAM,aAM];omega
   ·unfold dc;rw[aAE,aAI];refine d_ (d_ (d_ (d_ (d_ (d_ (d_ c_ ?_) ?_) ?_) ?_) ?_) ?_) ?_<;>simp only[go_sem,g0,g1,g6,Z,β]
  have ea:IntKind.u64.wrap ((a[P.length]:Nat):Int)=((a[P.length]:Nat):Int):=aZ Om;simp only[go_sem,A,Fc,Fe,bL a V,ea,Ff];by_cases W:P.length<b.length
  ·have I:(P.length:Int)<(b.length:Nat):=Om;have ε:=hb _ (aAG W);have u:=bZ b W;have eb:IntKind.u64.wrap ((b[P.length]:Nat):Int)=((b[P.length]:Nat):Int):=aZ Om;simp only[go_sem,I,Fg,bL b W,eb];refine fin b[P.length] (IntKind.u64.wrap (IntKind.u64.wrap ((a[P.length]:Int)-(c:Int))-(b[P.length]:Int))) _ _ ε (by rw[gG,gG]; omega) u ?_ ?_ ?_ ?_ ?_ ?_ ?_ ?_ ?_ _ ?_
   any_goals simp only[go_sem,U]
   intro y E S H2 J N O M X Y;rw[← J] at M;refine aL (y,E,q) ⟨by simp only; omega,N,O,M⟩ (by simp only; omega) X (e_ a_ ?_);simp only;rw[J,l]; exact Y
  ·have I:¬ (P.length:Int)<(b.length:Nat):=Om;have u:val (b.take (P.length+1))=val (b.take P.length)+4294967296 ^ P.length*0:=by rw[aAQ Om,aAQ Om]; simp
   simp only[go_sem,I];refine fin 0 (IntKind.u64.wrap ((a[P.length]:Int)-(c:Int))) _ _ (by decide) (by rw[gG]; omega) u ?_ ?_ ?_ ?_ ?_ ?_ ?_ ?_ ?_ _ ?_
   any_goals simp only[go_sem,U]
   intro y E S H2 J N O M X Y;rw[← J] at M;refine aL (y,E,q) ⟨by simp only; omega,N,O,M⟩ (by simp only; omega) X (e_ a_ ?_);simp only;rw[J,l]; exact Y
 ·have e:P.length=a.length:=Om;have A:¬ (P.length:Int)<(a.length:Nat):=Om;have U:aAC (a.length-P.length) 0=[]:=by rw[show a.length-P.length=0 by omega]; rfl
  have hV:val P=val a-val b:=by
   rw[e,aBT,aAQ hl] at B;have hlt:=fG j;rw[e] at hlt;rcases aCH c with h | h
   ·subst h; omega
   ·have:c=1:=Om;subst this; omega
  simp only[go_sem,A,U,aBU,WW];have hs:=L.sized _ j Om;rw[hV] at hs;refine qG (o:=q) (s:=1) (k:=a.length) (rs:=aH P) (v:=szV (val a-val b)) ?_ rfl Sq (by rw[bV]; omega) ?_
  ·rw[aAQ (by rw[bV]; omega)]; exact hs
  ·simp only[go_sem,szV];exact aV (.inr rfl) .nil rfl a_ ⟨.refl _,rfl⟩
def wV (a b:Nat):PV:=if fI a b then .tup [aI [],.int .i64 2] else if a<b then .tup [aI [],.int .i64 4] else szV (a-b)
theorem amY {C:Ctx} (L:qT C) (a b:List Nat) (l:Lim a) (hb:Lim b) (A:a.length≤35184372087808) (B:b.length≤35184372087808) :
  MV.wp C (aT afM.res (cL (wV (val a) (val b)))) (PF.args [aI a,aI b]) .nil:=by
 simp only[go_sem,MV,Qd,Qe,afM];refine aB (L.large a l A) rfl ?_;by_cases e:nl (val a)>512
 ·simp only[go_sem,e,jw];rw[show wV (val a) (val b)=.tup [aI [],.int .i64 2] by simp[wV,fI,e]];exact kG rfl
 simp only[go_sem,e];refine aB (L.large b hb B) rfl ?_;by_cases j:nl (val b)>512
 ·simp only[go_sem,j,jw];rw[show wV (val a) (val b)=.tup [aI [],.int .i64 2] by simp[wV,fI,j]];exact kG rfl
 simp only[go_sem,j,Qf];refine aB (L.cmp a b l hb A B) rfl ?_;by_cases u:val a<val b
 ·have y:eN (val a) (val b)<0:=by simp[eN,u]
  simp only[go_sem,y,Qg];rw[show wV (val a) (val b)=.tup [aI [],.int .i64 4] by simp[wV,fI,e,j,u]];exact kG rfl
 have y:¬ eN (val a) (val b)<0:=by unfold eN;rw[if_neg u];split<;>decide
 rw[show wV (val a) (val b)=szV (val a-val b) by simp[wV,fI,e,j,u]];simp only[go_sem,y];refine bN .nil Uf a_ ?_;simp only[go_sem,Qh];have I:=fR l;have J:=fR hb;have w:((nl (val a):Nat):Int)≤(a.length:Nat):=Om;have x:((nl (val b):Nat):Int)≤(b.length:Nat):=Om;refine dL (oO a) (L.length a l A) rfl a_ ?_;simp only[go_sem,w,or_true,aBM,jI l];refine dL (oO b) (L.length b hb B) rfl a_ ?_;simp only[go_sem,x,or_true,aBM,jI hb];have E:=aY (val a);have F:=aY (val b);have K:=jQ (Om:val b≤val a);have:=Y0 L (aJ (val a)) (aJ (val b)) (bA _) (bA _) Om (by rw[bH,bH]; omega) (by rw[bH]; omega);rw[E,F] at this;exact this _ rfl rfl
end Go.PM
namespace Go.Na
def eA:Nat→Nat→List Nat
 | 0,_=>[]
 | k+1,n=>(n%4294967296)::eA k (n/4294967296)
theorem lT:∀ k n,(eA k n).length=k
 | 0,_=>rfl
 | k+1,n=>by simp[eA,lT k]
theorem ES {xs:List Nat} (h:Lim xs):eA xs.length (val xs)=xs:=by
 induction xs with
 | nil=>rfl
 | cons x xs u =>have w:=h x (by simp);have e:(x+4294967296*val xs)%4294967296=x:=Om;have j:(x+4294967296*val xs)/4294967296=val xs:=Om;simp only[aBV,eA,val];rw[e,j,u fun y l=>h y (by simp[l])]
theorem nA:∀ k n,Lim (eA k n)
 | 0,_=>fun x hx=>by cases hx
 | k+1,n=>fun x hx=>by
  simp only[eA,aAK] at hx;rcases hx with rfl | hx
  ·exact aBX _ (by decide)
  ·exact nA k _ x hx
theorem zT:∀ k n,val (eA k n)=n%4294967296 ^ k
 | 0,n=>by simp[eA,val,Nat.mod_one]
 | k+1,n=>by simp only[eA,val,zT k];rw[aCD,aBA (4294967296 ^ k) 4294967296,Nat.mod_mul]
theorem oU {k n:Nat} (h:n<4294967296 ^ k):val (eA k n)=n:=by rw[zT,aBQ h]
end Go.Na
namespace Go.PM
open Go Go.Na
theorem asH {a b:Nat} (e:a<18446744073709551616) (hb:b<18446744073709551616):(BitVec.ofInt 64 (a:Int) ||| BitVec.ofInt 64 (b:Int)).toNat=a ||| b:=by
 rw[BitVec.ofInt_natCast,BitVec.ofInt_natCast,BitVec.toNat_or,BitVec.toNat_ofNat,BitVec.toNat_ofNat,aBQ (by simpa using e),aBQ (by simpa using hb)]
theorem Fr {c x s:Nat} (e:c<2 ^ s) (h:c+2 ^ s*x<18446744073709551616):c ||| (2 ^ s*x)=c+2 ^ s*x:=by
 rw[Nat.or_comm,← Nat.two_pow_add_eq_or_of_lt e,Nat.add_comm]
theorem orI {a b n:Nat} (e:a<18446744073709551616) (hb:b<18446744073709551616) (h:a ||| b=n) (j:n<18446744073709551616):lN .or .u64 (a:Int) (b:Int)=some (.int .u64 (n:Int)):=by
 show some (PV.int .u64 (IntKind.u64.wrap (((BitVec.ofInt 64 (a:Int) ||| BitVec.ofInt 64 (b:Int)).toNat:Nat):Int)))=_;rw[asH e hb,h,aZ j]
theorem ID {x s:Nat} (e:s≤64) (h:x*2 ^ s<18446744073709551616):shift .shl .u64 (x:Int) (s:Int)=some (.int .u64 ((2 ^ s*x:Nat):Int)):=by
 unfold shift;rw[if_neg Om];simp only;have:min (Int.toNat (s:Int)) IntKind.u64.bits=s:=by rw[show IntKind.u64.bits=64 from rfl]; omega
 rw[this,show (x:Int)*2 ^ s=((x*2 ^ s:Nat):Int) by simp,aZ h,aBA]
def afP (a:List Nat) (s o i c:Nat):PF:=(((((((PF.nil.set 0 (aI a)).set 1 (.int .u64 s)).set 5 (.osl o 1 0 (a.length+1))).set 6 (.int .u64 c)).set 13 (aI a)).set 14 (.int .i64 (a.length:Nat))).set 15 (.int .i64 i))
def upR (a:List Nat) (s:Nat) (r:PV) (H:PH):Prop:=∃ o,r=.osl o 1 0 (a.length+1)∧H=PH.nil.set o (.rows 1 (aH (eA (a.length+1) (val a*2 ^ s))))
theorem apU {C:Ctx} (a:List Nat) (s:Nat) (ha:Lim a) (hs:s<32) (h1:a.length≤1000):WX.wp C (aT nup.res (upR a s)) (PF.args [aI a,.int .u64 s]) .nil:=by
 have J:IntKind.i64.wrap ((a.length:Int)+1)=((a.length+1:Nat):Int):=dN Om;have W:((a.length+1:Nat):Int)*((4:Nat):Int)≤140737488355328:=Om;have X:((a.length+1:Nat):Int)≤9223372036854775807:=Om;have hz:aAC (a.length+1) [PV.int .u32 0]=aH ([]++aAC (a.length+1) 0):=by simp[aH]
 have R:2 ^ s≤2147483648:=Nat.pow_le_pow_right (show 0<2 by decide) (Om:s≤31);have F:0<2 ^ s:=aDB (by decide);simp only[go_sem,WX,Y1,Y2,nup,J,W,X,hz];refine aP fun o ho=>?_;simp only[go_sem,Y3,Y4];refine wp_loop (α:=List Nat × Nat × Nat) (fun t=>afP a s t.2.2 t.1.length t.2.1) (fun t=>PH.nil.set t.2.2 (.rows 1 (aH (t.1++aAC (a.length+1-t.1.length) 0))))
  (fun t=>t.1.length≤a.length∧Lim t.1∧t.2.1<2 ^ s∧val t.1+4294967296 ^ t.1.length*t.2.1=val (a.take t.1.length)*2 ^ s) (fun t=>a.length-t.1.length) ([],0,o) ⟨by simp,by simp[Lim],F,by simp[val]⟩ ?_ ?_ ?_
 ·unfold afP;exact Lq
 ·exact e_ a_ (by simp only[go_sem,aCL])
 rintro⟨P,c,q⟩ ⟨hP,j,hc,u⟩;simp only at hP j hc u;simp only[go_sem,Qj,Y5,afP];by_cases M:P.length<a.length
 ·have w:(P.length:Int)<(a.length:Nat):=Om;have β:=ha _ (aAG M);obtain⟨k,V⟩:∃ k,a.length+1-P.length=k+1:=⟨a.length-P.length,by omega⟩;have B:(aH (P++aAC (k+1) 0))[P.length]?=some [.int .u32 ((0:Nat):Int)]:=by rw[bL _ (by simp)]; simp
  have E:a.length+1-(P.length+1)=k:=Om;have A:(P.length:Int)<((a.length+1:Nat):Int):=Om;have Y:=bZ a M;generalize Z:a[P.length]=x at *
  have γ:x*2 ^ s≤4294967295*2147483648:=aDJ Om R;have ex:IntKind.u64.wrap ((x:Nat):Int)=((x:Nat):Int):=aZ Om;have K:2 ^ s*x=x*2 ^ s:=aBA _ _;have O:shift .shl .u64 (x:Int) (s:Int)=some (.int .u64 ((2 ^ s*x:Nat):Int)):=ID Om Om;have N:=orI (a:=c) (b:=2 ^ s*x) (n:=c+2 ^ s*x) Om Om (Fr hc Om) Om;have I:(c+2 ^ s*x)/4294967296<2 ^ s:=by rw[aDI (by decide)];have:2 ^ s*(x+1)≤2 ^ s*4294967296:=aCR _ Om;rw[aAM,Nat.mul_one] at this;omega
  have l:(aH (P++aAC (k+1) 0)).set P.length [.int .u32 (((c+2 ^ s*x)%4294967296:Nat):Int)]=aH ((P++[(c+2 ^ s*x)%4294967296])++aAC k 0):=by rw[fS,yS]
  have U:(aH a)[P.length]?=some [.int .u32 ((x:Nat):Int)]:=by rw[bL a M,Z]
  simp only[go_sem,w,Y6,Y7,U,ex,O,N,Y8,cI,V,A,B,l,Y9,xT,Za,dN (Om:P.length<9223372036854775807)];refine aL (P++[(c+2 ^ s*x)%4294967296],(c+2 ^ s*x)/4294967296,q) ⟨by simp; omega,j.app fun y hy=>by simp at hy; subst hy; exact aBX _ (by decide),I,?_⟩ (by simp; omega) ?_ (e_ a_ ?_)
  ·simp only;rw[jO,aAE,aAI,aCD,aAZ,aCQ,← aAM,Nat.mod_add_div,Y,aAM,aBI,← aCQ,u,K,aAZ]
  ·simp only;rw[aAE,aAI];exact Lq
  ·simp only;rw[aAE,aAI,E];simp only[go_sem]
 ·have e:P.length=a.length:=Om;have w:¬ (P.length:Int)<(a.length:Nat):=Om;have V:aAC (a.length+1-P.length) 0=[0]:=by rw[show a.length+1-P.length=1 by omega]; rfl
  have B:(aH (P++[0]))[a.length]?=some [.int .u32 ((0:Nat):Int)]:=by rw[bL _ (by simp; omega)];simp[e]
  have l:(aH (P++[0])).set a.length [.int .u32 ((c%4294967296:Nat):Int)]=aH (P++[c]):=by have:=yS P 0 (c%4294967296);simp only[List.replicate_zero,aBU,aAX,List.replicate_one] at this;rw[← e,fS,this,aBQ Om]
  have A:(a.length:Int)<((a.length+1:Nat):Int):=Om;have hV:val (P++[c])=val a*2 ^ s:=by rw[jO,u,e,aBT]
  have S:Lim (P++[c]):=j.app fun x Z=>by simp at Z; omega
  have hD:eA (a.length+1) (val a*2 ^ s)=P++[c]:=by have:=ES S;rw[hV,aAE,aAI,e] at this;exact this
  simp only[go_sem,w,Qk,cI,V,B,A,l,Ql];exact aV (vs:=[.osl q 1 0 (a.length+1)]) (.inr rfl) (PH.nil.set q (.rows 1 (aH (P++[c])))) Ev (e_ a_ Sq) ⟨q,rfl,by rw[hD]⟩
def jv (a:List Nat) (d o k r:Nat):PF:=(((((PF.nil.set 0 (aI a)).set 1 (.int .u32 d)).set 6 (.osl o 1 0 a.length)).set 7 (.int .u64 r)).set 8 (.int .i64 ((k:Int)-1)))
theorem Yw {C:Ctx} (L:qT C) (a:List Nat) (d:Nat) (ha:Lim a) (l:0<d) (hd:d<4294967296) (h1:a.length≤1000) :
  CI.wp C (aT Fa.res (aM (.tup [aI (aJ (val a/d)),.int .u32 ((val a%d:Nat):Int)]))) (PF.args [aI a,.int .u32 d]) .nil:=by
 have Y:(a.length:Int)*((4:Nat):Int)≤140737488355328:=Om;have Z:(a.length:Int)≤9223372036854775807:=Om;have hz:aAC a.length [PV.int .u32 0]=aH (aAC a.length 0++[]):=by simp[aH]
 simp only[go_sem,CI,qb,qc,Fa,Y,Z,hz];refine aP fun o ho=>?_;simp only[go_sem,qd,qe];refine wp_loop (α:=Nat × List Nat × Nat × Nat) (fun t=>jv a d t.2.2.2 t.1 t.2.2.1) (fun t=>PH.nil.set t.2.2.2 (.rows 1 (aH (aAC t.1 0++t.2.1))))
  (fun t=>t.1+t.2.1.length=a.length∧Lim t.2.1∧t.2.2.1<d∧val t.2.1*d+t.2.2.1=val (a.drop t.1)) (fun t=>t.1) (a.length,[],0,o) ⟨by simp,by simp[Lim],l,by simp[val]⟩ ?_ ?_ ?_
 ·unfold jv
  (repeat' (first|exact c_|refine d_ ?_ ?_))<;>first|(simp only[go_sem,wrap_i64 (Om:-9223372036854775808≤(a.length:Int)-1) (Om:(a.length:Int)-1≤9223372036854775807)]<;>rfl)|rfl
 ·exact e_ a_ Sq
 rintro⟨k,S,r,q⟩ ⟨hk,e,M,j⟩;simp only at hk e M j;simp only[go_sem,qa,qf,jv];by_cases h0:0<k
 ·obtain⟨m,rfl⟩:∃ m,k=m+1:=⟨k-1,by omega⟩;have A:((m+1:Nat):Int)-1=(m:Int):=Om;have W:(m:Int)≥0:=Om;have w:m<a.length:=Om;have hlt:(m:Int)<(a.length:Nat):=Om;have γ:=ha _ (aAG w);have u:val (a.drop m)=a[m]+4294967296*val (a.drop (m+1)):=by rw[aCK w]; rfl
  generalize hx:a[m]=x at *
  have O:(aH a)[m]?=some [.int .u32 ((x:Nat):Int)]:=by rw[bL a w,hx]
  have ex:IntKind.u64.wrap ((x:Nat):Int)=((x:Nat):Int):=aZ Om;have ed:IntKind.u64.wrap ((d:Nat):Int)=((d:Nat):Int):=aZ Om;have I:shift .shl .u64 (r:Int) 32=some (.int .u64 ((2 ^ 32*r:Nat):Int)):=ID (s:=32) Om Om;have N:(2:Nat) ^ 32=4294967296:=by decide
  have B:=orI (a:=2 ^ 32*r) (b:=x) (n:=2 ^ 32*r+x) Om Om (Nat.two_pow_add_eq_or_of_lt Om r).symm Om;rw[N] at I B;have hq:(4294967296*r+x)/d<4294967296:=by rw[aDI l];have:4294967296*(r+1)≤4294967296*d:=aCR _ M;omega
  have R:¬ ((d:Nat):Int)=0:=Om;have E:IntKind.u64.wrap (Int.tdiv ((4294967296*r+x:Nat):Int) ((d:Nat):Int))=(((4294967296*r+x)/d:Nat):Int):=by rw[show Int.tdiv ((4294967296*r+x:Nat):Int) ((d:Nat):Int)=(((4294967296*r+x)/d:Nat):Int) from rfl];exact aZ Om
  have F:Int.tmod ((4294967296*r+x:Nat):Int) ((d:Nat):Int)=(((4294967296*r+x)%d:Nat):Int):=rfl;have ec:IntKind.u32.wrap (((4294967296*r+x)/d:Nat):Int)=(((4294967296*r+x)/d:Nat):Int):=by rw[cI,aBQ hq]
  have J:aAC (m+1) 0++S=aAC m 0++(0::S):=by rw[List.replicate_succ',aBE]; rfl
  have X:(aH (aAC m 0++(0::S)))[m]?=some [.int .u32 ((0:Nat):Int)]:=by rw[bL _ (by simp)]; simp
  have K:(aH (aAC m 0++(0::S))).set m [.int .u32 (((4294967296*r+x)/d:Nat):Int)]=aH (aAC m 0++(((4294967296*r+x)/d)::S)):=by rw[fS,aDQ _ _ (by simp)]; simp
  simp only[go_sem,A,W,qg,I,O,ex,B,qh,ed,R,E,ec,hlt,J,X,K,qi,F,qj];refine aL (m,((4294967296*r+x)/d)::S,(4294967296*r+x)%d,q) ⟨by simp only[aBV]; omega,fun y hy=>?_,aBX _ l,?_⟩ (by simp only; omega) ?_ (e_ a_ Sq)
  ·rw[aAK] at hy;rcases hy with rfl | hy
   ·exact hq
   ·exact e y hy
  ·simp only[val];rw[u,← j,aBI,aAM,aAZ];have:=aDS (4294967296*r+x) d;rw[aBA d] at this;omega
  ·(repeat' (first|exact c_|refine d_ ?_ ?_))<;>first|(simp only[go_sem,wrap_i64 (Om:-9223372036854775808≤(m:Int)-1) (Om:(m:Int)-1≤9223372036854775807)]<;>rfl)|rfl
 ·have:k=0:=Om;subst this;have A:¬ ((0:Nat):Int)-1≥0:=by decide
  rw[aBM] at j;have hS:S.length=a.length:=Om;have hq:val S=val a/d:=by rw[← j,aBA,Nat.mul_add_div l,aDG M,aBP]
  have β:r=val a%d:=by rw[← j,aBA,Nat.mul_add_mod,aBQ M]
  have δ:aAC 0 0++S=S:=by simp
  simp only[go_sem,A,db,aDN];have hl:=L.length S e Om;have ε:=fR e;have hc:((nl (val S):Nat):Int)≤(S.length:Nat):=Om;refine qG (o:=q) (s:=1) (k:=a.length) (rs:=aH S) (v:=.int .i64 (nl (val S):Nat)) ?_ Sq Sq (by rw[bV]; omega) ?_
  ·rw[aAQ (by rw[bV]; omega)]; exact hl
  ·have V:PV.frz q 1 (aH S) (.osl q 1 0 a.length)=aI S:=by
    have:0+a.length≤(aH S).length:=by rw[bV]; omega
    simp only[PV.frz,PV.pI,PV.bP,if_true,true_and,if_pos this,aBM];rw[aAQ (by rw[bV]; omega)]
   have U:∀ n:Int,∀ k,PV.frz q 1 (aH S) (.int k n)=.int k n:=fun _ _=>rfl;have er:IntKind.u32.wrap ((r:Nat):Int)=((r:Nat):Int):=by rw[cI,aBQ Om]
   simp only[go_sem,V,U,hc,or_true,aBM,jI e,er];refine aV (vs:=[aI (aJ (val S)),.int .u32 ((r:Nat):Int)]) (.inr rfl) .nil Ev a_ ⟨?_,rfl⟩;simp only[dB,← hq,← β]
end Go.PM
namespace Go.Na
theorem ED {L:List Nat} {i:Nat} (h:i<L.length) (v:Nat):val (L.set i v)+4294967296 ^ i*L[i]=val L+4294967296 ^ i*v:=by
 have e:i<(L.set i v).length:=by rw[aBW]; exact h
 rw[sA L h,sA (L.set i v) e,List.getElem_set_self,List.take_set_of_le (aAF _),List.drop_set_of_lt Om,aAM,aAM];omega
theorem fy {L:List Nat} {i:Nat} (h:∀ (j x:Nat),i≤j→L[j]?=some x→x=0) (k v:Nat) (u:k<i):∀ (j x:Nat),i≤j→(L.set k v)[j]?=some x→x=0:=fun j x l e=>by
 rw[List.getElem?_set_ne Om] at e;exact h j x l e
end Go.Na
namespace Go.PM
open Go Go.Na
def lD (a b:List Nat) (o i:Nat):PF:=((((((PF.nil.set 0 (aI a)).set 1 (aI b)).set 6 (.osl o 1 0 (a.length+b.length))).set 32 (aI a)).set 33 (.int .i64 (a.length:Nat))).set 34 (.int .i64 i))
def Ux (a b:List Nat) (o i x c j:Nat):PF:=((((((((((((PF.nil.set 0 (aI a)).set 1 (aI b)).set 6 (.osl o 1 0 (a.length+b.length))).set 32 (aI a)).set 33 (.int .i64 (a.length:Nat))).set 34 (.int .i64 i)).set 7 (.int .i64 i)).set 8 (.int .u32 x)).set 9 (.int .u64 c)).set 39 (aI b)).set 40 (.int .i64 (b.length:Nat))).set 41 (.int .i64 j))
structure DK (a b L:List Nat) (i:Nat):Prop where
 len:L.length=a.length+b.length
 lim:Lim L
 v:val L=val (a.take i)*val b
 z:∀ j x,i+b.length≤j→L[j]?=some x→x=0
theorem O5 {x y:Nat} (e:x<4294967296) (j:y<4294967296):IntKind.u64.wrap ((x:Int)*(y:Int))=((x*y:Nat):Int):=by
 have:x*y≤4294967295*4294967295:=aDJ Om Om;rw[show (x:Int)*(y:Int)=((x*y:Nat):Int) by simp];exact aZ Om
theorem gY {a b:Nat} (h:a+b≤9223372036854775807):IntKind.i64.wrap ((a:Int)+(b:Int))=((a+b:Nat):Int):=by
 rw[wrap_i64 Om Om]; omega
theorem afK {C:Ctx} (a b:List Nat) (ha:Lim a) (hb:Lim b) (h1:a.length≤1000) (h2:b.length≤1000) (L:List Nat) (i:Nat) (hi:i<a.length) (O:DK a b L i) (q:Nat) (K:cK) (F:PF) (H:PH) (N:(lD a b q i).le F) (hH:H q=some (.rows 1 (aH L)))
  (hK:∀ L' F' H',DK a b L' (i+1)→(lD a b q i).le F'→H' q=some (.rows 1 (aH L'))→K .normal F' H') :
  aE.wp C (.block 1 (.seq (.region js) (.seq (.region jt) (.seq (.seq (.region ju) (.block 2 (.loop WL))) (.region WN))))) K F H:=by
 have f0:=N 0 _ (by unfold lD; simp only[go_sem]; rfl);have f1:=N 1 _ (by unfold lD; simp only[go_sem]; rfl);have f6:=N 6 _ (by unfold lD; simp only[go_sem]; rfl);have V:=N 32 _ (by unfold lD; simp only[go_sem]; rfl);have θ:=N 33 _ (by unfold lD; simp only[go_sem]; rfl);have W:=N 34 _ (by unfold lD; simp only[go_sem]; rfl);have hx:=ha _ (aAG hi);have γ:=bZ a hi;generalize ε:a[i]=x at *
 have Z:(aH a)[i]?=some [.int .u32 ((x:Nat):Int)]:=by rw[bL a hi,ε]
 simp only[go_sem,js,jt,ju,V,W,f1,Z];refine wp_loop (α:=List Nat × Nat × Nat) (fun t=>Ux a b q i x t.2.1 t.2.2) (fun t=>PH.nil.set q (.rows 1 (aH t.1)))
  (fun t=>t.2.2≤b.length∧t.1.length=a.length+b.length∧Lim t.1∧t.2.1<4294967296∧val t.1+4294967296 ^ (i+t.2.2)*t.2.1=val (a.take i)*val b+4294967296 ^ i*(x*val (b.take t.2.2))∧∀ j y,i+b.length≤j→t.1[j]?=some y→y=0) (fun t=>b.length-t.2.2) (L,0,0)
  ⟨by simp,O.len,O.lim,by simp,by simp[val,O.v],O.z⟩ ?_ (e_ a_ hH) ?_
 ·unfold Ux;exact Lq
 rintro⟨M,c,j⟩ ⟨hj,Y,l,hc,A,S⟩;simp only at hj Y l hc A S;simp only[go_sem,WL,Ez,Ux];by_cases U:j<b.length
 ·have B:(j:Int)<(b.length:Nat):=Om;have R:=hb _ (aAG U);have δ:=bZ b U;generalize ζ:b[j]=y at *
  have β:(aH b)[j]?=some [.int .u32 ((y:Nat):Int)]:=by rw[bL b U,ζ]
  have e:i+j<M.length:=Om;have J:=l _ (aAG e);have w:=ED e;generalize η:M[i+j]=z at *
  have I:(aH M)[i+j]?=some [.int .u32 ((z:Nat):Int)]:=by rw[bL M e,η]
  have ex:IntKind.u64.wrap ((x:Nat):Int)=((x:Nat):Int):=aZ Om;have ey:IntKind.u64.wrap ((y:Nat):Int)=((y:Nat):Int):=aZ Om;have ez:IntKind.u64.wrap ((z:Nat):Int)=((z:Nat):Int):=aZ Om;have em:=O5 hx R;have κ:x*y≤4294967295*4294967295:=aDJ Om Om;have e1:IntKind.u64.wrap (((x*y:Nat):Int)+(z:Int))=((x*y+z:Nat):Int):=fH Om;have e2:IntKind.u64.wrap ((c:Int)+((x*y+z:Nat):Int))=((c+(x*y+z):Nat):Int):=fH Om;have E:IntKind.i64.wrap ((i:Int)+(j:Int))=((i+j:Nat):Int):=gY Om;have hlt:((i+j:Nat):Int)<((a.length+b.length:Nat):Int):=Om;generalize ht:c+(x*y+z)=t at *
  have ι:t<4294967296*4294967296:=Om;have u:(aH M).set (i+j) [.int .u32 ((t%4294967296:Nat):Int)]=aH (M.set (i+j) (t%4294967296)):=fS M (i+j) _;simp only[go_sem,B,E0,β,E4,ex,ey,em,E,hlt,I,ez,e1,e2,E5,cI,u,E6,xT,E7,wZz j];refine aL (M.set (i+j) (t%4294967296),t/4294967296,j+1) ⟨by simp only; omega,by simp only[aBW]; exact Y,l.set _ (aBX _ (by decide)),by simp only; omega,?_,fy S _ _ Om⟩ (by simp only; omega) ?_ (e_ a_ Sq)
  ·simp only;have X:=w (t%4294967296);have h4:4294967296 ^ (i+(j+1))*(t/4294967296)+4294967296 ^ (i+j)*(t%4294967296)=4294967296 ^ (i+j)*t:=by rw[← aCQ,aCD,aAZ,← aAM,aDS]
   have h5:4294967296 ^ (i+j)*t=4294967296 ^ (i+j)*c+(4294967296 ^ (i+j)*(x*y)+4294967296 ^ (i+j)*z):=by rw[← ht,aAM,aAM]
   have h6:4294967296 ^ i*(x*val (b.take (j+1)))=4294967296 ^ i*(x*val (b.take j))+4294967296 ^ (i+j)*(x*y):=by rw[δ,aAM,aAM,Nat.pow_add];congr 1;rw[Nat.mul_left_comm x,aAZ]
   omega
  ·exact Lq
 ·have he:j=b.length:=Om;have B:¬ (j:Int)<(b.length:Nat):=Om;subst he;have e:i+b.length<M.length:=Om;have J:M[i+b.length]=0:=S _ _ (aAF _) (aAH e);have w:=ED e;have I:(aH M)[i+b.length]?=some [.int .u32 ((0:Nat):Int)]:=by rw[bL M e,J]
  have E:IntKind.i64.wrap ((i:Int)+(b.length:Int))=((i+b.length:Nat):Int):=gY Om;have hlt:((i+b.length:Nat):Int)<((a.length+b.length:Nat):Int):=Om;have u:(aH M).set (i+b.length) [.int .u32 ((c%4294967296:Nat):Int)]=aH (M.set (i+b.length) c):=by rw[aBQ hc]; exact fS M _ _
  simp only[go_sem,B,WN,E,cI,hlt,I,u];refine hK (M.set (i+b.length) c) _ _ ⟨by rw[aBW]; exact Y,l.set _ hc,?_,fun j y hj R=>?_⟩ (by unfold lD; exact Lq) Sq
  ·have X:=w c;rw[J,Nat.mul_zero,aBP] at X;rw[X,A,aBT,γ,aBI,aAZ]
  ·rw[List.getElem?_set_ne Om] at R;exact S j y Om R
theorem Yv {C:Ctx} (L:qT C) (a b:List Nat) (W:Lim a) (hb:Lim b) (U:a.length≤1000) (V:b.length≤1000) (F:PF) (f0:F 0=some (aI a)) (f1:F 1=some (aI b)) :
  aE.wp C (.seq (.region jp) (.seq (.seq (.region jr) (.block 0 (.loop WM))) (.seq (.region WP) .ret))) (aT [.tmp 4,.tmp 5] (cL (szV (val a*val b)))) F .nil:=by
 have w:IntKind.i64.wrap ((a.length:Int)+(b.length:Int))=((a.length+b.length:Nat):Int):=gY Om;have I:((a.length+b.length:Nat):Int)*((4:Nat):Int)≤140737488355328:=Om;have J:((a.length+b.length:Nat):Int)≤9223372036854775807:=Om;have X:aAC (a.length+b.length) [PV.int .u32 0]=aH (aAC (a.length+b.length) 0):=by simp[aH]
 simp only[go_sem,jp,f0,f1,w,I,J,X];refine aP fun o ho=>?_;simp only[go_sem,jr,f0];refine wp_loop (α:=List Nat × Nat) (fun t=>lD a b o t.2) (fun t=>PH.nil.set o (.rows 1 (aH t.1))) (fun t=>t.2≤a.length∧DK a b t.1 t.2) (fun t=>a.length-t.2) (aAC (a.length+b.length) 0,0)
  ⟨by simp,by simp,wE _,by simp[val,sC],fun j x _ N=>by rw[List.getElem?_replicate] at N; split at N<;>simp_all⟩ ?_ (e_ a_ Sq) ?_
 ·unfold lD;exact Lq
 rintro⟨M,i⟩ ⟨hi,l⟩;simp only at hi l;simp only[go_sem,WM,Qc,lD];by_cases O:i<a.length
 ·have u:(i:Int)<(a.length:Nat):=Om;have y:=afK (C:=C) a b W hb U V M i O l o;simp only[go_sem] at y;simp only[go_sem,u];refine y _ _ _ (by unfold lD; exact Lq) Sq ?_;intro L' Y H' E e B;have A:=e 34 _ (by unfold lD; simp only[go_sem]; rfl);have g0:=e 0 _ (by unfold lD; simp only[go_sem]; rfl);have g1:=e 1 _ (by unfold lD; simp only[go_sem]; rfl);have Z:=e 6 _ (by unfold lD; simp only[go_sem]; rfl);have R:=e 32 _ (by unfold lD; simp only[go_sem]; rfl);have S:=e 33 _ (by unfold lD; simp only[go_sem]; rfl);simp only[go_sem,E8,A,wZz i];refine aL (L',i+1) ⟨by simp only; omega,E⟩ (by simp only; omega) ?_ (e_ a_ B);exact Lq
 ·have he:i=a.length:=Om;subst he;have u:¬ (a.length:Int)<(a.length:Nat):=Om;have hV:val M=val a*val b:=by rw[l.v,aBT]
  simp only[go_sem,WP];have K:=L.sized _ l.lim (by rw[l.len]; omega);rw[hV] at K;refine qG (o:=o) (s:=1) (k:=a.length+b.length) (rs:=aH M) (v:=szV (val a*val b)) ?_ rfl Sq (by rw[bV,l.len]; exact aAF _) ?_
  ·rw[aAQ (by rw[bV,l.len]; exact aAF _)]; exact K
  ·simp only[go_sem,szV];exact aV (.inr rfl) .nil rfl a_ ⟨.refl _,rfl⟩
theorem amW {C:Ctx} (L:qT C) (a b:List Nat) (u:Lim a) (hb:Lim b) (y:a.length≤35184372087808) (A:b.length≤35184372087808) :
  MS.wp C (aT afJ.res (cL (opV (fI (val a) (val b)) (val a*val b)))) (PF.args [aI a,aI b]) .nil:=by
 simp only[go_sem,MS,P9,Qa,afJ];refine aB (L.large a u y) rfl ?_;by_cases j:nl (val a)>512
 ·simp only[go_sem,j,jo];rw[show opV (fI (val a) (val b)) (val a*val b)=.tup [aI [],.int .i64 2] by simp[opV,fI,j]];exact kG rfl
 simp only[go_sem,j];refine aB (L.large b hb A) rfl ?_;by_cases l:nl (val b)>512
 ·simp only[go_sem,l,jo];rw[show opV (fI (val a) (val b)) (val a*val b)=.tup [aI [],.int .i64 2] by simp[opV,fI,l]];exact kG rfl
 have e:opV (fI (val a) (val b)) (val a*val b)=szV (val a*val b):=by simp[opV,fI,j,l]
 rw[e];simp only[go_sem,l];refine bN .nil Uf a_ ?_;simp only[go_sem,Qb];have I:=fR u;have J:=fR hb;have w:((nl (val a):Nat):Int)≤(a.length:Nat):=Om;have x:((nl (val b):Nat):Int)≤(b.length:Nat):=Om;refine dL (oO a) (L.length a u y) rfl a_ ?_;simp only[go_sem,w,or_true,aBM,jI u];refine dL (oO b) (L.length b hb A) rfl a_ ?_;simp only[go_sem,x,or_true,aBM,jI hb];have B:=aY (val a);have E:=aY (val b);have:=Yv L (aJ (val a)) (aJ (val b)) (bA _) (bA _) (by rw[bH]; omega) (by rw[bH]; omega);rw[B,E] at this;have:=fun F f0 f1=>this F f0 f1;simp only[go_sem] at this;exact this _ rfl rfl
open Go Go.Na
theorem di {A P W Z:List Nat} {i:Nat} (j:P.length=i) (hi:i<W.length):(aH (A++(P++W.drop i)++Z))[A.length+i]?=some [.int .u32 ((W[i]:Nat):Int)]:=by
 have e:A.length+i<(A++(P++W.drop i)++Z).length:=by simp; omega
 rw[bL _ e];congr 4;rw[List.getElem_append_left (by simp; omega),List.getElem_append_right Om,List.getElem_append_right Om,List.getElem_drop];congr 1;omega
theorem EB {A P W Z:List Nat} {i:Nat} (e:P.length=i) (hi:i<W.length) (v:Nat):(aH (A++(P++W.drop i)++Z)).set (A.length+i) [.int .u32 (v:Int)]=aH (A++((P++[v])++W.drop (i+1))++Z):=by
 rw[fS];congr 1;rw[List.set_append_left _ _ (by simp; omega),aDQ _ _ Om,aDQ _ _ Om,aCK hi];rw[show A.length+i-A.length-P.length=0 by omega,aDX];simp
theorem aaW {t:Nat} (h:t<18446744073709551616):lN .and .u64 (t:Int) 4294967295=some (.int .u64 ((t%4294967296:Nat):Int)):=by
 show some (PV.int .u64 (IntKind.u64.wrap (((BitVec.ofInt 64 (t:Int) &&& BitVec.ofInt 64 (4294967295:Int)).toNat:Nat):Int)))=_;have e:BitVec.ofInt 64 (4294967295:Int)=BitVec.ofNat 64 4294967295:=by rfl
 rw[e,BitVec.ofInt_natCast,BitVec.toNat_and,BitVec.toNat_ofNat,BitVec.toNat_ofNat,aBQ (by simpa using h)];have j:(4294967295:Nat)%2 ^ 64=2 ^ 32-1:=by decide
 rw[j,Nat.and_two_pow_sub_one_eq_mod];rw[aZ (Nat.lt_of_lt_of_le (aBX _ (by decide)) (by decide))]
theorem abB {c f x:Nat} (j:c<4294967296) (e:f≤4294967296) (l:x<4294967296):c+f*x<18446744073709551616∧(c+f*x)/4294967296<4294967296∧f*x≤4294967296*4294967295:=by
 have:f*x≤4294967296*4294967295:=aDJ e Om;refine⟨by omega,?_,this⟩;omega
def Fh (v:List Nat) (j o i c b:Nat) (f:Nat):PF:=((((((((PF.nil.set 0 (.osl o 1 j (v.length+1))).set 1 (aI v)).set 2 (.int .u64 f)).set 7 (.int .u64 c)).set 8 (.int .u64 b)).set 13 (aI v)).set 14 (.int .i64 (v.length:Nat))).set 15 (.int .i64 i))
def IF (n w m:Nat):Nat:=if w<m then w+4294967296 ^ n-m else w-m
theorem Fi {C:Ctx} (A W Z v:List Nat) (f:Nat) (hW:Lim W) (hv:Lim v) (hl:W.length=v.length+1) (h1:A.length+v.length≤100000) (hf:f≤4294967296) (ν:val v*f≤val W+4294967296 ^ (v.length+1)) (o:Nat) :
  uK.wp C (aT MW.res (fun r H'=>r=.bool (decide (val W<val v*f))∧H'=PH.nil.set o (.rows 1 (aH (A++eA (v.length+1) (IF (v.length+1) (val W) (val v*f))++Z)))))
   (PF.args [.osl o 1 A.length (v.length+1),aI v,.int .u64 f]) (PH.nil.set o (.rows 1 (aH (A++W++Z)))):=by
 simp only[go_sem,uK,MX,MY,MZ,MW];refine wp_loop (α:=List Nat × Nat × Nat) (fun t=>Fh v A.length o t.1.length t.2.1 t.2.2 f) (fun t=>PH.nil.set o (.rows 1 (aH (A++(t.1++W.drop t.1.length)++Z))))
  (fun t=>t.1.length≤v.length∧Lim t.1∧t.2.1<4294967296∧t.2.2≤1∧val (W.take t.1.length)+4294967296 ^ t.1.length*t.2.2+4294967296 ^ t.1.length*t.2.1=val t.1+val (v.take t.1.length)*f) (fun t=>v.length-t.1.length) ([],0,0)
  ⟨by simp,by simp[Lim],by simp,by simp,by simp[val]⟩ ?_ (e_ a_ (by simp only[go_sem,aCL,aBM,aDN])) ?_
 ·unfold Fh;exact Lq
 rintro⟨P,c,b⟩ ⟨hP,j,hc,hb,w⟩;simp only at hP j hc hb w;simp only[go_sem,JV,NA,Fh];by_cases c1:P.length<v.length
 ·have I:(P.length:Int)<(v.length:Nat):=Om;have E:P.length<W.length:=Om;have J:(P.length:Int)<((v.length+1:Nat):Int):=Om;have hx:=hv _ (aAG c1);have hw:=hW _ (aAG E);have η:=bZ v c1;have F:=bZ W E;have M:=di (A:=A) (Z:=Z) (P:=P) rfl E;have u:=EB (A:=A) (Z:=Z) (P:=P) rfl E;generalize μ:v[P.length]=x at *
  generalize κ:W[P.length]=y at *
  have ι:(aH v)[P.length]?=some [.int .u32 ((x:Nat):Int)]:=by rw[bL v c1,μ]
  obtain⟨k1,k2,k3⟩:=abB hc hf hx;have ex:IntKind.u64.wrap ((x:Nat):Int)=((x:Nat):Int):=aZ Om;have ey:IntKind.u64.wrap ((y:Nat):Int)=((y:Nat):Int):=aZ Om;have em:IntKind.u64.wrap ((f:Int)*(x:Int))=((f*x:Nat):Int):=by rw[show (f:Int)*(x:Int)=((f*x:Nat):Int) by simp];exact aZ Om
  have l:c+f*x<18446744073709551616:=k1;have ea:IntKind.u64.wrap ((c:Int)+((f*x:Nat):Int))=((c+f*x:Nat):Int):=fH l;have S:=aaW l;have θ:val (v.take (P.length+1))*f=val (v.take P.length)*f+4294967296 ^ P.length*(f*x):=by rw[η,aBI,aAZ,aBA x f]
  generalize f*x=B at *
  have V:(c+B)%4294967296<4294967296:=aBX _ (by decide);obtain⟨s1,s2,s3,s4⟩:=Gx (a:=y) (bor:=b) (b:=(c+B)%4294967296) hw V hb (IntKind.u64.wrap (IntKind.u64.wrap ((y:Int)-(((c+B)%4294967296:Nat):Int))-(b:Int))) (by rw[gG,gG]; omega);generalize hd:OA y b ((c+B)%4294967296)=d at *
  generalize δ:XL y b ((c+B)%4294967296)=Y at *
  have γ:Y≤1:=by rw[← δ]; unfold XL; split<;>omega
  have hs:=u d;simp only[go_sem,I,NB,ι,NC,ex,em,ea,ND,J,M,ey,S,NE,s1,hs,NF,Ve,s2,NG,xT,JW,dN (Om:P.length<9223372036854775807)];refine aL (P++[d],(c+B)/4294967296,Y) ⟨by simp; omega,j.app fun z hz=>by simp at hz; omega,k2,γ,?_⟩ (by simp; omega) ?_ (e_ a_ ?_)
  ·simp only;rw[aAE,aAI,jO,F,θ,aCD,aAZ,aAZ];have h4:4294967296 ^ P.length*y+4294967296 ^ P.length*(4294967296*Y)=4294967296 ^ P.length*d+4294967296 ^ P.length*((c+B)%4294967296)+4294967296 ^ P.length*b:=by rw[← aAM,s3,aAM,aAM]
   have h5:4294967296 ^ P.length*(4294967296*((c+B)/4294967296))+4294967296 ^ P.length*((c+B)%4294967296)=4294967296 ^ P.length*c+4294967296 ^ P.length*B:=by rw[← aAM,aDS,aAM]
   omega
  ·simp only;rw[aAE,aAI];exact Lq
  ·simp only;rw[aAE,aAI];simp only[go_sem]
 ·have e:P.length=v.length:=Om;have I:¬ (P.length:Int)<(v.length:Nat):=Om;have E:v.length<W.length:=Om;have J:(v.length:Int)<((v.length+1:Nat):Int):=Om;have hw:=hW _ (aAG E);have F:=bZ W E;have M:=di (A:=A) (Z:=Z) (P:=P) e E;have u:=EB (A:=A) (Z:=Z) (P:=P) e E;have K:val (W.take (v.length+1))=val W:=by rw[aAQ Om]
  generalize κ:W[v.length]=y at *
  have ey:IntKind.u64.wrap ((y:Nat):Int)=((y:Nat):Int):=aZ Om;have β:=fG j;rw[e] at w β;rw[aBT] at w;rw[K] at F;have X:4294967296 ^ (v.length+1)=4294967296 ^ v.length*4294967296:=aCD _ _;have ο:val W+4294967296 ^ v.length*(b+c)=val P+val v*f+4294967296 ^ v.length*y:=by rw[F,aAM]; omega
  have ξ:b+c≤y+4294967296:=by
   rcases aAV (y+4294967296) (b+c) with h | h
   ·exfalso;have:4294967296 ^ v.length*(y+4294967296+1)≤4294967296 ^ v.length*(b+c):=aCR _ h;rw[aAM,aAM,Nat.mul_one] at this;omega
   ·exact h
  have O:∃ d k:Nat,d<4294967296∧k≤1∧y+4294967296*k=d+(b+c)∧IntKind.u32.wrap (IntKind.u64.wrap (IntKind.u64.wrap ((y:Int)-(c:Int))-(b:Int)))=(d:Int)∧((IntKind.u64.wrap (IntKind.u64.wrap ((y:Int)-(c:Int))-(b:Int))/9223372036854775808==1)=decide (k=1)):=by
   rw[TE,gG,gG];by_cases h:y<b+c
   ·refine⟨y+4294967296-(b+c),1,by omega,by omega,by omega,by omega,?_⟩;simp only[decide_true];exact bO Om
   ·refine⟨y-(b+c),0,by omega,by omega,by omega,by omega,?_⟩;exact bC Om
  obtain⟨d,k,hd,hk,hy,w1,w2⟩:=O;have hs:=u d;have hN:val (P++[d])+val v*f=val W+4294967296 ^ (v.length+1)*k:=by
   have:4294967296 ^ v.length*y+4294967296 ^ v.length*(4294967296*k)=4294967296 ^ v.length*d+4294967296 ^ v.length*(b+c):=by rw[← aAM,hy,aAM]
   rw[jO,e,X,aAZ];omega
  have U:Lim (P++[d]):=j.app fun z hz=>by simp at hz; omega
  have ε:=fG U;rw[aAE,aAI,e] at ε;have N:decide (k=1)=decide (val W<val v*f):=by
   congr 1;apply propext;constructor
   ·intro h; subst h; omega
   ·intro h;rcases aCH k with h0 | h0
    ·subst h0; omega
    ·omega
  have R:IF (v.length+1) (val W) (val v*f)=val (P++[d]):=by
   unfold IF;split
   ·rename_i h;have:k=1:=by simpa [h] using N
    subst this; omega
   ·rename_i h;have:k=0:=by
     have:¬ k=1:=by simpa [h] using N
     omega
    subst this; omega
  have hD:eA (v.length+1) (IF (v.length+1) (val W) (val v*f))=P++[d]:=by have:=ES U;rw[aAE,aAI,e] at this;rw[R,this]
  have ζ:W.drop (v.length+1)=[]:=aDW Om;simp only[go_sem,I,JX,e,J,M,ey,JY,w1,hs,JZ,Ve,w2,N];refine aV (vs:=[.bool (decide (val W<val v*f))]) (.inr rfl) (PH.nil.set o (.rows 1 (aH (A++(P++[d]++W.drop (v.length+1))++Z)))) rfl (e_ a_ Sq) ⟨rfl,?_⟩;rw[hD,ζ,aBU]
end Go.PM
namespace Go.Na
theorem Nz {xs e:List Nat} (u:Lim xs) (w:Lim e) (j:xs.length=e.length) (l:val xs=val e):xs=e:=by
 rw[← ES u,← ES w,j,l]
theorem ajN {k n:Nat} {xs:List Nat} (l:Lim xs) (e:xs.length=k) (j:val xs=n%4294967296 ^ k):eA k n=xs :=
 Nz (nA k n) l (by rw[lT,e]) (by rw[zT,j])
end Go.Na
namespace Go.PM
open Go Go.Na
def E9 (v:List Nat) (j o i c:Nat):PF:=((((((PF.nil.set 0 (.osl o 1 j (v.length+1))).set 1 (aI v)).set 4 (.int .u64 c)).set 7 (aI v)).set 8 (.int .i64 (v.length:Nat))).set 9 (.int .i64 i))
theorem J1 {C:Ctx} (A W Z v:List Nat) (hW:Lim W) (hv:Lim v) (hl:W.length=v.length+1) (h1:A.length+v.length≤100000) (o:Nat) :
  wS.wp C (aT WR.res (fun r H'=>r=.tup []∧H'=PH.nil.set o (.rows 1 (aH (A++eA (v.length+1) (val W+val v)++Z)))))
   (PF.args [.osl o 1 A.length (v.length+1),aI v]) (PH.nil.set o (.rows 1 (aH (A++W++Z)))):=by
 simp only[go_sem,wS,SA,SB,WR];refine wp_loop (α:=List Nat × Nat) (fun t=>E9 v A.length o t.1.length t.2) (fun t=>PH.nil.set o (.rows 1 (aH (A++(t.1++W.drop t.1.length)++Z))))
  (fun t=>t.1.length≤v.length∧Lim t.1∧t.2≤1∧val (W.take t.1.length)+val (v.take t.1.length)=val t.1+4294967296 ^ t.1.length*t.2) (fun t=>v.length-t.1.length) ([],0)
  ⟨by simp,by simp[Lim],by simp,by simp[val]⟩ ?_ (e_ a_ (by simp only[go_sem,aCL,aBM,aDN])) ?_
 ·unfold E9;exact Lq
 rintro⟨P,c⟩ ⟨hP,j,hc,u⟩;simp only at hP j hc u;simp only[go_sem,RZ,SC,E9];by_cases O:P.length<v.length
 ·have B:(P.length:Int)<(v.length:Nat):=Om;have w:P.length<W.length:=Om;have E:(P.length:Int)<((v.length+1:Nat):Int):=Om;have hx:=hv _ (aAG O);have hw:=hW _ (aAG w);have X:=bZ v O;have J:=bZ W w;have I:=di (A:=A) (Z:=Z) (P:=P) rfl w;have l:=EB (A:=A) (Z:=Z) (P:=P) rfl w;generalize γ:v[P.length]=x at *
  generalize β:W[P.length]=y at *
  have Y:(aH v)[P.length]?=some [.int .u32 ((x:Nat):Int)]:=by rw[bL v O,γ]
  have ex:IntKind.u64.wrap ((x:Nat):Int)=((x:Nat):Int):=aZ Om;have R:IntKind.u64.wrap ((y:Nat):Int)=((y:Nat):Int):=aZ Om;have e1:IntKind.u64.wrap ((y:Int)+(x:Int))=((y+x:Nat):Int):=fH Om;have e2:IntKind.u64.wrap ((c:Int)+((y+x:Nat):Int))=((c+(y+x):Nat):Int):=fH Om;have V:=l ((c+(y+x))%4294967296);simp only[go_sem,B,SD,Y,SE,E,I,ex,R,e1,e2,SF,cI,V,SG,xT,SH,dN (Om:P.length<9223372036854775807)];refine aL (P++[(c+(y+x))%4294967296],(c+(y+x))/4294967296) ⟨by simp; omega,j.app fun z N=>by simp at N; subst N; exact aBX _ (by decide),by simp only; omega,?_⟩ (by simp; omega) ?_ (e_ a_ ?_)
  ·simp only;rw[aAE,aAI,jO,J,X,aCD,aAZ];have h5:4294967296 ^ P.length*(4294967296*((c+(y+x))/4294967296))+4294967296 ^ P.length*((c+(y+x))%4294967296)=4294967296 ^ P.length*c+(4294967296 ^ P.length*y+4294967296 ^ P.length*x):=by rw[← aAM,aDS,aAM,aAM]
   omega
  ·simp only;rw[aAE,aAI];exact Lq
  ·simp only;rw[aAE,aAI];simp only[go_sem]
 ·have e:P.length=v.length:=Om;have B:¬ (P.length:Int)<(v.length:Nat):=Om;have w:v.length<W.length:=Om;have E:(v.length:Int)<((v.length+1:Nat):Int):=Om;have hw:=hW _ (aAG w);have J:=bZ W w;have I:=di (A:=A) (Z:=Z) (P:=P) e w;have l:=EB (A:=A) (Z:=Z) (P:=P) e w;have F:val (W.take (v.length+1))=val W:=by rw[aAQ Om]
  generalize β:W[v.length]=y at *
  have S:=fG j;rw[e] at u S;rw[aBT] at u;rw[F] at J;have ec:IntKind.u32.wrap ((c:Nat):Int)=((c:Nat):Int):=by rw[cI,aBQ Om]
  have R:IntKind.u32.wrap ((y:Int)+(c:Int))=(((y+c)%4294967296:Nat):Int):=by rw[show (y:Int)+(c:Int)=((y+c:Nat):Int) by omega,cI]
  have V:=l ((y+c)%4294967296);have K:Lim (P++[(y+c)%4294967296]):=j.app fun z N=>by simp at N; subst N; exact aBX _ (by decide)
  have M:=fG K;rw[aAE,aAI,e] at M;have hD:eA (v.length+1) (val W+val v)=P++[(y+c)%4294967296]:=by
   refine ajN K (by rw[aAE,aAI,e]) ?_;have:val W+val v=val (P++[(y+c)%4294967296])+4294967296 ^ (v.length+1)*((y+c)/4294967296):=by rw[jO,e,aCD,aAZ,aCQ,← aAM,Nat.mod_add_div,aAM];omega
   rw[this,Nat.add_mul_mod_self_left,aBQ M]
  have U:W.drop (v.length+1)=[]:=aDW Om;simp only[go_sem,B,SI,e,E,I,ec,R,V];refine aV (vs:=[]) (.inl rfl) (PH.nil.set o (.rows 1 (aH (A++(P++[(y+c)%4294967296]++W.drop (v.length+1))++Z)))) rfl (e_ a_ Sq) ⟨rfl,?_⟩;rw[hD,U,aBU]
def Ut (o n:Nat) (len:Nat):PF:=((PF.nil.set 0 (.osl o 1 0 len)).set 3 (.int .i64 n))
theorem J0 {C:Ctx} (xs:List Nat) (B:Lim xs) (F:xs.length≤35184372087808) (o:Nat):pK.wp C (aT DX.res (fun r H'=>r=.int .i64 (nl (val xs):Nat)∧H'=PH.nil.set o (.rows 1 (aH xs)))) (PF.args [.osl o 1 0 xs.length]) (PH.nil.set o (.rows 1 (aH xs))):=by
 simp only[go_sem,pK,HO,HP,DX];refine wp_loop (α:=Nat) (fun n=>Ut o n xs.length) (fun _=>PH.nil.set o (.rows 1 (aH xs))) (fun n=>n≤xs.length∧∀ j x,n≤j→xs[j]?=some x→x=0) (fun n=>n) xs.length ⟨aAF _,fun j x h e=>by rw[aBN h] at e; cases e⟩ ?_ b_ ?_
 ·unfold Ut;exact Lq
 rintro n ⟨A,y⟩;have out:(∀ x,0<n→xs[n-1]?=some x→x≠0)→nl (val xs)=n:=fun h=>Q4 B A y h;simp only[go_sem,HN,HQ,Ut];by_cases u:(n:Int)>0
 ·have w:0<n:=Om;have hi:=bL xs (Om:n-1<xs.length);have hlt:((n-1:Nat):Int)<(xs.length:Nat):=Om;simp only[go_sem,u,wN (Om:n≤9223372036854775807) w,hi,hlt];by_cases l:xs[n-1]=0
  ·simp only[go_sem,bO (Om:((xs[n-1]:Nat):Int)=0),HR,wN (Om:n≤9223372036854775807) w];refine aL (n-1) ⟨by omega,fun j x E he=>?_⟩ Om ?_ b_
   ·rcases aAV j n with h | h
    ·have:j=n-1:=Om;subst this;rw[aAH Om] at he;cases he; exact l
    ·exact y j x h he
   ·exact Lq
  ·simp only[go_sem,bC (Om:((xs[n-1]:Nat):Int)≠0),tG];refine aV (.inr rfl) _ rfl b_ ⟨?_,rfl⟩;rw[out fun x _ he=>by rw[aAH Om] at he; cases he; exact l];rfl
 ·simp only[go_sem,u,tG];refine aV (.inr rfl) _ rfl b_ ⟨?_,rfl⟩;rw[out fun x h=>by omega];rfl
end Go.PM
namespace Go.Na
structure Kn (V W top next Vr head u2 Wr p:Nat):Prop where
 hV:V=top*(4294967296*p)+next*p+Vr
 hW:W=head*(4294967296*p)+u2*p+Wr
 hVr:Vr<p
 hWr:Wr<p
 htop:2147483648≤top
 azJ:next<4294967296
 hu2:u2<4294967296
 hlt:W<V*4294967296
section
variable {V W top next Vr head u2 Wr p:Nat}
theorem Kn.low (K:Kn V W top next Vr head u2 Wr p):next*p+Vr<4294967296*p∧u2*p+Wr<4294967296*p:=by
 have e:(next+1)*p≤4294967296*p:=aBC _ K.azJ;have j:(u2+1)*p≤4294967296*p:=aBC _ K.hu2;rw[aBI,Nat.one_mul] at e j;have:=K.hVr;have:=K.hWr;omega
theorem Kn.vh (K:Kn V W top next Vr head u2 Wr p):0<V∧4294967296*p≤V∧0<p:=by
 have:=K.hVr;have h:1*(4294967296*p)≤top*(4294967296*p):=aBC _ (by have:=K.htop; omega);have:=K.hV;omega
theorem Kn.aqB (K:Kn V W top next Vr head u2 Wr p):W/V<4294967296:=by
 rw[aDI K.vh.1,aBA]; exact K.hlt
theorem Kn.g0 (K:Kn V W top next Vr head u2 Wr p):W/V≤head/top:=by
 have e:0<top:=by have:=K.htop; omega
 rw[Nat.le_div_iff_mul_le e];have j:W/V*V≤W:=Nat.div_mul_le_self W V;have l:W/V*(top*(4294967296*p))≤W/V*V:=aCR _ (by have:=K.hV; omega);have u:=K.low.2;have w:=K.hW;have h5:(W/V*top)*(4294967296*p)<(head+1)*(4294967296*p):=by rw[aAZ,aBI,Nat.one_mul]; omega
 have:=Nat.lt_of_mul_lt_mul_right h5;omega
theorem Kn.g1 (K:Kn V W top next Vr head u2 Wr p) {g r:Nat} (u:g*top+r=head) (hq:W/V≤g) (h:g≥4294967296∨g*next>r*4294967296+u2):1≤g∧W/V≤g-1:=by
 have x:=K.aqB;have j:=Nat.div_mul_le_self W V;generalize W/V=Q at *
 rcases h with h | h
 ·omega
 ·have w:Q≠g:=by
   intro e;have y:g*V≤W:=by rw[← e]; exact j
   have A:g*V=g*top*(4294967296*p)+g*next*p+g*Vr:=by rw[K.hV,aAM,aAM,aAZ,aAZ]
   have l:(r*4294967296+u2+1)*p≤g*next*p:=aBC _ h
   rw[aBI,aBI,Nat.one_mul,aAZ r] at l;have B:g*top*(4294967296*p)+r*(4294967296*p)=head*(4294967296*p):=by rw[← aBI,u]
   have:=K.hW;have:=K.hWr;omega
  omega
theorem Kn.g2 (K:Kn V W top next Vr head u2 Wr p) {g r:Nat} (w:g*top+r=head) (x:g≤4294967296) (h:g*next≤r*4294967296+u2):g≤W/V+1:=by
 rcases aCH g with e | e
 ·rw[e]; exact aAP _
 have l:g*V=g*top*(4294967296*p)+g*next*p+g*Vr:=by rw[K.hV,aAM,aAM,aAZ,aAZ]
 have j:g*next*p≤(r*4294967296+u2)*p:=aBC _ h
 rw[aBI,aAZ r] at j;have u:g*top*(4294967296*p)+r*(4294967296*p)=head*(4294967296*p):=by rw[← aBI,w]
 have h5:g*Vr≤4294967296*Vr:=aBC _ x;have y:4294967296*(Vr+1)≤4294967296*p:=aCR _ K.hVr;have hV:=K.vh;have hW:=K.hW;have h7:(g-1)*V≤W:=by
  have:g*V=(g-1)*V+V:=by obtain⟨k,rfl⟩:∃ k,g=k+1:=⟨g-1,by omega⟩;rw[aBI,Nat.one_mul]; rfl
  omega
 have:=(Nat.le_div_iff_mul_le hV.1).2 h7;generalize W/V=Q at *
 clear l j u h5 h7;omega
theorem Kn.g3 (K:Kn V W top next Vr head u2 Wr p) {g r:Nat} (w:g*top+r=head) (x:g≤4294967296) (y:4294967296≤r):g≤W/V+1:=by
 have e:=K.low.1;have hV:=K.vh;have j:g*V=g*top*(4294967296*p)+g*(next*p+Vr):=by rw[K.hV,aCQ,aAM,aAZ]
 have l:g*(next*p+Vr)≤4294967296*(4294967296*p):=aDJ x Om;have u:g*top*(4294967296*p)+r*(4294967296*p)=head*(4294967296*p):=by rw[← aBI,w]
 have h5:4294967296*(4294967296*p)≤r*(4294967296*p):=aBC _ y;have hW:=K.hW;have h7:g*V≤W:=Om;have:=(Nat.le_div_iff_mul_le hV.1).2 h7;generalize W/V=Q at *
 clear j l u h5 h7;omega
theorem Kn.g4 (K:Kn V W top next Vr head u2 Wr p):head/top≤4294967296+1:=by
 have e:=K.low.1;have hV:=K.vh;have hW:=K.hW;have hlt:=K.hlt;have x:=K.htop;have u:head<(top+1)*4294967296:=by
  have j:V<(top+1)*(4294967296*p):=by rw[K.hV,aBI,Nat.one_mul]; omega
  have w:V*4294967296≤(top+1)*(4294967296*p)*4294967296:=aBC _ (Nat.le_of_lt j);have l:head*(4294967296*p)<(top+1)*4294967296*(4294967296*p):=by
   have:(top+1)*(4294967296*p)*4294967296=(top+1)*4294967296*(4294967296*p):=by rw[aAZ,aBA (4294967296*p) 4294967296,← aAZ]
   omega
  exact Nat.lt_of_mul_lt_mul_right l
 have h5:head/top<4294967296+2:=by rw[aDI Om];omega
 omega
end
theorem vY:∀ (k n:Nat),eA (k+1) n=eA k n++[n/4294967296 ^ k%4294967296]
 | 0,n=>by simp[eA]
 | k+1,n=>by show (n%4294967296)::eA (k+1) (n/4294967296)=(n%4294967296)::eA k (n/4294967296)++[n/4294967296 ^ (k+1)%4294967296];rw[vY k (n/4294967296),Nat.div_div_eq_div_mul,aCD,aBA 4294967296];rfl
theorem uT {xs:List Nat} (h:Lim xs):∀ {k:Nat},k≤xs.length→val (xs.drop k)=val xs/4294967296 ^ k:=by
 intro k j;have e:val xs=val (xs.take k)+4294967296 ^ k*val (xs.drop k):=by
  conv=>lhs; rw[← aDA k xs,gT,aAN,aCF j]
 have l:=fG (h.take k);rw[aAN,aCF j] at l;rw[e,Nat.add_mul_div_left _ _ (aDB (by decide)),aDG l,aAX]
theorem SL {R s i j l X:Nat} (w:s<32) (h:R/4294967296 ^ i=j+4294967296*(l+4294967296*X)):(R/2 ^ s)/4294967296 ^ i%4294967296=(4294967296*l+j)/2 ^ s%4294967296:=by
 rw[Nat.div_div_eq_div_mul,aBA (2 ^ s),← Nat.div_div_eq_div_mul,h];have u:4294967296*4294967296=2 ^ s*(2 ^ (32-s)*4294967296):=by rw[← aAZ,← Nat.pow_add,show s+(32-s)=32 by omega]
 have e:j+4294967296*(l+4294967296*X)=(4294967296*l+j)+2 ^ s*(2 ^ (32-s)*X*4294967296):=by
  have:4294967296*(4294967296*X)=2 ^ s*(2 ^ (32-s)*X*4294967296):=by rw[← aAZ,u,aAZ,aAZ,aAZ,aBA 4294967296 X]
  rw[aAM,this]; omega
 rw[e,Nat.add_mul_div_left _ _ (aDB (by decide)),Nat.add_mul_mod_self_right]
end Go.Na
namespace Go.PM
open Go Go.Na
theorem anI {A W Z:List Nat} {i:Nat} (hi:i<W.length):(aH (A++W++Z))[A.length+i]?=some [.int .u32 ((W[i]:Nat):Int)]:=by
 have e:A.length+i<(A++W++Z).length:=by simp; omega
 rw[bL _ e];congr 4;rw[List.getElem_append_left (by simp; omega),List.getElem_append_right Om];congr 1;omega
def dF (u v:PV) (n:Nat) (q:PV) (e next j s:Nat):PF:=((((((((PF.nil.set 8 (.int .u64 s)).set 9 (u)).set 10 (v)).set 11 (.int .i64 n)).set 12 (q)).set 13 (.int .u64 e)).set 14 (.int .u64 next)).set 15 (.int .i64 j))
def dG (u v:PV) (n:Nat) (q:PV) (e next j s g r:Nat):PF:=((((((((((PF.nil.set 8 (.int .u64 s)).set 9 (u)).set 10 (v)).set 11 (.int .i64 n)).set 12 (q)).set 13 (.int .u64 e)).set 14 (.int .u64 next)).set 15 (.int .i64 j)).set 17 (.int .u64 g)).set 18 (.int .u64 r))
theorem tp {C:Ctx} {V J e next Vr l w Wr p:Nat} (x:Kn V J e next Vr l w Wr p) (htop:e<4294967296) (o y m j s:Nat) (v q:PV) (θ:j+m+2<y) (ι:y≤100000) (U:List Nat) (hU:(aH U)[j+m]?=some [.int .u32 (w:Nat)]) (K:cK) (F:PF) (H:PH)
  (hF:(dG (.osl o 1 0 y) v (m+2) q e next j s (l/e) (l%e)).le F) (hH:H o=some (.rows 1 (aH U)))
  (hK:∀ g r I,J/V≤g→g≤J/V+1→g≤4294967296→(dG (.osl o 1 0 y) v (m+2) q e next j s g r).le I→K .normal I H) :
  aE.wp C (.block 4 (.loop vH)) K F H:=by
 have γ:0<e:=by have:=x.htop; omega
 have hn:=x.azJ;have hu2:=x.hu2;simp only[go_sem];refine wp_loop (α:=Nat × Nat) (fun t=>dG (.osl o 1 0 y) v (m+2) q e next j s t.1 t.2) (fun _=>H) (fun t=>t.1*e+t.2=l∧J/V≤t.1∧t.1≤4294967296+1∧t.2<4294967296) (fun t=>t.1) (l/e,l%e)
  ⟨by simp only; rw[aBA]; exact aDS l e,x.g0,x.g4,Nat.lt_trans (aBX _ γ) htop⟩ hF b_ ?_
 rintro⟨g,r⟩ ⟨R,hq,β,hr⟩;simp only at R hq β hr;have e1:IntKind.i64.wrap ((j:Int)+((m+2:Nat):Int))=((j+(m+2):Nat):Int):=gY Om;have e2:IntKind.i64.wrap (((j+(m+2):Nat):Int)-2)=((j+m:Nat):Int):=by rw[wrap_i64 Om Om]; omega
 have hlt:((j+m:Nat):Int)<(y:Nat):=Om;have X:IntKind.u64.wrap ((w:Nat):Int)=((w:Nat):Int):=aZ Om;have N:shift .shl .u64 (r:Int) 32=some (.int .u64 ((2 ^ 32*r:Nat):Int)):=ID (s:=32) Om Om;have W:(2:Nat) ^ 32=4294967296:=by decide
 have M:=orI (a:=2 ^ 32*r) (b:=w) (n:=2 ^ 32*r+w) Om Om (Nat.two_pow_add_eq_or_of_lt Om r).symm Om;rw[W] at N M;have A:(g≥4294967296∨g*next>r*4294967296+w)→∀ I:PF,(dG (.osl o 1 0 y) v (m+2) q e next j s g r).le I→aE.wp C (.block 5 (.seq (.region BY) (.seq (.region BZ) (.seq (.region CA) (.cond (.tmp 136) (.exit 4) .skip)))))
   (jU (fun t:Nat × Nat=>dG (.osl o 1 0 y) v (m+2) q e next j s t.1 t.2) (fun _=>H) (fun t=>t.1*e+t.2=l∧J/V≤t.1∧t.1≤4294967296+1∧t.2<4294967296) (fun t=>t.1) g (fZ 4 K)) I H:=by
  intro hc I u;obtain⟨g1,g2⟩:=x.g1 R hq hc;have f8:=u 8 _ (by unfold dG; simp only[go_sem]; rfl);have f9:=u 9 _ (by unfold dG; simp only[go_sem]; rfl);have δ:=u 10 _ (by unfold dG; simp only[go_sem]; rfl);have f11:=u 11 _ (by unfold dG; simp only[go_sem]; rfl);have ε:=u 12 _ (by unfold dG; simp only[go_sem]; rfl);have f13:=u 13 _ (by unfold dG; simp only[go_sem]; rfl);have f14:=u 14 _ (by unfold dG; simp only[go_sem]; rfl);have ζ:=u 15 _ (by unfold dG; simp only[go_sem]; rfl);have Y:=u 17 _ (by unfold dG; simp only[go_sem]; rfl);have Z:=u 18 _ (by unfold dG; simp only[go_sem]; rfl);have w1:IntKind.u64.wrap ((g:Int)-1)=((g-1:Nat):Int):=by rw[wrap_u64 Om Om]; omega
  have w2:IntKind.u64.wrap ((r:Int)+(e:Int))=((r+e:Nat):Int):=fH Om;have O:(g-1)*e+(r+e)=l:=by obtain⟨k,rfl⟩:∃ k,g=k+1:=⟨g-1,by omega⟩;rw[aBI,Nat.one_mul] at R;simp only[Nat.add_sub_cancel];omega
  simp only[go_sem,BY,BZ,CA,Y,Z,f13,w1,w2];by_cases c:r+e≥4294967296
  ·have S:((r+e:Nat):Int)≥4294967296:=Om;simp only[go_sem,S];refine hK (g-1) (r+e) _ g2 (x.g3 O Om c) Om ?_;unfold dG;exact Lq
  ·have S:¬ ((r+e:Nat):Int)≥4294967296:=Om;simp only[go_sem,S];refine aL (g-1,r+e) ⟨O,g2,by simp only; omega,by simp only; omega⟩ (by simp only; omega) ?_ b_;unfold dG;exact Lq
 simp only[go_sem,vH,RR,dG];by_cases c1:g≥4294967296
 ·have B:(g:Int)≥4294967296:=Om;simp only[go_sem,B];have:=A (.inl c1);simp only[go_sem,dG] at this;refine this _ ?_;exact Lq
 ·have B:¬ (g:Int)≥4294967296:=Om;have η:g*next≤4294967295*4294967295:=aDJ Om Om
  have em:IntKind.u64.wrap ((g:Int)*(next:Int))=((g*next:Nat):Int):=by rw[show (g:Int)*(next:Int)=((g*next:Nat):Int) by simp];exact aZ Om
  simp only[go_sem,B,em,N,e1,e2,hlt,hH,hU,X,M];by_cases c2:g*next>r*4294967296+w
  ·have E:((g*next:Nat):Int)>((4294967296*r+w:Nat):Int):=Om;simp only[go_sem,E];have:=A (.inr c2);simp only[go_sem,dG] at this;refine this _ ?_;exact Lq
  ·have E:¬ ((g*next:Nat):Int)>((4294967296*r+w:Nat):Int):=Om;simp only[go_sem,E];refine hK g r _ hq (x.g2 R Om Om) Om ?_;unfold dG;exact Lq
end Go.PM
namespace Go.Na
theorem asW {W v:List Nat} {m:Nat} (hW:Lim W) (e:Lim v) (y:v.length=m+2) (x:W.length=m+3) (A:2147483648≤v[m+1]) (hlt:val W<val v*4294967296) :
  Kn (val v) (val W) (v[m+1]) (v[m]) (val (v.take m)) (W[m+2]*4294967296+W[m+1]) (W[m]) (val (W.take m)) (4294967296 ^ m):=by
 have u:val v=val (v.take m)+4294967296 ^ m*(v[m]+4294967296*v[m+1]):=by
  rw[sA v (Om:m<v.length)];congr 4;have:v.drop (m+1)=[v[m+1]]:=by rw[aCK Om,aDW Om]
  rw[this]; simp[val]
 have w:val W=val (W.take m)+4294967296 ^ m*(W[m]+4294967296*(W[m+1]+4294967296*W[m+2])):=by
  rw[sA W (Om:m<W.length)];congr 4;have:W.drop (m+1)=[W[m+1],W[m+2]]:=by rw[aCK Om,aCK Om,aDW Om]
  rw[this]; simp[val]
 have j:=fG (e.take m);have l:=fG (hW.take m);rw[aAN,aCF Om] at j l;refine⟨?_,?_,j,l,A,e _ (aAG _),hW _ (aAG _),hlt⟩
 ·rw[u,aAM,aBA (4294967296 ^ m) (v[m]),← aAZ (4294967296 ^ m),aBA (4294967296 ^ m*4294967296),aBA (4294967296 ^ m) 4294967296];omega
 ·rw[w,aAM,aBA (4294967296 ^ m) (W[m]),← aAZ (4294967296 ^ m),aBA (4294967296 ^ m*4294967296),aBA (4294967296 ^ m) 4294967296,aBA (W[m+2]),Nat.add_comm (4294967296*W[m+2])];omega
end Go.Na
namespace Go.PM
open Go Go.Na
structure ud (C:Ctx):Prop where
 subtract:∀ (A W Z v:List Nat) (f o:Nat),Lim W→Lim v→W.length=v.length+1→A.length+v.length≤100000→f≤4294967296→val v*f≤val W+4294967296 ^ (v.length+1) →
  aG C 142 [.osl o 1 A.length (v.length+1),aI v,.int .u64 f] (PH.nil.set o (.rows 1 (aH (A++W++Z)))) (fun r H'=>r=.bool (decide (val W<val v*f))∧H'=PH.nil.set o (.rows 1 (aH (A++eA (v.length+1) (IF (v.length+1) (val W) (val v*f))++Z))))
 restore:∀ (A W Z v:List Nat) (o:Nat),Lim W→Lim v→W.length=v.length+1→A.length+v.length≤100000 →
  aG C 139 [.osl o 1 A.length (v.length+1),aI v] (PH.nil.set o (.rows 1 (aH (A++W++Z)))) (fun r H'=>r=.tup []∧H'=PH.nil.set o (.rows 1 (aH (A++eA (v.length+1) (val W+val v)++Z))))
theorem wb (k n:Nat):eA k (n%4294967296 ^ k)=eA k n :=
 Nz (nA _ _) (nA _ _) (by rw[lT,lT]) (by rw[zT,zT,Nat.mod_mod])
theorem tk {C:Ctx} (D:ud C) (A W Z v Q:List Nat) (m o S R s:Nat) (β:S≠o) (hW:Lim W) (hv:Lim v) (ο:v.length=m+2) (ξ:W.length=m+3) (ht:2147483648≤v[m+1]) (hlt:val W<val v*4294967296)
  (p':R=A.length+(m+3)+Z.length) (k':R≤10000) (a':A.length<Q.length) (K:cK) (F:PF) (H:PH) (U:(dF (.osl o 1 0 R) (aI v) (m+2) (.osl S 1 0 Q.length) (v[m+1]) (v[m]) A.length s).le F)
  (hH:H o=some (.rows 1 (aH (A++W++Z)))) (κ:H S=some (.rows 1 (aH Q)))
  (hK:∀ F' H',(dF (.osl o 1 0 R) (aI v) (m+2) (.osl S 1 0 Q.length) (v[m+1]) (v[m]) A.length s).le F'→H' o=some (.rows 1 (aH (A++eA (m+3) (val W%val v)++Z)))→H' S=some (.rows 1 (aH (Q.set A.length (val W/val v))))→K .normal F' H') :
  aE.wp C (.block 3 (.seq (.draw BV) (.seq (.draw BW) (.seq (.block 4 (.loop vH)) (.seq (.seq (.region CB) (.cond (.tmp 146) (.seq (.region CC) (.region CD)) .skip)) (.region vI)))))) K F H:=by
 have Kk:=asW hW hv ο ξ ht hlt;have x:∀ i (h:i<W.length),(aH (A++W++Z))[A.length+i]?=some [.int .u32 ((W[i]:Nat):Int)]:=fun i h=>anI h;have g0:=x (m+2) Om;have g1:=x (m+1) Om;have g2:=x m Om;have hq:=Kk.aqB;have htop:v[m+1]<4294967296:=hv _ (aAG _);have t':=hW _ (aAG (Om:m+2<W.length));have u':=hW _ (aAG (Om:m+1<W.length));have α:=Kk.vh.1;generalize s':v[m+1]=l at *
 generalize q':v[m]=next at *
 generalize v':W[m+2]=I at *
 generalize w':W[m+1]=u1 at *
 generalize x':W[m]=u2 at *
 have f8:=U 8 _ (by unfold dF; simp only[go_sem]; rfl);have f9:=U 9 _ (by unfold dF; simp only[go_sem]; rfl);have Θ:=U 10 _ (by unfold dF; simp only[go_sem]; rfl);have f11:=U 11 _ (by unfold dF; simp only[go_sem]; rfl);have Λ:=U 12 _ (by unfold dF; simp only[go_sem]; rfl);have f13:=U 13 _ (by unfold dF; simp only[go_sem]; rfl);have f14:=U 14 _ (by unfold dF; simp only[go_sem]; rfl);have ζ:=U 15 _ (by unfold dF; simp only[go_sem]; rfl);have e1:IntKind.i64.wrap ((A.length:Int)+((m+2:Nat):Int))=((A.length+(m+2):Nat):Int):=gY Om;have e2:IntKind.i64.wrap (((A.length+(m+2):Nat):Int)-1)=((A.length+(m+1):Nat):Int):=by rw[wrap_i64 Om Om]; omega
 have c0:((A.length+(m+2):Nat):Int)<(R:Nat):=Om;have c1:((A.length+(m+1):Nat):Int)<(R:Nat):=Om;have Γ:IntKind.u64.wrap ((I:Nat):Int)=((I:Nat):Int):=aZ Om;have Δ:IntKind.u64.wrap ((u1:Nat):Int)=((u1:Nat):Int):=aZ Om;have ε:shift .shl .u64 (I:Int) 32=some (.int .u64 ((2 ^ 32*I:Nat):Int)):=ID (s:=32) Om Om;have ω:(2:Nat) ^ 32=4294967296:=by decide
 have X:=orI (a:=2 ^ 32*I) (b:=u1) (n:=2 ^ 32*I+u1) Om Om (Nat.two_pow_add_eq_or_of_lt Om I).symm Om;rw[ω] at ε X;have Φ:4294967296*I+u1=I*4294967296+u1:=Om;rw[Φ] at X;simp only[go_sem];refine bN H dC b_ ?_;simp only[go_sem,BV,f9,ζ,f11,e1,e2,c0,c1,hH,g0,g1,Γ,Δ,ε,X];refine bN H dC b_ ?_;have r':0<l:=Om;have e':¬ ((l:Nat):Int)=0:=Om;generalize o':I*4294967296+u1=e at *
 have γ:IntKind.u64.wrap (Int.tdiv ((e:Nat):Int) ((l:Nat):Int))=((e/l:Nat):Int):=by rw[show Int.tdiv ((e:Nat):Int) ((l:Nat):Int)=((e/l:Nat):Int) from rfl];exact aZ (by have:=Kk.g4; omega)
 have δ:Int.tmod ((e:Nat):Int) ((l:Nat):Int)=((e%l:Nat):Int):=rfl;simp only[go_sem,BW,f13,e',γ,δ];have w:=tp (C:=C) Kk htop o R m A.length s (aI v) (.osl S 1 0 Q.length) Om Om (A++W++Z) g2;simp only[go_sem] at w;refine w _ _ H ?_ hH ?_
 ·unfold dG;refine d_ (d_ (d_ (d_ (d_ (d_ (d_ (d_ (d_ (d_ c_ ?_) ?_) ?_) ?_) ?_) ?_) ?_) ?_) ?_) ?_<;>simp only[go_sem,f8,f9,Θ,f11,Λ,f13,f14,ζ]
 clear w;intro g r F' q1 q2 q3 j;have h8:=j 8 _ (by unfold dG; simp only[go_sem]; rfl);have h9:=j 9 _ (by unfold dG; simp only[go_sem]; rfl);have J:=j 10 _ (by unfold dG; simp only[go_sem]; rfl);have M:=j 11 _ (by unfold dG; simp only[go_sem]; rfl);have η:=j 12 _ (by unfold dG; simp only[go_sem]; rfl);have θ:=j 13 _ (by unfold dG; simp only[go_sem]; rfl);have ι:=j 14 _ (by unfold dG; simp only[go_sem]; rfl);have N:=j 15 _ (by unfold dG; simp only[go_sem]; rfl);have Y:=j 17 _ (by unfold dG; simp only[go_sem]; rfl);have e3:IntKind.i64.wrap (((A.length+(m+2):Nat):Int)+1)=((A.length+(m+3):Nat):Int):=by rw[wrap_i64 Om Om]; omega
 have c3:(A.length:Int)≤((A.length+(m+3):Nat):Int):=Om;have c4:((A.length+(m+3):Nat):Int)≤(R:Nat):=Om;have e4:A.length+(m+3)-A.length=v.length+1:=Om;have B:v.length+1=m+3:=Om;have n':val v*(val W/val v)+val W%val v=val W:=aDS _ _;have μ:=fG hW;rw[ξ] at μ;have ψ:val W%val v<val v:=aBX _ α;have υ:=fG hv;rw[ο] at υ;have σ:4294967296 ^ (m+3)=4294967296 ^ (m+2)*4294967296:=aCD _ _;generalize l':val W/val v=E at *
 generalize m':val W%val v=rd at *
 have V:∀ (y:PF) (H2:PH),y 8=some (.int .u64 s)→y 9=some (.osl o 1 0 R)→y 10=some (aI v)→y 11=some (.int .i64 ((m+2:Nat):Int))→y 12=some (.osl S 1 0 Q.length)→y 13=some (.int .u64 l)→y 14=some (.int .u64 next)→y 15=some (.int .i64 A.length)→y 17=some (.int .u64 E) →
   H2 o=some (.rows 1 (aH (A++eA (m+3) rd++Z)))→H2 S=some (.rows 1 (aH Q))→aE.wp C (.region vI) (fZ 3 K) y H2:=by
  intro y H2 k8 k9 f' g' φ h' i' χ j' kH kQ;have d':(aH Q)[A.length]?=some [.int .u32 ((Q[A.length]:Nat):Int)]:=bL Q a';have c':(A.length:Int)<(Q.length:Nat):=Om;have eq:IntKind.u32.wrap ((E:Nat):Int)=((E:Nat):Int):=by rw[cI,aBQ hq]
  have τ:=fS Q A.length E;have ρ:¬ o=S:=fun h=>β h.symm;simp only[go_sem,vI,φ,χ,j',eq,c',kQ,d',τ];refine hK _ _ ?_ (by simp only[go_sem,ρ,kH]) Sq;unfold dF;refine d_ (d_ (d_ (d_ (d_ (d_ (d_ (d_ c_ ?_) ?_) ?_) ?_) ?_) ?_) ?_) ?_<;>simp only[go_sem,k8,k9,f',g',φ,h',i',χ]
 have b':(PH.nil.set o (.rows 1 (aH (A++W++Z)))).le H:=e_ a_ hH;have ν:val v*g≤val W+4294967296 ^ (v.length+1):=by have:val v*g≤val v*(E+1):=aCR _ q2;rw[aAM,Nat.mul_one] at this;rw[B,σ]; omega
 simp only[go_sem,CB,h9,N,M,e1,e3,c3,c4,e4,J,Y];refine dS (D.subtract A W Z v g o hW hv Om Om q3 ν) rfl b' ?_;rintro rr H' ⟨rfl,rfl⟩ -;rw[PH.pL];by_cases Ω:g=E
 ·subst Ω;have u:¬ val W<val v*g:=Om;have hN:IF (v.length+1) (val W) (val v*g)=rd:=by unfold IF; rw[if_neg u]; omega
  rw[hN,B];simp only[go_sem,u];have:=V;simp only[go_sem] at this;refine this _ _ ?_ ?_ ?_ ?_ ?_ ?_ ?_ ?_ ?_ ?_ ?_<;>simp only[go_sem,h8,h9,J,M,η,θ,ι,N,Y,β,κ]
 ·have Ψ:g=E+1:=Om;subst Ψ;rw[aAM,Nat.mul_one];have u:val W<val v*E+val v:=Om;have hN:IF (v.length+1) (val W) (val v*E+val v)=rd+4294967296 ^ (m+3)-val v:=by unfold IF; rw[if_pos u,B]; omega
  rw[hN];have w1:IntKind.u64.wrap (((E+1:Nat):Int)-1)=((E:Nat):Int):=by rw[wrap_u64 Om Om]; omega
  simp only[go_sem,u,CC,Y,w1,CD,h9,N,M,e1,e3,c3,c4,e4,J];have Ξ:val (eA (v.length+1) (rd+4294967296 ^ (m+3)-val v))=rd+4294967296 ^ (m+3)-val v:=oU (by rw[B]; omega);refine dS (D.restore A (eA (v.length+1) (rd+4294967296 ^ (m+3)-val v)) Z v o (nA _ _) hv (lT _ _) Om) rfl (e_ a_ Sq) ?_;rintro rr H' ⟨rfl,rfl⟩ -;rw[PH.pL,PH.set_set,Ξ];have O:eA (v.length+1) (rd+4294967296 ^ (m+3)-val v+val v)=eA (m+3) rd:=by rw[B,← wb (m+3) (rd+4294967296 ^ (m+3)-val v+val v)];rw[show rd+4294967296 ^ (m+3)-val v+val v=rd+4294967296 ^ (m+3) by omega,Nat.add_mod_right,wb]
  rw[O];simp only[go_sem];have:=V;simp only[go_sem] at this;refine this _ _ ?_ ?_ ?_ ?_ ?_ ?_ ?_ ?_ ?_ ?_ ?_<;>simp only[go_sem,h8,h9,J,M,η,θ,ι,N,β,κ]
open Go
section
variable {C:Ctx} {K:cK} {F:PF} {H Hs:PH} {S:Spec}
theorem Ks {name:Nat} {vs:List PV} {R:PV→PH→Prop} {args:List aN} {st:Bool} {d:Option Nat} {K:PF→PH→Prop} (w:S name vs=some ([],fun _=>R)) (h:aG C name vs .nil R) (e:aN.evs F args=some vs)
  (j:∀ G:PH,∃ r H',R r H'∧kJ G .nil H') (y:∀ r H',R r H'→kJ H .nil H'→Hs.le (H.over .nil H')∧K (F.put d r) (H.over .nil H')):dOp C Hs S st (.call name args) d K F H:=by
 refine⟨vs,[],fun _=>R,e,w,fun o A=>by simp at A,by rw[HU]; exact h,fun G=>?_,fun r H' B e=>?_⟩
 ·obtain⟨r,H',l,u⟩:=j G;exact⟨r,H',l,fun o x E I=>u o x E (by simp[PH.nil])⟩
 ·rw[HU] at e ⊢;exact y r H' B e
theorem PH.over_self (j:PH) (h:j.le H):H.over j j=H:=PH.ext fun q=>by
 rw[oP];cases e:j q with
 | none=>rfl
 | some x=>exact (h q x e).symm
theorem Fq {o:Nat} {x:bF} (h:H o=some x):H.only [o]=PH.nil.set o x:=PH.ext fun q=>by
 rw[qC,aQ];by_cases e:q=o
 ·subst e; simp[h]
 ·simp[e,iv]
theorem ER {name o:Nat} {x:bF} {vs:List PV} {v:PV} {R:PH→PV→PH→Prop} {args:List aN} {st:Bool} {d:Option Nat} {K:PF→PH→Prop} (E:S name vs=some ([o],R)) (B:H o=some x)
  (h:aG C name vs (PH.nil.set o x) (fun r H'=>r=v∧H'=PH.nil.set o x)) (j:R (PH.nil.set o x) v (PH.nil.set o x)) (u:∀ r H',R (PH.nil.set o x) r H'→r=v∧H'=PH.nil.set o x) (I:aN.evs F args=some vs) (w:Hs.le H) (J:K (F.put d v) H) :
  dOp C Hs S st (.call name args) d K F H:=by
 have e:=Fq B;refine⟨vs,[o],_,I,E,fun q hq=>?_,?_,fun G=>⟨v,_,by rw[e]; exact j,fun q y M A=>?_⟩,fun r H' l _=>?_⟩
 ·simp at hq; subst hq; exact⟨x,B⟩
 ·rw[e];exact h.post fun r H' l=>⟨r,.refl _,by rw[l.1,l.2]; exact j⟩
 ·rw[e] at A; rw[M] at A; cases A
 ·rw[e] at l;obtain⟨rfl,rfl⟩:=u r H' l;rw[e,PH.over_self _ (by rw[← e]; exact QK H [o])];exact⟨w,J⟩
theorem Ke {c:aE} {α:Type} (e:α→PF) (Hs:α→PH) (j:α→Prop) (m:α→Nat) (l:α) (o:Nat) {s:Nat} {rs:List (List PV)} (y:H o=some (.rows s rs)) (u:j l) (w:(e l).le (F.frz o s rs)) (x:(Hs l).le (H.frz o s rs))
  (hb:∀ a,j a→c.wp C (jU e Hs j m (m a) K) (e a) (Hs a)):aE.wp C (.loop c) K F H :=
 ⟨α,e,Hs,j,m,l,_,_,.step o y (.refl _ _),u,w,x,hb⟩
@[go_sem] theorem uG (o s:Nat) (rs:List (List PV)) (q:Nat):(H.frz o s rs) q=if q=o then none else (H q).map (bF.frz o s rs):=(rfl)
theorem Zk {t u o1 o2 s1 s2 k1 k2:Nat} {rs1 rs2:List (List PV)} {R:PV→PH→Prop} {e:kC} (he:e=.normal∨e=.ret) (l:o1≠o2) (M:F t=some (.osl o1 s1 0 k1)) (N:F u=some (.osl o2 s2 0 k2)) (x:H o1=some (.rows s1 rs1)) (y:H o2=some (.rows s2 rs2))
  (U:k1≤rs1.length) (V:k2≤rs2.length) (A:rs2.map (fun r=>r.map (PV.bP o1 s1 rs1))=rs2) (W:(rs1.take k1)=rs1.take k1) (O:R (.tup [.sl s1 (rs1.take k1),.sl s2 (rs2.take k2)]) .nil):aT [.tmp t,.tmp u] R e F H:=by
 have B:∃ vs,dT.evs F H [.tmp t,.tmp u]=some vs∧∃ E I H2,iU (PF.nil.set 0 (dB vs)) H E I∧H2.le I∧∃ w,E 0=some w∧R w H2:=by
  have j:o2≠o1:=fun h=>l h.symm;have J:(H.frz o1 s1 rs1) o2=some (.rows s2 rs2):=by rw[uG,if_neg j,y]; simp only[aBJ,bF.frz,A]
  refine⟨[.osl o1 s1 0 k1,.osl o2 s2 0 k2],by rw[kP,nM,M,kP,nM,N,oS],_,_,.nil,.step o1 x (.step o2 J (.refl _ _)),a_,_,?_,O⟩;have a1:0+k1≤rs1.length:=Om;have a2:0+k2≤rs2.length:=Om;simp only[PF.frz,mF,if_true,dB,aBJ,PV.frz,PV.pI,PV.bP,aBG,aCP,true_and,if_pos a1,if_pos a2,aBM,if_neg j]
 rcases he with rfl | rfl<;>exact B
end
end Go.PM
namespace Go.Na
structure pC (U0 V n lu lq:Nat) (k:Nat) (U Q:List Nat):Prop where
 lu':U.length=lu
 lq':Q.length=lq
 limU:Lim U
 limQ:Lim Q
 v:val U+val Q*V=U0
 r:val (U.drop k)<V
 z:∀ i x,i<k→Q[i]?=some x→x=0
theorem wc {N V n M A j:Nat} {U Q:List Nat} (h:pC N V n M A (j+1) U Q) (hV:V<4294967296 ^ n) (hj:j<A) (hl:M=A+n) :
  val ((U.drop j).take (n+1))<V*4294967296∧pC N V n M A j (U.take j++eA (n+1) (val ((U.drop j).take (n+1))%V)++U.drop (j+(n+1))) (Q.set j (val ((U.drop j).take (n+1))/V)):=by
 have Z:=h.lu';have J:=h.lq';have e:0<V:=by have:=h.r; omega
 have u:j<U.length:=Om;have e1:val (U.drop j)=U[j]+4294967296*val (U.drop (j+1)):=by rw[aCK u]; rfl
 have X:=h.limU _ (aAG u);have hlt:val (U.drop j)<V*4294967296:=by have:=h.r; omega
 have I:((U.drop j).take (n+1)).length=n+1:=by rw[aAN,aBR]; omega
 have O:val (U.drop j)=val ((U.drop j).take (n+1))+4294967296 ^ (n+1)*val (U.drop (j+(n+1))):=by
  conv=>lhs; rw[← aDA (n+1) (U.drop j),gT,I,List.drop_drop]
 have R:4294967296 ^ (n+1)=4294967296 ^ n*4294967296:=aCD _ _;have Y:V*4294967296≤4294967296 ^ n*4294967296:=aBC _ (Nat.le_of_lt hV);have E:val (U.drop (j+(n+1)))=0:=by
  rcases aCH (val (U.drop (j+(n+1)))) with h0 | h0
  ·exact h0
  ·have:=aCR (4294967296 ^ (n+1)) h0;omega
 rw[E,Nat.mul_zero,aBP] at O;generalize hW:val ((U.drop j).take (n+1))=W at *
 have e3:val U=val (U.take j)+4294967296 ^ j*W:=by
  conv=>lhs; rw[← aDA j U,gT,aAN,aCF Om,O]
 have y:W%V<V:=aBX _ e;have F:V*(W/V)+W%V=W:=aDS _ _;have K:W/V<4294967296:=by rw[aDI e,aBA]; omega
 have hD:val (eA (n+1) (W%V))=W%V:=oU Om;have B:Q[j]=0:=h.z j _ Om (aAH Om);have l:=ED (Om:j<Q.length) (W/V);rw[B,Nat.mul_zero,aBP] at l;have w:(U.take j).length=j:=by rw[aAN]; omega
 refine⟨by omega,?_,?_,?_,?_,?_,?_,?_⟩
 ·simp only[aAE,lT,aBR,aAN]; omega
 ·rw[aBW]; exact J
 ·exact ((h.limU.take j).app (nA _ _)).app (h.limU.drop _)
 ·exact h.limQ.set _ K
 ·rw[aBE,gT,gT,w,hD,lT,E,Nat.mul_zero,aBP,l];have:=h.v;have h5:(val Q+4294967296 ^ j*(W/V))*V=val Q*V+4294967296 ^ j*(V*(W/V)):=by rw[aBI,aAZ,aBA (W/V) V]
  have h6:4294967296 ^ j*W=4294967296 ^ j*(V*(W/V))+4294967296 ^ j*(W%V):=by rw[← aAM,F]
  omega
 ·rw[aBE,List.drop_append_of_le_length Om,aDW Om,aDN,gT,hD,E,Nat.mul_zero,aBP];exact y
 ·intro i x hi S;rw[List.getElem?_set_ne Om] at S;exact h.z i x Om S
end Go.Na
namespace Go.PM
open Go Go.Na
def dI (u v:PV) (n:Nat) (q:PV) (e next s:Nat) (j:Int):PF:=((((((((PF.nil.set 8 (.int .u64 s)).set 9 (u)).set 10 (v)).set 11 (.int .i64 n)).set 12 (q)).set 13 (.int .u64 e)).set 14 (.int .u64 next)).set 15 (.int .i64 j))
theorem rS (o s:Nat) (rs:List (List PV)) (L:List Nat):(aH L).map (fun r=>r.map (PV.bP o s rs))=aH L:=by
 unfold aH;rw[aDE];rfl
theorem Ep {C:Ctx} (D:ud C) (X m y w o o2 x s:Nat) (v e:List Nat) (h2:o2≠o) (h3:x≠o) (h4:x≠o2) (hv:Lim v) (R:v.length=m+2) (Δ:(aH e).take (m+2)=aH v) (Θ:m+2≤e.length) (ht:2147483648≤v[m+1])
  (Γ:y=w+(m+2)) (S:y≤10000) (U:List Nat) (E:pC X (val v) (m+2) y w w U (aAC w 0)) (K:cK) (F:PF) (H:PH)
  (B:(dI (.osl o 1 0 y) (.osl o2 1 0 (m+2)) (m+2) (.osl x 1 0 w) (v[m+1]) (v[m]) s ((w:Int)-1)).le F) (hH:H o=some (.rows 1 (aH U))) (ν:H o2=some (.rows 1 (aH e))) (μ:H x=some (.rows 1 (aH (aAC w 0))))
  (hK:∀ U' Q' W,pC X (val v) (m+2) y w 0 U' Q'→(dI (.osl o 1 0 y) (aI v) (m+2) (.osl x 1 0 w) (v[m+1]) (v[m]) s (-1)).le W→K .normal W ((PH.nil.set o (.rows 1 (aH U'))).set x (.rows 1 (aH Q')))) :
  aE.wp C (.block 2 (.loop BT)) K F H:=by
 have f8:=B 8 _ (by unfold dI; simp only[go_sem]; rfl);have f9:=B 9 _ (by unfold dI; simp only[go_sem]; rfl);have Z:=B 10 _ (by unfold dI; simp only[go_sem]; rfl);have f11:=B 11 _ (by unfold dI; simp only[go_sem]; rfl);have β:=B 12 _ (by unfold dI; simp only[go_sem]; rfl);have f13:=B 13 _ (by unfold dI; simp only[go_sem]; rfl);have f14:=B 14 _ (by unfold dI; simp only[go_sem]; rfl);have γ:=B 15 _ (by unfold dI; simp only[go_sem]; rfl);have I:¬ o=o2:=fun h=>h2 h.symm;have J:¬ x=o2:=h4;have V:¬ o=x:=fun h=>h3 h.symm;have υ:∀ (k:IntKind) (n:Int),PV.frz o2 1 (aH e) (.int k n)=.int k n:=fun _ _=>rfl;have χ:∀ l,PV.frz o2 1 (aH e) (.osl o 1 0 l)=.osl o 1 0 l:=fun l=>by simp only[PV.frz,PV.pI,PV.bP,if_neg I]
 have φ:∀ l,PV.frz o2 1 (aH e) (.osl x 1 0 l)=.osl x 1 0 l:=fun l=>by simp only[PV.frz,PV.pI,PV.bP,if_neg J]
 have ψ:PV.frz o2 1 (aH e) (.osl o2 1 0 (m+2))=aI v:=by
  have:0+(m+2)≤(aH e).length:=by rw[bV]; omega
  simp only[PV.frz,PV.pI,PV.bP,if_true,true_and,if_pos this,aBM,Δ]
 simp only[go_sem];refine Ke (α:=Nat × List Nat × List Nat) (fun t=>dI (.osl o 1 0 y) (aI v) (m+2) (.osl x 1 0 w) (v[m+1]) (v[m]) s ((t.1:Int)-1)) (fun t=>(PH.nil.set o (.rows 1 (aH t.2.1))).set x (.rows 1 (aH t.2.2)))
  (fun t=>t.1≤w∧pC X (val v) (m+2) y w t.1 t.2.1 t.2.2) (fun t=>t.1) (w,U,aAC w 0) o2 ν ⟨aAF _,E⟩ ?_ ?_ ?_
 ·unfold dI;refine d_ (d_ (d_ (d_ (d_ (d_ (d_ (d_ c_ ?_) ?_) ?_) ?_) ?_) ?_) ?_) ?_<;>simp only[go_sem,f8,f9,Z,f11,β,f13,f14,γ,υ,χ,φ,ψ]
 ·refine e_ (e_ a_ ?_) ?_
  ·simp only[go_sem,I,hH,bF.frz,rS]
  ·simp only[go_sem,J,μ,bF.frz,rS]
 rintro⟨k,U,Q⟩ ⟨hk,E⟩;simp only at hk E;simp only[go_sem,BT,RQ,dI];by_cases h0:0<k
 ·obtain⟨j,rfl⟩:∃ j,k=j+1:=⟨k-1,by omega⟩;have hz:((j+1:Nat):Int)-1=(j:Int):=Om;have ω:(j:Int)≥0:=Om;have O:val v<4294967296 ^ (m+2):=by have:=fG hv; rw[R] at this; exact this
  obtain⟨hlt,ξ⟩:=wc E O Om Γ;have ρ:=E.lu';have ο:=E.lq';have hA:(U.take j).length=j:=by rw[aAN]; omega
  have σ:((U.drop j).take (m+3)).length=m+3:=by rw[aAN,aBR]; omega
  have A:U.take j++(U.drop j).take (m+3)++U.drop (j+(m+3))=U:=by rw[aBE,← List.drop_drop,aDA,aDA]
  have τ:(U.drop (j+(m+3))).length=y-(j+(m+3)):=by rw[aBR,ρ]
  have M:=tk (C:=C) D (U.take j) ((U.drop j).take (m+3)) (U.drop (j+(m+3))) v Q m o x y s h3 ((E.limU.drop _).take _) hv R σ ht hlt (by rw[hA,τ]; omega) S (by rw[hA]; omega);rw[hA,A,ο] at M;have Y:IntKind.i64.wrap ((j:Int)-1)=(j:Int)-1:=wrap_i64 Om Om;simp only[go_sem,hz,ω];simp only[go_sem] at M;refine M _ _ _ ?_ (by simp only[go_sem,V]) Sq ?_
  ·unfold dF;exact Lq
  ·intro W H' u κ N;have g8:=u 8 _ (by unfold dF; simp only[go_sem]; rfl);have g9:=u 9 _ (by unfold dF; simp only[go_sem]; rfl);have δ:=u 10 _ (by unfold dF; simp only[go_sem]; rfl);have ε:=u 11 _ (by unfold dF; simp only[go_sem]; rfl);have ζ:=u 12 _ (by unfold dF; simp only[go_sem]; rfl);have η:=u 13 _ (by unfold dF; simp only[go_sem]; rfl);have θ:=u 14 _ (by unfold dF; simp only[go_sem]; rfl);have ι:=u 15 _ (by unfold dF; simp only[go_sem]; rfl);simp only[go_sem,RT,ι,Y];refine aL (j,_,_) ⟨by simp only; omega,ξ⟩ (by simp only; omega) ?_ (e_ (e_ a_ κ) N);refine d_ (d_ (d_ (d_ (d_ (d_ (d_ (d_ c_ ?_) ?_) ?_) ?_) ?_) ?_) ?_) ?_<;>simp only[go_sem,g8,g9,δ,ε,ζ,η,θ]
 ·have:k=0:=Om;subst this;have hz:¬ ((0:Nat):Int)-1≥0:=by decide
  simp only[go_sem,hz];refine hK U Q _ E ?_;unfold dI
  (repeat' (first|exact c_|refine d_ ?_ ?_))<;>first|(simp only[go_sem,show ((0:Nat):Int)-1=-1 from rfl]<;>rfl)|rfl
open Go Go.Na
def rFr (o j l e or n s i:Nat):PF:=((((((PF.nil.set 8 (.int .u64 s)).set 9 (.osl o 1 0 j)).set 12 (.osl l 1 0 e)).set 19 (.osl or 1 0 n)).set 166 (.int .i64 n)).set 167 (.int .i64 i))
theorem aqG {x s:Nat} (e:s≤64):shift .shr .u64 (x:Int) (s:Int)=some (.int .u64 ((x/2 ^ s:Nat):Int)):=by
 unfold shift;rw[if_neg Om];simp only;have:min (Int.toNat (s:Int)) IntKind.u64.bits=s:=by rw[show IntKind.u64.bits=64 from rfl]; omega
 rw[this,Int.fdiv_eq_ediv_of_nonneg _ (by exact_mod_cast aAP _)]
 norm_cast
theorem Er {C:Ctx} (o w j lq n s:Nat) (U Q:List Nat) (hs:s<32) (h3:j≠o) (Z:Lim U) (hl:U.length=w) (hn:n<w) (ε:w≤10000) (K:cK) (F:PF)
  (f8:F 8=some (.int .u64 s)) (f9:F 9=some (.osl o 1 0 w)) (f11:F 11=some (.int .i64 n)) (ζ:F 12=some (.osl j 1 0 lq))
  (hK:∀ or F' H',or≠o→or≠j→(rFr o w j lq or n s n).le F'→H' j=some (.rows 1 (aH Q))→H' or=some (.rows 1 (aH (eA n (val U/2 ^ s))))→K .normal F' H') :
  aE.wp C (.seq (.region CE) (.seq (.region CF) (.block 6 (.loop BU)))) K F ((PH.nil.set o (.rows 1 (aH U))).set j (.rows 1 (aH Q))):=by
 have γ:((n:Nat):Int)*((4:Nat):Int)≤140737488355328:=Om;have δ:((n:Nat):Int)≤9223372036854775807:=Om;have hz:aAC n [PV.int .u32 0]=aH ([]++aAC n 0):=by simp[aH]
 simp only[go_sem,CE,f11,γ,δ,hz];refine aP fun or O=>?_;have n1:¬ or=j:=(iY.1 O).1;have n2:¬ or=o:=(iY.1 (iY.1 O).2).1;have A:¬ j=or:=fun h=>n1 h.symm;have B:¬ o=or:=fun h=>n2 h.symm;have n3:¬ j=o:=h3;have E:¬ o=j:=fun h=>n3 h.symm;simp only[go_sem,CF];refine wp_loop (α:=List Nat) (fun P=>rFr o w j lq or n s P.length) (fun P=>((PH.nil.set o (.rows 1 (aH U))).set j (.rows 1 (aH Q))).set or (.rows 1 (aH (P++aAC (n-P.length) 0)))) (fun P=>P.length≤n∧P=eA P.length (val U/2 ^ s)) (fun P=>n-P.length) []
  ⟨by simp,rfl⟩ ?_ ?_ ?_
 ·unfold rFr;exact Lq
 ·refine e_ (e_ (e_ a_ ?_) ?_) ?_<;>simp only[go_sem,n1,A,n2,B,n3,E,aCL]
 rintro P ⟨hP,hD⟩;simp only[go_sem,BU,RU,rFr];by_cases c1:P.length<n
 ·have u:(P.length:Int)<(n:Nat):=Om;obtain⟨k,hk⟩:∃ k,n-P.length=k+1:=⟨n-P.length-1,by omega⟩;have β:(aH (P++aAC (k+1) 0))[P.length]?=some [.int .u32 ((0:Nat):Int)]:=by rw[bL _ (by simp)]; simp
  have V:P.length<U.length:=Om;have a1:P.length+1<U.length:=Om;have b0:(P.length:Int)<(w:Nat):=Om;have b1:((P.length+1:Nat):Int)<(w:Nat):=Om;have η:=Z _ (aAG V);have θ:=Z _ (aAG a1);have e:val U/4294967296 ^ P.length=U[P.length]+4294967296*(U[P.length+1]+4294967296*val (U.drop (P.length+2))):=by rw[← uT Z Om,aCK V,aCK a1];rfl
  have N:=SL hs e;have g0:=bL U V;have g1:=bL U a1;generalize ι:U[P.length]=y at *
  generalize κ:U[P.length+1]=l at *
  have e1:IntKind.i64.wrap ((P.length:Int)+1)=((P.length+1:Nat):Int):=dN Om;have X:IntKind.u64.wrap ((y:Nat):Int)=((y:Nat):Int):=aZ Om;have Y:IntKind.u64.wrap ((l:Nat):Int)=((l:Nat):Int):=aZ Om;have J:shift .shl .u64 (l:Int) 32=some (.int .u64 ((2 ^ 32*l:Nat):Int)):=ID (s:=32) Om Om;have W:(2:Nat) ^ 32=4294967296:=by decide
  have I:=orI (a:=2 ^ 32*l) (b:=y) (n:=2 ^ 32*l+y) Om Om (Nat.two_pow_add_eq_or_of_lt Om l).symm Om;rw[W] at J I;have M:=aqG (x:=4294967296*l+y) (s:=s) Om;have S:(aH (P++aAC (k+1) 0)).set P.length [.int .u32 (((4294967296*l+y)/2 ^ s%4294967296:Nat):Int)]=aH ((P++[(4294967296*l+y)/2 ^ s%4294967296])++aAC k 0):=by rw[fS,yS]
  simp only[go_sem,u,RV];refine bN .nil dC a_ ?_;simp only[go_sem,RW,u,e1,b0,b1,B,E,g0,g1,X,Y,J,I,M,cI,hk,β,S];refine⟨a_,?_⟩;simp only[go_sem,RX,e1];refine aL (P++[(4294967296*l+y)/2 ^ s%4294967296]) ⟨by simp; omega,?_⟩ (by simp; omega) ?_ (e_ (e_ (e_ a_ ?_) ?_) ?_)
  ·rw[aAE,aAI,vY,← hD,N]
  ·rw[aAE,aAI];exact Lq
  ·simp only[go_sem,B,E]
  ·simp only[go_sem,A]
  ·rw[aAE,aAI,show n-(P.length+1)=k by omega];simp only[go_sem]
 ·have e:P.length=n:=Om;have u:¬ (P.length:Int)<(n:Nat):=Om;have R:aAC (n-P.length) 0=[]:=by rw[show n-P.length=0 by omega]; rfl
  rw[e] at hD;simp only[go_sem,u,R,aBU];refine hK or _ _ n2 n1 ?_ (by simp only[go_sem,A]) (by simp only[go_sem]; rw[← hD]);unfold rFr;rw[e];exact Lq
structure u9 (C:Ctx):Prop where
 L:qT C
 D:ud C
 up:∀ (a:List Nat) (s:Nat),Lim a→s<32→a.length≤1000→aG C 143 [aI a,.int .u64 s] .nil (upR a s)
 short:∀ (a:List Nat) (d:Nat),Lim a→0<d→d<4294967296→a.length≤1000→aG C 140 [aI a,.int .u32 d] .nil (aM (.tup [aI (aJ (val a/d)),.int .u32 ((val a%d:Nat):Int)]))
 lengthO:∀ (xs:List Nat) (o:Nat),Lim xs→xs.length≤35184372087808→aG C 138 [.osl o 1 0 xs.length] (PH.nil.set o (.rows 1 (aH xs))) (fun r H'=>r=.int .i64 (nl (val xs):Nat)∧H'=PH.nil.set o (.rows 1 (aH xs)))
def abN:Spec:=fun name vs=>match name,vs with
 | 143,[x,.int _ s]=>some ([],fun _=>upR (lS x) s.toNat)
 | 138,[.osl q _ _ _]=>some ([q],fun e r H'=>H'=e∧∀ xs,Lim xs→e q=some (.rows 1 (aH xs))→r=.int .i64 (nl (val xs):Nat))
 | _,_=>none
theorem Kt (a:List Nat) (s:Nat):abN 143 [aI a,.int .u64 s]=some ([],fun _=>upR a s):=by
 show some _=_; rw[fM,aDK]
theorem Im (a:List Nat) (s:Nat):∀ G:PH,∃ r H',upR a s r H'∧kJ G .nil H':=fun G=>by
 obtain⟨o,l⟩:=G.fresh;refine⟨_,_,⟨o,rfl,rfl⟩,fun q x j _=>?_⟩;rw[aQ] at j;split at j
 ·rename_i e; subst e; exact l
 ·cases j
theorem MU {xs e:List Nat} (h:aH xs=aH e):xs=e:=by
 have:=congrArg lS (show aI xs=aI e by show PV.sl 1 (aH xs)=PV.sl 1 (aH e); rw[h])
 rwa [fM,fM] at this
theorem qz (q:Nat) (L:List Nat):(PH.nil.set q (.rows 1 (aH L)))=(PH.nil.set q (.rows 1 (aH L)))∧∀ xs,Lim xs→(PH.nil.set q (.rows 1 (aH L))) q=some (.rows 1 (aH xs))→(PV.int .i64 (nl (val L):Nat))=.int .i64 (nl (val xs):Nat):=by
 refine⟨rfl,fun xs j e=>?_⟩;rw[cG] at e;have:aH L=aH xs:=(bF.rows.inj (aCI.inj e)).2;rw[MU this]
def qI (A B:Nat):PV:=.tup [aI (aJ (A/B)),aI (aJ (A%B))]
def Ui (a b:List Nat) (s:Nat):PF:=(((PF.nil.set 0 (aI a)).set 1 (aI b)).set 8 (.int .u64 s))
theorem anL {x s:Nat} (e:s≤31) (h:x*2 ^ s<4294967296):shift .shl .u32 (x:Int) (s:Int)=some (.int .u32 ((x*2 ^ s:Nat):Int)):=by
 unfold shift;rw[if_neg Om];simp only;have:min (Int.toNat (s:Int)) IntKind.u32.bits=s:=by rw[show IntKind.u32.bits=32 from rfl]; omega
 rw[this,show (x:Int)*2 ^ s=((x*2 ^ s:Nat):Int) by simp,cI,aBQ h]
theorem Jf {n i x:Nat} (e:(aAC n 0)[i]?=some x):x=0:=by
 have:=aCA e;rw[List.mem_replicate] at this;exact this.2
theorem Uk {C:Ctx} (K:u9 C) (A B:Nat) (hB:B≠0) (hA:nl A≤900) (k':nl B≤900) :
  zK.wp C (aT ji.res (cL (qI A B))) (PF.args [aI (aJ A),aI (aJ B)]) .nil:=by
 have LA:=bA A;have LB:=bA B;have vA:=aY A;have vB:=aY B;have lA:(aJ A).length=nl A:=rfl;have lB:(aJ B).length=nl B:=rfl;simp only[go_sem,zK,cn,cq,ji];refine aB (K.L.cmp _ _ LA LB Om Om) rfl ?_;rw[vA,vB];by_cases c1:A<B
 ·have hc:eN A B<0:=by simp[eN,c1]
  simp only[go_sem,hc,cu];refine aB (K.L.trim _ LA Om) rfl ?_;rw[vA];simp only[go_sem];refine aV (vs:=[.aA,aI (aJ A)]) (.inr rfl) .nil rfl a_ ⟨?_,rfl⟩;rw[qI,aDG c1,aBQ c1,gS];refine .tup rfl fun j p q hp hq=>?_
  match j with
  | 0=>simp at hp hq; subst hp; subst hq; exact .nil 1
  | 1=>simp at hp hq; subst hp; subst hq; exact .refl _
  | j+2=>simp at hp
 have hc:¬ eN A B<0:=by unfold eN;rw[if_neg c1];split<;>decide
 have W:0<B:=aCT hB;have n':nl B≠0:=fun h=>hB (lC.1 h);simp only[go_sem,hc,cv];by_cases c2:nl B=1
 ·have ε:B<4294967296:=by have:=(jF B 1).1 Om; simpa using this
  have Ψ:aJ B=[B]:=oN hB ε;have hr:A%B<B:=aBX _ W;have ew:IntKind.u64.wrap ((A%B:Nat):Int)=((A%B:Nat):Int):=aZ Om;rw[Ψ];have ρ:=K.short (aJ A) B LA W ε Om;rw[vA] at ρ;simp only[go_sem,show (((1:Nat):Int)==1)=true from rfl,cw];refine aB ρ rfl ?_;simp only[go_sem,cx,ew];refine aB (K.L.make (A%B) Om) rfl ?_;simp only[go_sem];exact aV (vs:=[aI (aJ (A/B)),aI (aJ (A%B))]) (.inr rfl) .nil rfl a_ ⟨.refl _,rfl⟩
 obtain⟨m,hm⟩:∃ m,nl B=m+2:=⟨nl B-2,by omega⟩;have j':nl B≤nl A:=jQ Om;obtain⟨bt,y,g'⟩:=G5 LB (n:=m+1) (by rw[vB]; exact hm);have O:m+1<(aJ B).length:=Om;have μ:bt<4294967296:=LB bt (aCA y);have l':B=val ((aJ B).take (m+1))+4294967296 ^ (m+1)*bt:=by have u:=bZ (aJ B) O;rw[aAQ Om,vB] at u;rw[aAH O] at y;rw[aCI.inj y] at u;exact u
 have X:=fG (LB.take (m+1));rw[aAN,aCF Om] at X;have ο:(aH (aJ B))[m+1]?=some [.int .u32 ((bt:Nat):Int)]:=by rw[bL _ O];rw[aAH O] at y;rw[aCI.inj y]
 have i1:IntKind.i64.wrap ((((aJ B).length:Nat):Int)-1)=((m+1:Nat):Int):=by rw[wrap_i64 Om Om]; omega
 have ν:¬ (((aJ B).length:Nat):Int)=1:=Om;simp only[go_sem,bC ν,cz];refine wp_loop (α:=Nat) (fun s=>Ui (aJ A) (aJ B) s) (fun _=>.nil) (fun s=>s≤31∧bt*2 ^ s<4294967296) (fun s=>32-s) 0 ⟨by omega,by simpa using μ⟩ ?_ a_ ?_
 ·unfold Ui;exact Lq
 rintro s ⟨hs,Ξ⟩;have χ:=anL hs Ξ;simp only[go_sem,ck,c7,Ui,i1,ο,χ];refine abH ?_ ?_
 ·intro c3;have φ:=of_decide_eq_true c3;have h':s<31:=by
   rcases aAV s 31 with h | h
   ·exact h
   ·exfalso;have u:2147483648≤2 ^ s:=Nat.pow_le_pow_right (show 0<2 by decide) h;have M:1*2 ^ s≤bt*2 ^ s:=aBC _ Om;omega
  have es:IntKind.u64.wrap ((s:Int)+1)=((s+1:Nat):Int):=by rw[wrap_u64 Om Om]; omega
  simp only[go_sem,c8,es];refine aL (s+1) ⟨by omega,by rw[aCD,← aAZ]; omega⟩ Om ?_ a_;exact Lq
 intro c3;have φ:=of_decide_eq_false c3;have F:s<32:=Om;have E:0<2 ^ s:=aDB (by decide);have V:2147483648*4294967296 ^ (m+1)≤B*2 ^ s:=by
  have u:2147483648*4294967296 ^ (m+1)≤(bt*2 ^ s)*4294967296 ^ (m+1):=aBC _ Om;have M:(4294967296 ^ (m+1)*bt)*2 ^ s≤B*2 ^ s:=aBC _ Om;have h3:(4294967296 ^ (m+1)*bt)*2 ^ s=(bt*2 ^ s)*4294967296 ^ (m+1):=by rw[aAZ,aBA]
  omega
 have κ:B*2 ^ s<4294967296 ^ (m+2):=by
  have h0:(bt+1)*2 ^ s≤4294967296:=by
   have i':(4294967296:Nat)=2 ^ (32-s)*2 ^ s:=by rw[← Nat.pow_add,show 32-s+s=32 by omega]
   have:bt<2 ^ (32-s):=by
    rcases aAV bt (2 ^ (32-s)) with h | h
    ·exact h
    ·have:=aBC (2 ^ s) h;omega
   have:=aBC (2 ^ s) (show bt+1≤2 ^ (32-s) from this);omega
  have u:B<(bt+1)*4294967296 ^ (m+1):=by rw[aBI,Nat.one_mul,aBA bt]; omega
  have M:B*2 ^ s<(bt+1)*4294967296 ^ (m+1)*2 ^ s:=Nat.mul_lt_mul_of_pos_right u E;have h3:(bt+1)*4294967296 ^ (m+1)*2 ^ s=(bt+1)*2 ^ s*4294967296 ^ (m+1):=Nat.mul_right_comm _ _ _;have h4:(bt+1)*2 ^ s*4294967296 ^ (m+1)≤4294967296*4294967296 ^ (m+1):=aBC _ h0;have h5:4294967296 ^ (m+2)=4294967296*4294967296 ^ (m+1):=by rw[aCD,aBA]
  omega
 have U:A<4294967296 ^ nl A:=(jF A _).1 (aAF _);simp only[go_sem];refine bN .nil abN a_ ?_;simp only[go_sem,RL];have ua:=K.up (aJ A) s LA F Om;have ub:=K.up (aJ B) s LB F Om;refine Ks (Kt (aJ A) s) ua rfl (Im _ _) ?_;rintro r H' ⟨o,rfl,rfl⟩ -;rw[PH.nL,lA,vA];refine⟨a_,?_⟩;simp only[go_sem];refine Ks (Kt (aJ B) s) ub rfl (Im _ _) ?_;rintro r H' ⟨o2,rfl,rfl⟩ Λ;rw[PH.nL,lB,vB,hm];refine⟨a_,?_⟩;have Φ:=Λ o2 _ (by rw[aQ,if_pos rfl]) (by rfl);have τ:¬ o2=o:=(iY.1 Φ).1;have e':¬ o=o2:=fun h=>τ h.symm;have k1:((m+2:Nat):Int)≤((m+2+1:Nat):Int):=Om;have k2:IntKind.i64.wrap (((nl A+1:Nat):Int)-((m+2:Nat):Int))=((nl A+1-(m+2):Nat):Int):=by rw[wrap_i64 Om Om]; omega
 obtain⟨e,Ω⟩:∃ e,nl A+1-(m+2)=e:=⟨_,rfl⟩;have a':nl A+1=e+(m+2):=Om;rw[Ω] at k2;have k3:((e:Nat):Int)*((4:Nat):Int)≤140737488355328:=Om;have k4:((e:Nat):Int)≤9223372036854775807:=Om;have hz:aAC e [PV.int .u32 0]=aH (aAC e 0):=by simp[aH]
 have k5:m+2-0=m+2:=Om;simp only[go_sem,lB,hm,k1,k5,RM,RN,k2,k3,k4,hz];refine aP fun J ξ=>?_;have q2:¬ J=o2:=(iY.1 ξ).1;have q1:¬ J=o:=(iY.1 (iY.1 ξ).2).1;have υ:¬ o2=J:=fun h=>q2 h.symm;have f':¬ o=J:=fun h=>q1 h.symm;have b':eA (m+2+1) (B*2 ^ s)=eA (m+2) (B*2 ^ s)++[B*2 ^ s/4294967296 ^ (m+2)%4294967296]:=vY _ _;have Lv:=nA (m+2) (B*2 ^ s);have lv:=lT (m+2) (B*2 ^ s);have vv:val (eA (m+2) (B*2 ^ s))=B*2 ^ s:=oU κ;have σ:(aH (eA (m+2+1) (B*2 ^ s))).take (m+2)=aH (eA (m+2) (B*2 ^ s)):=by unfold aH;rw[← List.map_take,b',List.take_append_of_le_length Om,aAQ Om]
 generalize q':eA (m+2) (B*2 ^ s)=v at *
 have r':(eA (m+2+1) (B*2 ^ s)).length=m+2+1:=lT _ _;have S:∀ i (h:i<v.length),(aH (eA (m+2+1) (B*2 ^ s)))[i]?=some [.int .u32 ((v[i]:Nat):Int)]:=by intro i h;have u:(aH v)[i]?=some [.int .u32 ((v[i]:Nat):Int)]:=bL v h;rw[← σ,List.getElem?_take_of_lt Om] at u;exact u
 have g1:=S (m+1) Om;have g0:=S m Om;have htop:2147483648≤v[m+1]:=by
  have u:=bZ v (Om:m+1<v.length);rw[aAQ Om,vv] at u;have M:=fG (Lv.take (m+1));rw[aAN,aCF Om] at M;rcases aAV v[m+1] 2147483648 with h | h
  ·exfalso;have h3:4294967296 ^ (m+1)*(v[m+1]+1)≤4294967296 ^ (m+1)*2147483648:=aCR _ h;rw[aAM,Nat.mul_one] at h3;rw[aBA 2147483648] at V;omega
  ·exact h
 have p':=Lv _ (aAG (Om:m+1<v.length));have o':=Lv _ (aAG (Om:m<v.length));have w1:IntKind.u64.wrap ((v[m+1]:Nat):Int)=((v[m+1]:Nat):Int):=aZ Om;have w0:IntKind.u64.wrap ((v[m]:Nat):Int)=((v[m]:Nat):Int):=aZ Om;have j1:IntKind.i64.wrap (((m+2:Nat):Int)-1)=((m+1:Nat):Int):=by rw[wrap_i64 Om Om]; omega
 have j0:IntKind.i64.wrap (((m+2:Nat):Int)-2)=((m:Nat):Int):=by rw[wrap_i64 Om Om]; omega
 have d1:((m+1:Nat):Int)<((m+2:Nat):Int):=Om;have d0:((m:Nat):Int)<((m+2:Nat):Int):=Om;have jq:IntKind.i64.wrap ((e:Int)-1)=(e:Int)-1:=wrap_i64 Om Om;simp only[go_sem];refine bN .nil dC a_ ?_;simp only[go_sem,RO,j1,j0,d1,d0,υ,g1,g0,w1,w0,RP,jq];have ι:A*2 ^ s<4294967296 ^ (nl A+1):=by
  have h0:2 ^ s≤4294967296:=by have:(2:Nat) ^ s≤2 ^ 32:=Nat.pow_le_pow_right (by decide) Om;simpa using this
  have u:A*2 ^ s<4294967296 ^ nl A*2 ^ s:=Nat.mul_lt_mul_of_pos_right U E;have M:4294967296 ^ nl A*2 ^ s≤4294967296 ^ nl A*4294967296:=aCR _ h0;rw[aCD]; omega
 have LU:=nA (nl A+1) (A*2 ^ s);have lU:=lT (nl A+1) (A*2 ^ s);have vU:val (eA (nl A+1) (A*2 ^ s))=A*2 ^ s:=oU ι;have hI:pC (A*2 ^ s) (val v) (m+2) (nl A+1) e e (eA (nl A+1) (A*2 ^ s)) (aAC e 0):=by
  refine⟨lU,aEA,LU,wE _,by rw[vU,sC]; omega,?_,fun i x _ hx=>Jf hx⟩
  ·rw[uT LU Om,vU,vv,aDI (aDB (by decide))];have u:A*2 ^ s<4294967296 ^ nl A*2 ^ s:=Nat.mul_lt_mul_of_pos_right U E;have hx:nl A=m+1+e:=Om;have M:4294967296 ^ nl A=4294967296 ^ (m+1)*4294967296 ^ e:=by rw[hx,Nat.pow_add]
   have h3:2 ^ s≤2147483648:=by have:(2:Nat) ^ s≤2 ^ 31:=Nat.pow_le_pow_right (by decide) hs;simpa using this
   have h4:4294967296 ^ nl A*2 ^ s≤(2147483648*4294967296 ^ (m+1))*4294967296 ^ e:=by rw[M,aBA (4294967296 ^ (m+1)*4294967296 ^ e),← aAZ];exact aBC _ (aBC _ h3)
   have h5:(2147483648*4294967296 ^ (m+1))*4294967296 ^ e≤B*2 ^ s*4294967296 ^ e:=aBC _ V;omega
 have β:=Ep (C:=C) K.D (A*2 ^ s) m (nl A+1) e o o2 J s v (eA (m+2+1) (B*2 ^ s)) τ q1 q2 Lv lv σ Om htop a' Om _ hI;simp only[go_sem] at β;refine β _ _ _ ?_ (by simp only[go_sem,e',f']) (by simp only[go_sem,υ]) Sq ?_
 ·unfold dI;exact Lq
 clear β;intro U' w F' l N;have hu:val U'<val v:=by have:=l.r; rwa [aBM] at this
 have Z:=l.v;rw[vv] at hu Z;have Θ:0<B*2 ^ s:=Om;have Γ:val w=A/B:=by
  have:A*2 ^ s/(B*2 ^ s)=val w:=by rw[← Z,Nat.add_mul_div_right _ _ Θ,aDG hu,aAX]
  rw[← this,Nat.mul_div_mul_right _ _ E]
 have Δ:val U'/2 ^ s=A%B:=by
  have:A*2 ^ s%(B*2 ^ s)=val U':=by rw[← Z,Nat.add_mul_mod_self_right,aBQ hu]
  rw[← this,Nat.mul_mod_mul_right,Nat.mul_div_cancel _ E]
 have g8:=N 8 _ (by unfold dI; simp only[go_sem]; rfl);have g9:=N 9 _ (by unfold dI; simp only[go_sem]; rfl);have ψ:=N 11 _ (by unfold dI; simp only[go_sem]; rfl);have ω:=N 12 _ (by unfold dI; simp only[go_sem]; rfl);have I:=Er (C:=C) o (nl A+1) J e (m+2) s U' w F q1 l.limU l.lu' Om Om;simp only[go_sem] at I;simp only[go_sem];refine I _ _ g8 g9 ψ ω ?_;clear I;intro or F2 H2 r1 r2 ζ η Y;rw[Δ] at Y;have c':=ζ 12 _ (by unfold rFr; simp only[go_sem]; rfl);have d':=ζ 19 _ (by unfold rFr; simp only[go_sem]; rfl);have θ:A%B<4294967296 ^ (m+2):=by have u:A%B<B:=aBX _ W;have M:B<4294967296 ^ nl B:=(jF B _).1 (aAF _);rw[hm] at M; omega
 have LR:=nA (m+2) (A%B);have lR:=lT (m+2) (A%B);have vR:val (eA (m+2) (A%B))=A%B:=oU θ;have nQ:=fR l.limQ;have nR:=fR LR;have e1:=l.lq';generalize m':eA (m+2) (A%B)=R at *
 simp only[go_sem];refine bN .nil abN a_ ?_;simp only[go_sem,RY,c'];have γ:=K.lengthO w J l.limQ Om;rw[e1] at γ;have δ:=K.lengthO R or LR Om;rw[lR] at δ;refine ER (o:=J) (x:=.rows 1 (aH w)) (v:=.int .i64 (nl (val w):Nat)) rfl η γ (qz J w) (fun r H' hr=>⟨hr.2 w l.limQ (by rw[cG]),hr.1⟩) rfl a_ ?_;have c4:((nl (val w):Nat):Int)≤(e:Nat):=Om;simp only[go_sem,c4,d',Nat.sub_zero];refine ER (o:=or) (x:=.rows 1 (aH R)) (v:=.int .i64 (nl (val R):Nat)) rfl Y δ (qz or R) (fun r H' hr=>⟨hr.2 R LR (by rw[cG]),hr.1⟩) rfl a_ ?_;have c5:((nl (val R):Nat):Int)≤((m+2:Nat):Int):=Om;simp only[go_sem,c5];refine Zk (o1:=J) (o2:=or) (s1:=1) (s2:=1) (k1:=nl (val w)) (k2:=nl (val R)) (rs1:=aH w) (rs2:=aH R) (.inr rfl) (fun h=>r2 h.symm) rfl rfl η Y (by rw[bV]; exact nQ) (by rw[bV]; exact nR) (rS _ _ _ _) rfl ⟨?_,rfl⟩;have t1:(aH w).take (nl (val w))=aH (aJ (A/B)):=by have:=jI l.limQ;rw[Γ] at this ⊢;exact this
 have t2:(aH R).take (nl (val R))=aH (aJ (A%B)):=by have:=jI LR;rw[vR] at this ⊢;exact this
 rw[t1,t2];exact .refl _
def acQ (a b:Nat):PF:=((PF.nil.set 0 (aI (aJ a))).set 1 (aI (aJ b)))
theorem amU {C:Ctx} (L:qT C) (e:∀ A B:Nat,B≠0→nl A≤900→nl B≤900→aG C 136 [aI (aJ A),aI (aJ B)] .nil (aM (qI A B))) (a b:List Nat) (E:Lim a) (hb:Lim b) (I:a.length≤35184372087808) (J:b.length≤35184372087808) :
  MR.wp C (aT afG.res (cL (if fI (val a) (val b) then .tup [aI [],.int .i64 2] else .tup [aI (aJ (aAD (val a) (val b))),.int .i64 0]))) (PF.args [aI a,aI b]) .nil:=by
 simp only[go_sem,MR,P2,P3,afG];refine aB (L.large a E I) rfl ?_;by_cases j:nl (val a)>512
 ·simp only[go_sem,j,jn];rw[if_pos (by simp[fI,j])];exact kG rfl
 simp only[go_sem,j];refine aB (L.large b hb J) rfl ?_;by_cases l:nl (val b)>512
 ·simp only[go_sem,l,jn];rw[if_pos (by simp[fI,l])];exact kG rfl
 rw[if_neg (by simp[fI,j,l])];simp only[go_sem,l,P4];refine aB (L.trim a E I) rfl ?_;simp only[go_sem];refine aB (L.trim b hb J) rfl ?_;simp only[go_sem];refine wp_loop (α:=Nat × Nat) (fun t=>acQ t.1 t.2) (fun _=>.nil) (fun t=>aAD t.1 t.2=aAD (val a) (val b)∧nl t.1≤512∧nl t.2≤512) (fun t=>t.2) (val a,val b) ⟨rfl,by simp only; omega,by simp only; omega⟩ ?_ a_ ?_
 ·unfold acQ;exact Lq
 rintro⟨x,y⟩ ⟨w,K,F⟩;simp only at w K F;simp only[go_sem,P1,P5,acQ,bH];by_cases u:y=0
 ·subst u;have:¬ ((nl 0:Nat):Int)>0:=by rw[yQ]; decide
  simp only[go_sem,this,P8];refine aV (vs:=[aI (aJ x),.int .i64 0]) (.inr rfl) .nil rfl a_ ⟨?_,rfl⟩;rw[← w,Nat.gcd_zero_right];exact .refl _
 ·have M:nl y≠0:=fun h=>u (lC.1 h);have:((nl y:Nat):Int)>0:=Om;simp only[go_sem,this,P6];refine aB (e x y u Om Om) rfl ?_;simp only[go_sem,qI,P7];have hlt:x%y<y:=aBX _ (aCT u);refine aL (y,x%y) ⟨?_,F,?_⟩ hlt ?_ a_
  ·simp only;rw[← w,Nat.gcd_comm y,← Nat.gcd_rec y x,Nat.gcd_comm]
  ·have:=jQ (Nat.le_of_lt hlt);simp only; omega
  ·exact Lq
def nB (A B:Nat):PV:=if fI A B then .tup [aI [],aI [],.int .i64 2] else if B=0 then .tup [aI [],aI [],.int .i64 3] else .tup [aI (aJ (A/B)),aI (aJ (A%B)),.int .i64 0]
def Uj:Spec:=fun name vs=>match name,vs with
 | 138,[x]=>some ([],fun _=>aM (.int .i64 (nl (val (lS x)):Nat)))
 | 136,[x,y]=>some ([],fun _=>aM (qI (val (lS x)) (val (lS y))))
 | _,_=>none
theorem MM (xs:List Nat):Uj 138 [aI xs]=some ([],fun _=>aM (.int .i64 (nl (val xs):Nat))):=by
 show some _=_; rw[fM]
theorem Eo (A B:Nat):Uj 136 [aI (aJ A),aI (aJ B)]=some ([],fun _=>aM (qI A B)):=by
 show some _=_; rw[fM,fM,aY,aY]
theorem rV {res:List dT} {F:PF} {H:PH} {e:Int} (h:dT.evs F H res=some [.aA,.aA,.int .i64 e]):aT res (cL (.tup [aI [],aI [],.int .i64 e])) .ret F H:=by
 refine aV (.inr rfl) .nil h a_ ⟨?_,rfl⟩;refine .tup rfl fun j p q l hq=>?_
 match j with
 | 0=>simp at l hq; subst l; subst hq; exact .nil 1
 | 1=>simp at l hq; subst l; subst hq; exact .nil 1
 | 2=>simp at l hq; subst l; subst hq; exact .refl _
 | j+3=>simp at l
theorem amL {C:Ctx} (L:qT C) (l:∀ A B:Nat,B≠0→nl A≤900→nl B≤900→aG C 136 [aI (aJ A),aI (aJ B)] .nil (aM (qI A B))) (a b:List Nat) (w:Lim a) (hb:Lim b) (F:a.length≤35184372087808) (E:b.length≤35184372087808) :
  MN.wp C (aT afC.res (cL (nB (val a) (val b)))) (PF.args [aI a,aI b]) .nil:=by
 simp only[go_sem,MN,Po,Pp,afC];refine aB (L.large a w F) rfl ?_;by_cases e:nl (val a)>512
 ·simp only[go_sem,e,jh];rw[show nB (val a) (val b)=.tup [aI [],aI [],.int .i64 2] by simp[nB,fI,e]];exact rV rfl
 simp only[go_sem,e];refine aB (L.large b hb E) rfl ?_;by_cases u:nl (val b)>512
 ·simp only[go_sem,u,jh];rw[show nB (val a) (val b)=.tup [aI [],aI [],.int .i64 2] by simp[nB,fI,u]];exact rV rfl
 simp only[go_sem,u,Pq];refine aB (L.length b hb E) rfl ?_;by_cases j:val b=0
 ·have:((nl (val b):Nat):Int)=0:=by rw[j,yQ]; rfl
  simp only[go_sem,bO this,Ps];rw[show nB (val a) (val b)=.tup [aI [],aI [],.int .i64 3] by simp[nB,fI,e,j,yQ]];exact rV rfl
 have I:nl (val b)≠0:=fun h=>j (lC.1 h);rw[show nB (val a) (val b)=.tup [aI (aJ (val a/val b)),aI (aJ (val a%val b)),.int .i64 0] by simp[nB,fI,e,u,j]];simp only[go_sem,bC (show ((nl (val b):Nat):Int)≠0 by omega)];refine bN .nil Uj a_ ?_;simp only[go_sem,Pt];have J:=fR w;have K:=fR hb;have x:((nl (val a):Nat):Int)≤(a.length:Nat):=Om;have y:((nl (val b):Nat):Int)≤(b.length:Nat):=Om;refine dL (MM a) (L.length a w F) rfl a_ ?_;simp only[go_sem,x,or_true,aBM,jI w];refine dL (MM b) (L.length b hb E) rfl a_ ?_;simp only[go_sem,y,or_true,aBM,jI hb];refine dL (Eo (val a) (val b)) (l _ _ j Om Om) rfl a_ ?_;simp only[go_sem,qI,Pu];exact aV (.inr rfl) .nil rfl a_ ⟨.refl _,rfl⟩
def YY:Rg:=[iA 6 (.alloc [zB,.aA,.aA]),iI 7 0]
def YZ:Rg:=[iM 11 1,iM 12 2,iK2 13 131 11 12,iM 10 13,iE 14 10 0,iE 15 10 1,iM 8 14,iM 9 15]
def ZA:Rg:=[iM 16 8,iK 17 128 16,iC 18 .gtr 17 1]
def ZB:Rg:=[iM 20 1,iM 21 8,iK2 22 130 20 21,iM 19 22,iE 23 19 0,iE 24 19 1,iE 25 19 2,iM 1 23]
def ZC:Rg:=[iM 27 2,iM 28 8,iK2 29 130 27 28,iM 26 29,iE 30 26 0,iE 31 26 1,iE 32 26 2,iM 2 30]
def EZ:Rg:=[iM 33 1,iK 34 128 33,iC 35 .gtr 34 4096,iM 36 35,gM 37 2 36 false,gK 38 128 37 36 false,gC 39 .gtr 38 4096 36 false,iQ 40 36 39]
def wY:Rg:=[iA 41 (.build [zB,.aA,.aA] []),iS 3 6 41,iI 7 2]
def FA:Rg:=[iM 42 0,iM 43 42,gM 44 1 43 true,gK 45 128 44 43 true,gC 46 .gtr 45 0 43 true,iP 47 43 46,iM 48 1,iK 49 135 48,iM 50 2,iK 51 135 50,iA 52 (.build [zB,.aA,.aA] [(0,1,(Tm 47)),(1,1,(Tm 49)),(2,1,(Tm 51))]),iS 3 6 52,iI 7 0]
def yZ:aE:=(sq YY (.seq (sq YZ (sq ZA (.cond (Tm 18) (sq ZB (.region ZC)) .skip))) (.seq (sq EZ (.cond (Tm 40) (sq wY .ret) .skip)) (sq FA .ret))))
def S0:List Nat:=[]
def uA:bB:=⟨3,53,yZ,[.cell 6 (some 3),.tmp 7]⟩
def l3:Rg:=[iZ 4]
def l4:Rg:=[iM 8 0,iM 9 1,iK2 10 133 8 9,iM 7 10,iE 11 7 0,iE 12 7 1,iM 5 11,iM 6 12]
def l5:Rg:=[iM 13 5,iM 4 13]
def BI:aE:=(sq l3 (sq l4 (sq l5 .ret)))
def Xk:List Nat:=[]
def x9:bB:=⟨2,14,BI,[.tmp 4]⟩
def yw:Rg:=[iA 1 (.box true (Tm 0)),iT 2 false]
def yx:Rg:=[iF 3 1 1,iL 4 3,iK 5 128 4,iC 6 .eql 5 0,iM 2 6]
def FI:aE:=(sq yw (sq yx .ret))
def acJ:List Nat:=[1]
def S9:bB:=⟨1,7,FI,[.tmp 2]⟩
def xa:Rg:=[iA 4 (.alloc [zB,.aA,.aA]),iI 5 0]
def xb:Rg:=[iM 6 1,iC 7 .eql 6 0]
def xc:Rg:=[iA 8 (.build [zB,.aA,.aA] []),iS 3 4 8,iI 5 3]
def xd:Rg:=[iM 9 0,iC 10 .lss 9 0,iM 11 1,iC 12 .lss 11 0,iA 13 (.eqb true (Tm 10) (Tm 12)),iM 14 0,iK 15 119 14,iM 16 1,iK 17 119 16,iA 18 (.call 120 [(Tm 13),(Tm 15),(Tm 17)]),iE 19 18 0,iE 20 18 1,iS 3 4 19,iM 5 20]
def FB:aE:=(sq xa (.seq (sq xb (.cond (Tm 7) (sq xc .ret) .skip)) (sq xd .ret)))
def acB:List Nat:=[]
def ui:bB:=⟨2,21,FB,[.cell 4 (some 3),.tmp 5]⟩
def Kx:Rg:=[iZ 2]
def Ky:Rg:=[iM 3 0,iC 4 .lss 3 0]
def Kz:Rg:=[iM 5 0,iA 6 (.conv .u64 (Tm 5)),iA 7 (.un .neg (Tm 6)),iK 8 132 7,iM 2 8]
def K0:Rg:=[iM 9 0,iA 10 (.conv .u64 (Tm 9)),iK 11 132 10,iM 2 11]
def KT:aE:=(sq Kx (.seq (sq Ky (.cond (Tm 4) (sq Kz .ret) .skip)) (sq K0 .ret)))
def ajT:List Nat:=[]
def abU:bB:=⟨1,12,KT,[.tmp 2]⟩
def l6:Rg:=[iA 1 (.box true (Tm 0)),iT 2 false]
def l7:Rg:=[iF 4 2 1,iL 5 4,iK 6 128 5,iM 3 6]
def AB:Rg:=[iM 7 3,iC 8 .gtr 7 0,iM 9 8,gM 10 3 9 true,gC 11 .leq 10 4096 9 true,iP 12 9 11,iM 13 12,gF 14 1 1 13 true,gL 15 14 13 true,gK 16 128 15 13 true,gC 17 .leq 16 4096 13 true,iP 18 13 17,iM 2 18]
def BJ:aE:=(sq l6 (sq l7 (sq AB .ret)))
def Xm:List Nat:=[1]
def ya:bB:=⟨1,19,BJ,[.tmp 2]⟩
def ZJ:Rg:=[iA 1 (.box true (Tm 0)),iA 2 (.alloc [zB,.aA,.aA]),iI 3 0]
def ZK:Rg:=[iO 4 3 1,iK 5 118 4,iA 6 (.un .not (Tm 5))]
def ZL:Rg:=[iA 7 (.build [zB,.aA,.aA] []),iS 3 2 7,iI 3 1]
def ZM:Rg:=[iF 8 0 1,iL 9 8,iF 10 1 1,iL 11 10,iF 12 2 1,iL 13 12,iA 14 (.call 120 [(Tm 9),(Tm 11),(Tm 13)]),iE 15 14 0,iE 16 14 1,iS 3 2 15,iM 3 16]
def zA:aE:=(sq ZJ (.seq (sq ZK (.cond (Tm 6) (sq ZL .ret) .skip)) (sq ZM .ret)))
def S6:List Nat:=[1]
def PR:bB:=⟨1,17,zA,[.cell 2 (some 3),.tmp 3]⟩
def Ll:Rg:=[iA 2 (.box true (Tm 0)),iA 3 (.box true (Tm 1)),iI 4 0,iI 5 0]
def Lm:Rg:=[iO 9 3 2,iK 10 118 9,iA 11 (.un .not (Tm 10)),iM 12 11,gO 13 3 3 12 false,gK 14 118 13 12 false,iG 15 (.un .not (Tm 14)) 12 false,iQ 16 12 15]
def ia:Rg:=[iI 4 0,iI 5 1]
def Ln:Rd:=[(iF 17 1 2,false),(iL 18 17,false),(iF 19 2 3,false),(iL 20 19,false),(iK2 21 121 18 20,true),(iF 22 1 3,true),(iL 23 22,true),(iF 24 2 2,true),(iL 25 24,true),(iK2 26 121 23 25,true),(iK2 27 129 21 26,true),(iM 6 27,false)]
def Lo:Rd:=[(iF 28 0 2,false),(iL 29 28,false),(iM 30 29,false),(gO 31 3 2 30 true,false),(gK 32 122 31 30 true,true),(iG 33 (.un .not (Tm 32)) 30 true,true),(iP 34 30 33,true),(iF 35 0 3,true),(iL 36 35,true),(iM 37 36,false),(gO 38 3 3 37 true,false),(gK 39 122 38 37 true,true),(iG 40 (.un .not (Tm 39)) 37 true,false),(iP 41 37 40,false),(iM 7 34,false),(iM 8 41,false)]
def yI:Rg:=[iM 43 7,iM 44 43,gM 45 8 44 true,iP 46 44 45,iM 42 46]
def ib:Rg:=[iM 47 6,iA 48 (.un .neg (Tm 47)),iM 4 48,iI 5 0]
def DQ:Rg:=[iM 50 7,iM 49 50]
def ic:Rg:=[iI 4 (-1),iI 5 0]
def PP:Rg:=[iM 52 8,iM 51 52]
def TM:Rg:=[iI 4 1,iI 5 0]
def TN:Rg:=[iM 53 6,iM 4 53,iI 5 0]
def KW:aE:=(sq Ll (.seq (sq Lm (.cond (Tm 16) (sq ia .ret) .skip)) (dq Ln (dq Lo (.seq (.block 0 (sq yI (.cond (Tm 42) (sq ib .ret) (sq DQ (.cond (Tm 49) (sq ic .ret) (sq PP (.cond (Tm 51) (sq TM .ret) .skip))))))) (sq TN .ret))))))
def ajZ:List Nat:=[2,3]
def abW:bB:=⟨2,54,KW,[.tmp 4,.tmp 5]⟩
def K3:Rg:=[iA 2 (.box true (Tm 0)),iA 3 (.box true (Tm 1)),iA 4 (.alloc [zB,.aA,.aA]),iI 5 0]
def K4:Rg:=[iO 15 3 2,iK 16 118 15,iA 17 (.un .not (Tm 16)),iM 18 17,gO 19 3 3 18 false,gK 20 118 19 18 false,iG 21 (.un .not (Tm 20)) 18 false,iQ 22 18 21]
def gz:Rg:=[iA 23 (.build [zB,.aA,.aA] []),iS 3 4 23,iI 5 1]
def K5:Rd:=[(iF 24 1 2,false),(iL 25 24,false),(iF 26 2 3,false),(iL 27 26,false),(iK2 28 121 25 27,true),(iF 29 1 3,true),(iL 30 29,true),(iF 31 2 2,true),(iL 32 31,true),(iK2 33 121 30 32,true),(iF 34 2 2,true),(iL 35 34,true),(iF 36 2 3,true),(iL 37 36,true),(iK2 38 121 35 37,true),(iM 6 28,false),(iM 7 33,false),(iM 8 38,false)]
def K6:Rg:=[iF 39 0 2,iL 40 39,iF 41 0 3,iL 42 41,iA 43 (.eqb false (Tm 40) (Tm 42))]
def K7:Rg:=[iM 45 6,iM 46 7,iK2 47 127 45 46,iM 44 47,iE 48 44 0,iE 49 44 1,iM 9 48,iM 10 49]
def K8:Rg:=[iF 50 0 2,iL 51 50,iM 52 9,iM 53 8,iA 54 (.call 120 [(Tm 51),(Tm 52),(Tm 53)]),iE 55 54 0,iE 56 54 1,iS 3 4 55,iM 5 56]
def K9:Rg:=[iM 57 6,iM 58 7,iK2 59 129 57 58,iC 60 .geq 59 0]
def La:Rg:=[iM 62 6,iM 63 7,iK2 64 134 62 63,iM 61 64,iE 65 61 0,iE 66 61 1,iM 11 65,iM 12 66]
def Lc:Rg:=[iF 67 0 2,iL 68 67,iM 69 11,iM 70 8,iA 71 (.call 120 [(Tm 68),(Tm 69),(Tm 70)]),iE 72 71 0,iE 73 71 1,iS 3 4 72,iM 5 73]
def wi:Rg:=[iM 75 7,iM 76 6,iK2 77 134 75 76,iM 74 77,iE 78 74 0,iE 79 74 1,iM 13 78,iM 14 79]
def wj:Rg:=[iF 80 0 3,iL 81 80,iM 82 13,iM 83 8,iA 84 (.call 120 [(Tm 81),(Tm 82),(Tm 83)]),iE 85 84 0,iE 86 84 1,iS 3 4 85,iM 5 86]
def KU:aE:=(sq K3 (.seq (sq K4 (.cond (Tm 22) (sq gz .ret) .skip)) (dq K5 (.seq (sq K6 (.cond (Tm 43) (sq K7 (sq K8 .ret)) .skip)) (.seq (sq K9 (.cond (Tm 60) (sq La (sq Lc .ret)) .skip)) (sq wi (sq wj .ret)))))))
def ajV:List Nat:=[2,3]
def gy:bB:=⟨2,87,KU,[.cell 4 (some 3),.tmp 5]⟩
def Md:Rg:=[iA 2 (.alloc [zB,.aA,.aA]),iI 3 0]
def Me:Rg:=[iA 9 (.call 132 [(.const (.int .u64 1))]),iA 10 (.build [zB,.aA,.aA] [(2,1,(Tm 9))]),iA 4 (.alloc [zB,.aA,.aA]),iS 3 4 10]
def Mf:Rg:=[iM 11 0,iN 12 11,iI 13 0]
def Mg:Rg:=[iB 14 .lss 13 12]
def Mh:Rg:=[iX 15 3 11 13,iO 16 3 15,iA 6 (.alloc [zB,.aA,.aA]),iS 3 6 16]
def Mi:Rg:=[iO 18 3 4,iO 19 3 6,iK2 20 113 18 19,iM 17 20,iE 21 17 0,iE 22 17 1,iA 7 (.alloc [zB,.aA,.aA]),iS 3 7 21,iM 8 22]
def ij:Rg:=[iM 23 8,iC 24 .neq 23 0]
def Mj:Rg:=[iA 25 (.build [zB,.aA,.aA] []),iM 26 8,iS 3 2 25,iM 3 26]
def Mk:Rg:=[iO 27 3 7,iS 3 4 27]
def Ml:Rg:=[iC 28 .add 13 1,iM 13 28]
def x8:aE:=(sq Mg (.seq (.cond (Tm 14) .skip (.exit 0)) (.seq (.block 1 (sq Mh (sq Mi (.seq (sq ij (.cond (Tm 24) (sq Mj .ret) .skip)) (.region Mk))))) (.region Ml))))
def UA:Rg:=[iO 29 3 4,iS 3 2 29,iI 3 0]
def LH:aE:=(sq Md (sq Me (.seq (sq Mf (.block 0 (.loop x8))) (sq UA .ret))))
def akK:List Nat:=[]
def x7:bB:=⟨1,30,LH,[.cell 2 (some 3),.tmp 3]⟩
theorem CoL.nil:CoL [] []:=.refl _
theorem CoL.cons {p q:PV} {ps u:List PV} (h:Co p q) (l:CoL ps u):CoL (p::ps) (q::u) :=
 ⟨by simp[l.len],fun j a b e hb=>by
  cases j with
  | zero=>simp at e hb; subst e; subst hb; exact h
  | succ j=>exact l.at_ j a b (by simpa using e) (by simpa using hb)⟩
theorem CoL.agg {ps e:List PV} (h:CoL ps e):Co (.agg ps) (.agg e):=.agg h.len h.at_
theorem CoL.tup {ps e:List PV} (h:CoL ps e):Co (.tup ps) (.tup e):=.tup h.len h.at_
structure sM (C:Ctx):Prop extends qT C where
 bits:∀ xs,Lim xs→xs.length≤35184372087808→aG C 128 [aI xs] .nil (aM (.int .i64 (cN (val xs):Nat)))
 add:∀ xs ys,Lim xs→Lim ys→xs.length≤35184372087808→ys.length≤35184372087808→aG C 127 [aI xs,aI ys] .nil (aM (opV (fI (val xs) (val ys)) (val xs+val ys)))
 sub:∀ xs ys,Lim xs→Lim ys→xs.length≤35184372087808→ys.length≤35184372087808→aG C 134 [aI xs,aI ys] .nil (aM (wV (val xs) (val ys)))
 mul:∀ xs ys,Lim xs→Lim ys→xs.length≤35184372087808→ys.length≤35184372087808→aG C 133 [aI xs,aI ys] .nil (aM (opV (fI (val xs) (val ys)) (val xs*val ys)))
 gcd:∀ xs ys,Lim xs→Lim ys→xs.length≤35184372087808→ys.length≤35184372087808→aG C 131 [aI xs,aI ys] .nil (aM (if fI (val xs) (val ys) then .tup [aI [],.int .i64 2] else .tup [aI (aJ (aAD (val xs) (val ys))),.int .i64 0]))
 div:∀ xs ys,Lim xs→Lim ys→xs.length≤35184372087808→ys.length≤35184372087808→aG C 130 [aI xs,aI ys] .nil (aM (nB (val xs) (val ys)))
theorem kY {a b:Nat} (e:nl a≤512) (hb:nl b≤512):fI a b=false:=by
 simp[fI]; omega
theorem wH {a b m n:Nat} (e:nl a≤m) (hb:nl b≤n):nl (a*b)≤m+n:=by
 rw[jF] at e hb ⊢;rw[Nat.pow_add];by_cases h:b=0
 ·subst h; exact Nat.mul_pos (aDB (by decide)) (aDB (by decide))
 ·calc a*b<4294967296 ^ m*b:=Nat.mul_lt_mul_of_pos_right e (aCT h)
   _≤4294967296 ^ m*4294967296 ^ n:=aCR _ (Nat.le_of_lt hb)
theorem G1 {n:Nat} (h:nl n≤512):szV n=.tup [aI (aJ n),.int .i64 0]:=by
 have:¬ nl n>512:=Om;simp[szV,szL,szE,this]
theorem Xj {C:Ctx} (L:sM C) (a b:List Nat) (e:Lim a) (hb:Lim b) (j:a.length≤35184372087808) (l:b.length≤35184372087808) (u:nl (val a)≤256) (w:nl (val b)≤256) :
  BI.wp C (aT x9.res (aM (aI (aJ (val a*val b))))) (PF.args [aI a,aI b]) .nil:=by
 simp only[go_sem,BI,l3,l4,x9];refine aB (L.mul a b e hb j l) rfl ?_;have:=wH u w;rw[kY Om Om,opV,G1 Om];simp only[go_sem,l5];refine cD (.inr rfl) rfl ?_;rfl
abbrev gQ (neg:Bool) (a b:List Nat):List PV:=[.bool neg,aI a,aI b]
theorem acI {C:Ctx} (L:sM C) (neg:Bool) (a b:List Nat) (e:Lim a) (j:a.length≤35184372087808) :
  FI.wp C (aT S9.res (aM (.bool (decide (val a=0))))) (PF.args [.agg (gQ neg a b)]) .nil:=by
 simp only[go_sem,FI,yw,yx,S9];refine aB (L.bits a e j) rfl ?_;simp only[go_sem];refine cD (.inr rfl) rfl ?_;have:=@kD (val a);by_cases c:val a=0
 ·rw[bO Om,decide_eq_true c]; rfl
 ·rw[bC Om,decide_eq_false c]; rfl
def dW (a b:Nat):Bool:=decide (0<cN b)&&decide (cN b≤4096)&&decide (cN a≤4096)
theorem Xl {C:Ctx} (L:sM C) (neg:Bool) (a b:List Nat) (w:Lim a) (hb:Lim b) (x:a.length≤35184372087808) (y:b.length≤35184372087808) :
  BJ.wp C (aT ya.res (aM (.bool (dW (val a) (val b))))) (PF.args [.agg (gQ neg a b)]) .nil:=by
 simp only[go_sem,BJ,l6,l7,ya];refine aB (L.bits b hb y) rfl ?_;by_cases l:0<cN (val b)
 ·have e:((cN (val b):Nat):Int)>0:=Om;by_cases u:cN (val b)≤4096
  ·have j:((cN (val b):Nat):Int)≤4096:=Om;simp only[go_sem,AB,e,j];refine aB (L.bits a w x) rfl ?_;simp only[go_sem];refine cD (.inr rfl) rfl ?_;show PV.bool (decide _)=_;rw[dW,decide_eq_true l,decide_eq_true u,aBB,aBB];congr 1;rw[decide_eq_decide];omega
  ·have j:¬ ((cN (val b):Nat):Int)≤4096:=Om;simp only[go_sem,AB,e,j];refine cD (.inr rfl) rfl ?_;show PV.bool _=_;simp[dW,l,u]
 ·have e:¬ ((cN (val b):Nat):Int)>0:=Om;simp only[go_sem,AB,e];refine cD (.inr rfl) rfl ?_;show PV.bool _=_;simp[dW,l]
theorem ajS {C:Ctx} (L:sM C) (v:Int) (j:-9223372036854775808≤v) (l:v≤9223372036854775807) :
  KT.wp C (aT abU.res (aM (aI (aJ v.natAbs)))) (PF.args [.int .i64 v]) .nil:=by
 simp only[go_sem,KT,Kx,Ky,abU];by_cases c:v<0
 ·have e:IntKind.u64.wrap (0-IntKind.u64.wrap v)=(v.natAbs:Int):=by rw[gG,gG]; omega
  simp only[go_sem,c,Kz,e];refine aB (L.make v.natAbs Om) rfl ?_;simp only[go_sem];refine cD (.inr rfl) rfl ?_;rfl
 ·have e:IntKind.u64.wrap v=(v.natAbs:Int):=by rw[gG]; omega
  simp only[go_sem,c,K0,e];refine aB (L.make v.natAbs Om) rfl ?_;simp only[go_sem];refine cD (.inr rfl) rfl ?_;rfl
abbrev AA (e:Int):PV:=.tup [.agg (gQ false [] []),.int .i64 e]
abbrev S8 (neg:Bool) (a b:Nat):PV:=.tup [.agg (gQ neg (aJ a) (aJ b)),.int .i64 0]
def GP (neg:Bool) (a b:Nat):PV :=
 if cN (a/aAD a b)>4096∨cN (b/aAD a b)>4096 then AA 2 else S8 (neg&&decide (a/aAD a b≠0)) (a/aAD a b) (b/aAD a b)
theorem oF {res:List dT} {F:PF} {H:PH} {e:Int} (h:dT.evs F H res=some [.agg [.bool false,.aA,.aA],.int .i64 e]):aT res (cL (AA e)) .ret F H :=
 aV (.inr rfl) .nil h a_ ⟨CoL.tup (.cons (CoL.agg (.cons (.refl _) (.cons (.nil 1) (.cons (.nil 1) .nil)))) (.cons (.refl _) .nil)),rfl⟩
theorem vt {n:Nat}:cN n>1↔n>1:=by
 have:=mL n 1;omega
theorem c9 {a n:Nat} (g:Nat) (h:nl a≤n):nl (a/g)≤n:=aCX (jQ (aDH _ _)) h
theorem LD {C:Ctx} (L:sM C) (neg:Bool) (a b:List Nat) (w:Lim a) (hb:Lim b) (x:a.length≤35184372087808) (y:b.length≤35184372087808) (o:Nat) (F:PF) (H:PH)
  (f0:F 0=some (.bool neg)) (f1:F 1=some (aI a)) (f2:F 2=some (aI b)) (f6:F 6=some (.ptr o 3 0 0)) (f7:F 7=some (.int .i64 0)) (j:H o=some (.rows 3 [[.bool false,.aA,.aA]])) :
  aE.wp C (.seq (.seq (.region EZ) (.cond (.tmp 40) (.seq (.region wY) .ret) .skip)) (.seq (.region FA) .ret)) (aT uA.res (cL (if cN (val a)>4096∨cN (val b)>4096 then AA 2 else S8 (neg&&decide (val a≠0)) (val a) (val b)))) F H:=by
 have fin:∀ (r:List (List PV)) F H,F 6=some (.ptr o 3 0 0)→F 7=some (.int .i64 2)→H o=some (.rows 3 [[.bool false,.aA,.aA]])→aT uA.res (cL (AA 2)) .ret F H:=by intro r F H E h7 h;refine oF ?_;simp only[go_sem,uA,E,h7,h]
 simp only[go_sem,EZ,f1];refine aB (L.bits a w x) rfl ?_;by_cases A:cN (val a)>4096
 ·have l:((cN (val a):Nat):Int)>4096:=Om;rw[if_pos (.inl A)];simp only[go_sem,l,wY,f6,j];exact fin [] _ _ (by simp only[go_sem,f6]) rfl Sq
 ·have l:¬ ((cN (val a):Nat):Int)>4096:=Om;simp only[go_sem,l,f2];refine aB (L.bits b hb y) rfl ?_;by_cases B:cN (val b)>4096
  ·have u:((cN (val b):Nat):Int)>4096:=Om;rw[if_pos (.inr B)];simp only[go_sem,u,wY,f6,j];exact fin [] _ _ (by simp only[go_sem,f6]) rfl Sq
  ·have u:¬ ((cN (val b):Nat):Int)>4096:=Om;rw[if_neg Om];have last:∀ F:PF,F 1=some (aI a)→F 2=some (aI b)→F 6=some (.ptr o 3 0 0)→∀ (q:Bool),q=(neg&&decide (val a≠0))→F 47=some (.bool q) →
     True:=fun _ _ _ _ _ _ _=>trivial
   simp only[go_sem,u,FA,f0,f1,f2,f6,j];cases neg with
   | false =>simp only[go_sem,f0,f1,f2,f6,j];refine aB (L.trim a w x) rfl ?_;simp only[go_sem,f0,f1,f2,f6,j];refine aB (L.trim b hb y) rfl ?_;simp only[go_sem,f0,f1,f2,f6,j,aAR];refine aV (.inr rfl) .nil (vs:=[.agg (gQ false (aJ (val a)) (aJ (val b))),.int .i64 0]) ?_ a_ ⟨.refl _,rfl⟩;simp only[go_sem,uA,f6,j]
   | true =>
    simp only[go_sem,f0,f1,f2,f6,j];refine aB (L.bits a w x) rfl ?_;have e:decide (((cN (val a):Nat):Int)>0)=decide (val a≠0):=by have:=@kD (val a);rw[decide_eq_decide]; omega
    simp only[go_sem,f0,f1,f2,f6,j,e];refine aB (L.trim a w x) rfl ?_;simp only[go_sem,f0,f1,f2,f6,j];refine aB (L.trim b hb y) rfl ?_;simp only[go_sem,f0,f1,f2,f6,j,aBB];refine aV (.inr rfl) .nil (vs:=[.agg (gQ (decide (val a≠0)) (aJ (val a)) (aJ (val b))),.int .i64 0]) ?_ a_ ⟨.refl _,rfl⟩;simp only[go_sem,uA,f6,j]
theorem Sz {C:Ctx} (L:sM C) (neg:Bool) (a b:List Nat) (x:Lim a) (hb:Lim b) (y:a.length≤35184372087808) (A:b.length≤35184372087808) (B:nl (val a)≤512) (u:nl (val b)≤512) (E:val b≠0) :
  yZ.wp C (aT uA.res (cL (GP neg (val a) (val b)))) (PF.args [.bool neg,aI a,aI b]) .nil:=by
 simp only[go_sem,yZ,YY,YZ];refine aP fun o J=>?_;simp only[go_sem];refine aB (L.gcd a b x hb y A) rfl ?_;rw[kY B u];simp only[go_sem,ZA];have j:aAD (val a) (val b)≠0:=by intro h; exact E (Nat.gcd_eq_zero_iff.1 h).2
 have l:nl (aAD (val a) (val b))≤512:=aCX (jQ (Nat.gcd_le_right _ (aCT E))) u;have e:(aJ (aAD (val a) (val b))).length≤35184372087808:=by rw[bH]; omega
 refine aB (L.bits _ (bA _) e) rfl ?_;rw[aY];by_cases c:aAD (val a) (val b)>1
 ·have w:((cN (aAD (val a) (val b)):Nat):Int)>1:=by have:=vt.2 c; omega
  simp only[go_sem,w,ZB];refine aB (L.div a _ x (bA _) y e) rfl ?_;rw[aY,nB,kY B l,if_neg (by decide),if_neg j];simp only[go_sem,ZC];refine aB (L.div b _ hb (bA _) A e) rfl ?_;rw[aY,nB,kY u l,if_neg (by decide),if_neg j];simp only[go_sem];have:=LD L neg (aJ (val a/aAD (val a) (val b))) (aJ (val b/aAD (val a) (val b))) (bA _) (bA _) (by rw[bH]; have:=c9 (aAD (val a) (val b)) B; omega) (by rw[bH]; have:=c9 (aAD (val a) (val b)) u; omega) o;rw[aY,aY] at this;have:=fun F H=>this F H;simp only[aE.wp,go_sem] at this;exact this _ _ rfl rfl rfl rfl rfl Sq
 ·have w:¬ ((cN (aAD (val a) (val b)):Nat):Int)>1:=by have:=(@vt (aAD (val a) (val b))); omega
  have I:aAD (val a) (val b)=1:=Om;simp only[go_sem,w];rw[GP,I,Nat.div_one,Nat.div_one];have:=LD L neg a b x hb y A o;simp only[aE.wp,go_sem] at this;exact this _ _ rfl rfl rfl rfl rfl Sq
structure EI (C:Ctx):Prop extends sM C where
 times:∀ a b,Lim a→Lim b→a.length≤35184372087808→b.length≤35184372087808→nl (val a)≤256→nl (val b)≤256→aG C 121 [aI a,aI b] .nil (aM (aI (aJ (val a*val b))))
 zero:∀ neg a b,Lim a→a.length≤35184372087808→aG C 122 [.agg (gQ neg a b)] .nil (aM (.bool (decide (val a=0))))
 valid:∀ neg a b,Lim a→Lim b→a.length≤35184372087808→b.length≤35184372087808→aG C 118 [.agg (gQ neg a b)] .nil (aM (.bool (dW (val a) (val b))))
 abs:∀ v:Int,-9223372036854775808≤v→v≤9223372036854775807→aG C 119 [.int .i64 v] .nil (aM (aI (aJ v.natAbs)))
 lowest:∀ neg a b,Lim a→Lim b→a.length≤35184372087808→b.length≤35184372087808→nl (val a)≤512→nl (val b)≤512→val b≠0→aG C 120 [.bool neg,aI a,aI b] .nil (aM (GP neg (val a) (val b)))
def ZZ (n d:Int):PV:=if d=0 then AA 3 else GP (decide (n<0) != decide (d<0)) n.natAbs d.natAbs
theorem pJ {n k:Nat} (h:n<4294967296 ^ k):nl n≤k:=(jF _ _).2 h
theorem Ca (neg:Bool) (a b:Nat):∃ j x y e,GP neg a b=.tup [.agg (gQ j x y),.int .i64 e]:=by
 unfold GP;split
 ·exact⟨_,_,_,_,rfl⟩
 ·exact⟨_,_,_,_,rfl⟩
theorem acA {C:Ctx} (L:EI C) (n d:Int) (l:-9223372036854775808≤n) (u:n≤9223372036854775807) (w:-9223372036854775808≤d) (A:d≤9223372036854775807) :
  FB.wp C (aT ui.res (cL (ZZ n d))) (PF.args [.int .i64 n,.int .i64 d]) .nil:=by
 simp only[go_sem,FB,xa,xb];refine aP fun o E=>?_;unfold ZZ;by_cases c:d=0
 ·subst c;simp only[go_sem,xc];refine oF ?_;simp only[go_sem,ui]
 ·rw[if_neg c];simp only[go_sem,bC c,xd];refine aB (L.abs n l u) rfl ?_;simp only[go_sem];refine aB (L.abs d w A) rfl ?_;simp only[go_sem];have F:nl n.natAbs≤2:=pJ Om;have I:nl d.natAbs≤2:=pJ Om;have low:=L.lowest (decide (n<0) != decide (d<0)) (aJ n.natAbs) (aJ d.natAbs) (bA _) (bA _) (by rw[bH]; omega) (by rw[bH]; omega);rw[aY,aY] at low;have low:=low Om Om Om;refine aB low rfl ?_;obtain⟨j,x,y,e,B⟩:=Ca (decide (n<0) != decide (d<0)) n.natAbs d.natAbs;rw[B];simp only[go_sem];exact aV (.inr rfl) .nil (vs:=[.agg (gQ j x y),.int .i64 e]) (by simp only[go_sem,ui]) a_ ⟨.refl _,rfl⟩
theorem mX {a b:Nat}:dW a b=true↔b≠0∧nl b≤128∧nl a≤128:=by
 have e:=rP b 128;have j:=rP a 128;have l:=@kD b;simp only[dW,aAO,decide_eq_true_eq];omega
def QM (neg:Bool) (a b:Nat):PV:=if dW a b then GP neg a b else AA 1
theorem S5 {C:Ctx} (L:EI C) (neg:Bool) (a b:List Nat) (l:Lim a) (hb:Lim b) (u:a.length≤35184372087808) (w:b.length≤35184372087808) :
  zA.wp C (aT PR.res (cL (QM neg (val a) (val b)))) (PF.args [.agg (gQ neg a b)]) .nil:=by
 simp only[go_sem,zA,ZJ,ZK];refine aP fun o F=>?_;simp only[go_sem];refine aB (L.valid neg a b l hb u w) rfl ?_;unfold QM;cases B:dW (val a) (val b) with
 | false =>simp only[go_sem,ZL,aBF];refine oF ?_;simp only[go_sem,PR]
 | true =>obtain⟨E,I,J⟩:=mX.1 B;simp only[go_sem,ZM,aAS];refine aB (L.lowest neg a b l hb u w Om Om E) rfl ?_;obtain⟨j,x,y,e,A⟩:=Ca neg (val a) (val b);rw[A];simp only[go_sem];exact aV (.inr rfl) .nil (vs:=[.agg (gQ j x y),.int .i64 e]) (by simp only[go_sem,PR]) a_ ⟨.refl _,rfl⟩
def wT (l:Bool) (a1 e:Nat) (u:Bool) (a2 j:Nat):Int :=
 match l&&decide (a1≠0),u&&decide (a2≠0) with
 | true,true=>- eN (a1*j) (a2*e)
 | true,false=>-1
 | false,true=>1
 | false,false=>eN (a1*j) (a2*e)
def zZ (l:Bool) (a1 e:Nat) (u:Bool) (a2 j:Nat):PV :=
 if dW a1 e&&dW a2 j then .tup [.int .i64 (wT l a1 e u a2 j),.int .i64 0] else .tup [.int .i64 0,.int .i64 1]
def fr1:PV→List Nat
 | .agg [_,a,_]=>lS a
 | _=>[]
def frS:Spec:=fun name vs=>match name,vs with
 | 121,[x,y]=>some ([],fun _=>aM (aI (aJ (val (lS x)*val (lS y)))))
 | 129,[x,y]=>some ([],fun _=>aM (.int .i64 (eN (val (lS x)) (val (lS y)))))
 | 122,[x]=>some ([],fun _=>aM (.bool (decide (val (fr1 x)=0))))
 | _,_=>none
theorem wB (a b:List Nat):frS 121 [aI a,aI b]=some ([],fun _=>aM (aI (aJ (val a*val b)))):=by
 show some _=_; rw[fM,fM]
theorem akF (a b:List Nat):frS 129 [aI a,aI b]=some ([],fun _=>aM (.int .i64 (eN (val a) (val b)))):=by
 show some _=_; rw[fM,fM]
theorem TY (neg:Bool) (a b:List Nat):frS 122 [.agg (gQ neg a b)]=some ([],fun _=>aM (.bool (decide (val a=0)))):=by
 show some _=_; rw[fr1,fM]
theorem abF (a b:Nat):IntKind.i64.wrap (0-eN a b)=- eN a b:=by
 unfold eN; split
 ·rfl
 ·split<;>rfl
theorem ajY {C:Ctx} (L:EI C) (E y:Bool) (a1 j a2 e:List Nat) (w:Lim a1) (I:Lim j) (l:Lim a2) (J:Lim e)
  (x:a1.length≤35184372087808) (K:j.length≤35184372087808) (u:a2.length≤35184372087808) (M:e.length≤35184372087808) :
  KW.wp C (aT abW.res (cL (zZ E (val a1) (val j) y (val a2) (val e)))) (PF.args [.agg (gQ E a1 j),.agg (gQ y a2 e)]) .nil:=by
 simp only[go_sem,KW,Ll,Lm];refine aB (L.valid E a1 j w I x K) rfl ?_;unfold zZ;cases V:dW (val a1) (val j) with
 | false =>simp only[go_sem,aBF,ia,aAR];exact aV (.inr rfl) .nil (vs:=[.int .i64 0,.int .i64 1]) rfl a_ ⟨.refl _,rfl⟩
 | true =>
  obtain⟨v1,X,Y⟩:=mX.1 V;simp only[go_sem,aAS];refine aB (L.valid y a2 e l J u M) rfl ?_;cases W:dW (val a2) (val e) with
  | false =>simp only[go_sem,aBF,ia,aBS];exact aV (.inr rfl) .nil (vs:=[.int .i64 0,.int .i64 1]) rfl a_ ⟨.refl _,rfl⟩
  | true =>
   obtain⟨w1,Z,w3⟩:=mX.1 W;simp only[go_sem,aAS,aCJ];refine bN .nil frS a_ ?_;simp only[go_sem,Ln];refine dL (wB a1 e) (L.times a1 e w J x M Om Om) rfl a_ ?_;simp only[go_sem];refine dL (wB a2 j) (L.times a2 j l I u K Om Om) rfl a_ ?_;simp only[go_sem];have m1:=wH Y Z;have m2:=wH w3 X;have O:=L.cmp (aJ (val a1*val e)) (aJ (val a2*val j)) (bA _) (bA _) (by rw[bH]; omega) (by rw[bH]; omega);have R:=akF (aJ (val a1*val e)) (aJ (val a2*val j));rw[aY,aY] at O R;refine dL R O rfl a_ ?_;simp only[go_sem];refine bN .nil frS a_ ?_;have z1:(!decide (val a1=0))=decide (val a1≠0):=by by_cases h:val a1=0<;>simp[h]
   have S:(!decide (val a2=0))=decide (val a2≠0):=by by_cases h:val a2=0<;>simp[h]
   have fin:∀ (F:PF) (A B:Bool),F 6=some (.int .i64 (eN (val a1*val e) (val a2*val j)))→F 7=some (.bool A)→F 8=some (.bool B)→A=(E&&decide (val a1≠0))→B=(y&&decide (val a2≠0)) →
     aE.wp C (.seq (.block 0 (.seq (.region yI) (.cond (.tmp 42) (.seq (.region ib) .ret) (.seq (.region DQ) (.cond (.tmp 49) (.seq (.region ic) .ret) (.seq (.region PP) (.cond (.tmp 51) (.seq (.region TM) .ret) .skip))))))) (.seq (.region TN) .ret)) (aT abW.res (cL (.tup [.int .i64 (wT E (val a1) (val j) y (val a2) (val e)),.int .i64 0]))) F .nil:=by
    intro F A B f6 f7 N U hB;rw[wT,← U,← hB];cases A<;>cases B
    ·simp only[go_sem,yI,DQ,PP,TN,f6,f7,N];exact aV (.inr rfl) .nil rfl a_ ⟨.refl _,rfl⟩
    ·simp only[go_sem,yI,DQ,PP,TM,f6,f7,N];exact aV (.inr rfl) .nil rfl a_ ⟨.refl _,rfl⟩
    ·simp only[go_sem,yI,DQ,ic,f6,f7,N];exact aV (.inr rfl) .nil rfl a_ ⟨.refl _,rfl⟩
    ·simp only[go_sem,yI,ib,f6,f7,N,abF];exact aV (.inr rfl) .nil rfl a_ ⟨.refl _,rfl⟩
   simp only[aE.wp,go_sem] at fin;simp only[go_sem,Lo];cases E with
   | false =>
    simp only[go_sem];cases y with
    | false =>simp only[go_sem];exact fin _ false false rfl rfl rfl rfl rfl
    | true =>simp only[go_sem];refine dL (TY true a2 e) (L.zero true a2 e l u) rfl a_ ?_;simp only[go_sem,S];exact fin _ false (decide (val a2≠0)) rfl rfl rfl rfl (by rw[aBB])
   | true =>
    simp only[go_sem];refine dL (TY true a1 j) (L.zero true a1 j w x) rfl a_ ?_;simp only[go_sem,z1];cases y with
    | false =>simp only[go_sem];exact fin _ (decide (val a1≠0)) false rfl rfl rfl (by rw[aBB]) rfl
    | true =>simp only[go_sem];refine dL (TY true a2 e) (L.zero true a2 e l u) rfl a_ ?_;simp only[go_sem,S];exact fin _ (decide (val a1≠0)) (decide (val a2≠0)) rfl rfl rfl (by rw[aBB]) (by rw[aBB])
abbrev FV:=Bool × Nat × Nat
abbrev FR:=Except Int FV
def kZ (neg:Bool) (a b:Nat):FR :=
 if cN (a/aAD a b)>4096∨cN (b/aAD a b)>4096 then .error 2 else .ok (neg&&decide (a/aAD a b≠0),a/aAD a b,b/aAD a b)
def frV:FR→PV
 | .ok (n,a,b)=>S8 n a b
 | .error e=>AA e
theorem i0 (neg:Bool) (a b:Nat):GP neg a b=frV (kZ neg a b):=by
 unfold GP kZ;split<;>rfl
def kN:FV→FV→FR
 | (l,a1,e),(u,a2,j)=>if dW a1 e&&dW a2 j then
   (if l=u then kZ l (a1*j+a2*e) (e*j) else if a2*e≤a1*j then kZ l (a1*j-a2*e) (e*j) else kZ u (a2*e-a1*j) (e*j))
  else .error 1
theorem apR {a b m:Nat} (e:nl a≤m) (hb:nl b≤m):nl (a+b)≤m+1:=by
 rw[jF] at e hb ⊢;rw[aCD]; omega
theorem Kr (a b:Nat):(eN a b≥0)↔b≤a:=by
 unfold eN;split
 ·constructor
  ·intro h; exact absurd h (by decide)
  ·intro h; omega
 ·split
  ·constructor
   ·intro h; omega
   ·intro h; decide
  ·constructor
   ·intro h; omega
   ·intro h; decide
theorem PQ (r:FR):∃ j x y e,frV r=.tup [.agg (gQ j x y),.int .i64 e]:=by
 rcases r with e | ⟨n,a,b⟩
 ·exact⟨_,_,_,_,rfl⟩
 ·exact⟨_,_,_,_,rfl⟩
theorem ajU {C:Ctx} (L:EI C) (w I:Bool) (a1 l a2 u:List Nat) (S:Lim a1) (M:Lim l) (U:Lim a2) (N:Lim u)
  (V:a1.length≤35184372087808) (O:l.length≤35184372087808) (W:a2.length≤35184372087808) (R:u.length≤35184372087808) :
  KU.wp C (aT gy.res (cL (frV (kN (w,val a1,val l) (I,val a2,val u))))) (PF.args [.agg (gQ w a1 l),.agg (gQ I a2 u)]) .nil:=by
 simp only[go_sem,KU,K3];refine aP fun o ho=>?_;simp only[go_sem,K4];refine aB (L.valid w a1 l S M V O) rfl ?_;simp only[kN];cases hv:dW (val a1) (val l) with
 | false =>simp only[go_sem,aBF,gz,aAR];refine oF ?_;simp only[go_sem,gy]
 | true =>
  obtain⟨v1,v2,v3⟩:=mX.1 hv;simp only[go_sem,aAS];refine aB (L.valid I a2 u U N W R) rfl ?_;cases hw:dW (val a2) (val u) with
  | false =>simp only[go_sem,aBF,gz,aBS];refine oF ?_;simp only[go_sem,gy]
  | true =>
   obtain⟨w1,w2,w3⟩:=mX.1 hw;simp only[go_sem,aAS,aCJ];refine bN .nil frS a_ ?_;simp only[go_sem,K5];refine dL (wB a1 u) (L.times a1 u S N V R Om Om) rfl a_ ?_;simp only[go_sem];refine dL (wB a2 l) (L.times a2 l U M W O Om Om) rfl a_ ?_;simp only[go_sem];refine dL (wB l u) (L.times l u M N O R Om Om) rfl a_ ?_;simp only[go_sem];have m1:=wH v3 w2;have m2:=wH w3 v2;have m3:=wH v2 w2;have d0:val l*val u≠0:=Nat.mul_ne_zero v1 w1;generalize hA:val a1*val u=A at *
   generalize hB:val a2*val l=B at *
   generalize hD:val l*val u=D at *
   have fin:∀ (F:PF) (H:PH) (r:FR),(∃ j x y e,frV r=.tup [.agg (gQ j x y),.int .i64 e]∧F 4=some (.ptr o 3 0 0)∧F 5=some (.int .i64 e)∧H o=some (.rows 3 [gQ j x y]))→aT gy.res (cL (frV r)) .ret F H:=by rintro F H r ⟨j,x,y,e,he,f4,f5,hH⟩;rw[he];exact aV (.inr rfl) .nil (vs:=[.agg (gQ j x y),.int .i64 e]) (by simp only[go_sem,gy,f4,f5,hH]) a_ ⟨.refl _,rfl⟩
   have eb:(w==I)=decide (w=I):=by cases w<;>cases I<;>rfl
   have low:∀ neg x,nl x≤257→aG C 120 [.bool neg,aI (aJ x),aI (aJ D)] .nil (aM (frV (kZ neg x D))):=by
    intro neg x hx;have h1:(aJ x).length≤35184372087808:=by rw[bH]; omega
    have h2:(aJ D).length≤35184372087808:=by rw[bH]; omega
    have:=L.lowest neg (aJ x) (aJ D) (bA _) (bA _) h1 h2;rw[aY,aY,i0] at this;exact this Om Om d0
   have lA:(aJ A).length≤35184372087808:=by rw[bH]; omega
   have lB:(aJ B).length≤35184372087808:=by rw[bH]; omega
   simp only[go_sem,K6];by_cases c:w=I
   ·rw[if_pos c];have Z:(w==I)=true:=by rw[eb,decide_eq_true c]
    simp only[go_sem,Z,K7];have J:=L.add (aJ A) (aJ B) (bA _) (bA _) lA lB;have α:=apR m1 m2;rw[aY,aY,kY Om Om,opV,G1 Om] at J;refine aB J rfl ?_;simp only[go_sem,K8];refine aB (low w _ Om) rfl ?_;obtain⟨j,x,y,e,E⟩:=PQ (kZ w (A+B) D);rw[E];simp only[go_sem];rw[← E];exact fin _ _ _ ⟨j,x,y,e,E,by simp only[go_sem],by simp only[go_sem],by simp only[go_sem]⟩
   ·rw[if_neg c];have Z:(w==I)=false:=by rw[eb,decide_eq_false c]
    simp only[go_sem,Z,K9];have hc:=L.cmp (aJ A) (aJ B) (bA _) (bA _) lA lB;rw[aY,aY] at hc;refine aB hc rfl ?_;have K:∀ X Y:Nat,nl X≤256→nl Y≤256→Y≤X→aG C 134 [aI (aJ X),aI (aJ Y)] .nil (aM (.tup [aI (aJ (X-Y)),.int .i64 0])):=by intro X Y h1 h2 h;have:=L.sub (aJ X) (aJ Y) (bA _) (bA _) (by rw[bH]; omega) (by rw[bH]; omega);have h3:=jQ (Om:X-Y≤X);rw[aY,aY,wV,kY Om Om,if_neg (by decide),if_neg Om,G1 Om] at this;exact this
    by_cases g:B≤A
    ·have g':eN A B≥0:=(Kr A B).2 g;rw[if_pos g];simp only[go_sem,g',La];refine aB (K A B Om Om g) rfl ?_;simp only[go_sem,Lc];have h3:=jQ (Om:A-B≤A);refine aB (low w (A-B) Om) rfl ?_;obtain⟨j,x,y,e,E⟩:=PQ (kZ w (A-B) D);rw[E];simp only[go_sem];rw[← E];exact fin _ _ _ ⟨j,x,y,e,E,by simp only[go_sem],by simp only[go_sem],by simp only[go_sem]⟩
    ·have g':¬ eN A B≥0:=fun h=>g ((Kr A B).1 h);rw[if_neg g];simp only[go_sem,g',wi];refine aB (K B A Om Om Om) rfl ?_;simp only[go_sem,wj];have h3:=jQ (Om:B-A≤B);refine aB (low I (B-A) Om) rfl ?_;obtain⟨j,x,y,e,E⟩:=PQ (kZ I (B-A) D);rw[E];simp only[go_sem];rw[← E];exact fin _ _ _ ⟨j,x,y,e,E,by simp only[go_sem],by simp only[go_sem],by simp only[go_sem]⟩
structure RF where
 neg:Bool
 num:List Nat
 den:List Nat
abbrev RF.cells (x:RF):List PV:=gQ x.neg x.num x.den
def RF.Ok (x:RF):Prop:=Lim x.num∧Lim x.den∧x.num.length≤35184372087808∧x.den.length≤35184372087808
def RF.v (x:RF):FV:=(x.neg,val x.num,val x.den)
abbrev frs (l:List RF):PV:=.sl 3 (l.map RF.cells)
def FV.rf:FV→RF
 | (n,a,b)=>⟨n,aJ a,aJ b⟩
def FV.Small:FV→Prop
 | (_,a,b)=>nl a≤900000∧nl b≤900000
theorem FV.awD (x:FV):x.rf.v=x:=by
 obtain⟨n,a,b⟩:=x;show (n,val (aJ a),val (aJ b))=_;rw[aY,aY]
def qM (l:List FV):FR:=l.foldlM kN (false,0,1)
theorem tC {neg:Bool} {a b:Nat} {r:FV} (h:kZ neg a b=.ok r):r.Small∧r.rf.Ok:=by
 unfold kZ at h;split at h
 ·cases h
 ·rename_i l;have e:=(rP (a/aAD a b) 128).1 Om;have j:=(rP (b/aAD a b) 128).1 Om;injection h with h
  subst h;refine⟨⟨by omega,by omega⟩,bA _,bA _,?_,?_⟩
  ·show (aJ _).length≤_;rw[bH]; omega
  ·show (aJ _).length≤_;rw[bH]; omega
theorem Kj {x y r:FV} (h:kN x y=.ok r):r.rf.Ok:=by
 obtain⟨l,a1,e⟩:=x;obtain⟨u,a2,j⟩:=y;simp only[kN] at h;split at h
 ·split at h
  ·exact (tC h).2
  ·split at h
   ·exact (tC h).2
   ·exact (tC h).2
 ·cases h
theorem Jp {α β:Type} {f:β→α→Except Int β} (l:List α) (b:β) {k:Nat} (h:k<l.length):(l.take (k+1)).foldlM f b=((l.take k).foldlM f b).bind fun x=>f x l[k]:=by
 rw[aCM h,List.foldlM_append];cases (l.take k).foldlM f b with
 | error e=>rfl
 | ok x =>show ([l[k]]:List α).foldlM f x=f x l[k];rw[List.foldlM_cons];cases f x l[k]<;>rfl
theorem S4 {α β:Type} {f:β→α→Except Int β} (l:List α) (b:β) {k:Nat} {e:Int} (h:(l.take k).foldlM f b=.error e):l.foldlM f b=.error e:=by
 conv=>lhs; rw[← aDA k l,List.foldlM_append,h]
 rfl
def agM (l:List RF) (o2 o4:Nat) (k:Nat):PF:=((((((PF.nil.set 2 (.ptr o2 3 0 0)).set 3 (.int .i64 0)).set 4 (.ptr o4 3 0 0)).set 11 (frs l)).set 12 (.int .i64 (l.length:Nat))).set 13 (.int .i64 k))
def XM (o2 o4:Nat) (c:List PV):PH:=(PH.nil.set o2 (.rows 3 [[.bool false,.aA,.aA]])).set o4 (.rows 3 [c])
theorem akJ {C:Ctx} (L:EI C) (V:∀ x y:RF,x.Ok→y.Ok→aG C 113 [.agg x.cells,.agg y.cells] .nil (aM (frV (kN x.v y.v)))) (l:List RF) (hl:∀ x∈l,x.Ok) (β:l.length≤9223372036854775807) :
  LH.wp C (aT x7.res (cL (frV (qM (l.map RF.v))))) (PF.args [frs l]) .nil:=by
 simp only[go_sem,LH,Md];refine aP fun o2 γ=>?_;simp only[go_sem,Me];refine aB (L.make 1 (by decide)) rfl ?_;simp only[go_sem];refine aP fun o4 W=>?_;have w:o4≠o2:=by rintro rfl; simp only[aQ,if_true] at W; cases W
 have j:o2≠o4:=Ne.symm w;simp only[go_sem,Mf];refine wp_loop (α:=Nat × FV × PV) (fun t=>agM l o2 o4 t.1) (fun t=>XM o2 o4 [.bool t.2.1.1,t.2.2,aI (aJ t.2.1.2.2)]) (fun t=>t.1≤l.length∧((l.map RF.v).take t.1).foldlM kN (false,0,1)=.ok t.2.1∧(t.2.2=.aA∧t.2.1.2.1=0∨t.2.2=aI (aJ t.2.1.2.1))∧(FV.rf t.2.1).Ok) (fun t=>l.length-t.1)
  (0,(false,0,1),.aA) ⟨aAP _,rfl,.inl ⟨rfl,rfl⟩,⟨bA _,bA _,?_,?_⟩⟩ ?_ ?_ ?_
 ·show (aJ 0).length≤_;rw[gS]; simp
 ·show (aJ 1).length≤_;rw[oN (by decide) (by decide)]; simp
 ·unfold agM
  (repeat' (first|exact c_|refine d_ ?_ ?_))<;>first|(simp only[go_sem,aAA]<;>rfl)|rfl
 ·unfold XM;exact e_ (e_ a_ (by simp only[go_sem,j,w])) (by simp only[go_sem,j,w])
 rintro⟨k,⟨U,X,S⟩,cy⟩ ⟨hk,Y,R,M⟩;simp only at hk Y R M ⊢;have N:CoL [.bool U,cy,aI (aJ S)] (FV.rf (U,X,S)).cells:=by
  refine .cons (.refl _) (.cons ?_ (.cons (.refl _) .nil));rcases R with ⟨rfl,rfl⟩ | rfl
  ·show Co .aA (aI (aJ 0));rw[gS]; exact .nil 1
  ·exact .refl _
 simp only[go_sem,x8,Mg,agM];by_cases hlt:k<l.length
 ·have E:(k:Int)<(l.length:Nat):=Om;have hr:(l.map RF.cells)[k]?=some (l[k]).cells:=by simp[hlt]
  simp only[go_sem,E,Mh,hr];refine aP fun o6 J=>?_;have F:o4≠o6:=by rintro rfl; simp only[XM,aQ,if_true] at J; cases J
  have B:o2≠o6:=by rintro rfl; simp only[XM,aQ,if_true,if_neg j] at J; cases J
  simp only[go_sem,Mi,XM,F,B,w,j];refine aB ((V (FV.rf (U,X,S)) l[k] M (hl _ (aAG hlt))).args (.cons (CoL.agg N) (.cons (.refl _) .nil))) rfl ?_;rw[FV.awD];have u:=Jp (f:=kN) (l.map RF.v) (false,0,1) (k:=k) (by simpa using hlt);rw[Y] at u;simp only[Except.bind,aCW] at u;cases he:kN (U,X,S) (l[k]).v with
  | error e =>
   simp only[go_sem,frV];refine aP fun o7 A=>?_;have Z:e≠0:=by
    revert he;obtain⟨n2,a2,b2⟩:=(l[k]).v;simp only[kN,kZ]
    repeat' split
    all_goals (intro h; first | (injection h with h; subst h; decide) | cases h)
   have I:o2≠o7:=by rintro rfl; simp only[aQ,B,j,if_true,if_false] at A; cases A
   simp only[go_sem,ij,dP Z,Mj,I,B,j];rw[he] at u;rw[qM,S4 _ _ u];refine oF ?_;simp only[go_sem,x7]
  | ok r =>
   obtain⟨rn,ra,rb⟩:=r;simp only[go_sem,frV];refine aP fun o7 A=>?_;have K:o4≠o7:=by rintro rfl; simp only[aQ,F,if_true,if_false] at A; cases A
   have I:o2≠o7:=by rintro rfl; simp only[aQ,B,j,if_true,if_false] at A; cases A
   simp only[go_sem,ij,Mk,K,I,F,B,w,j,Ne.symm K,Ml,wZz k];rw[he] at u;refine aL (k+1,(rn,ra,rb),aI (aJ ra)) ⟨hlt,u,.inr rfl,Kj he⟩ (by simp only; omega) ?_ ?_
   ·exact Lq
   ·refine e_ (e_ a_ ?_) ?_
    ·simp only[go_sem,j,w,K,I,F,B]
    ·simp only[go_sem,j,w,K,I,F,B]
 ·have E:¬ (k:Int)<(l.length:Nat):=Om;have:k=l.length:=Om;subst this;rw[aAQ (by simp)] at Y;rw[qM,Y];have O:cL (frV (.ok (U,X,S))) (dB [.agg [.bool U,cy,aI (aJ S)],.int .i64 0]) .nil:=⟨CoL.tup (.cons (CoL.agg N) (.cons (.refl _) .nil)),rfl⟩;rcases R with ⟨rfl,rfl⟩ | rfl
  ·simp only[go_sem,E,UA,XM,w,j];refine aV (.inr rfl) .nil ?_ a_ O;simp only[go_sem,x7,w,j]
  ·simp only[go_sem,E,UA,XM,w,j];refine aV (.inr rfl) .nil ?_ a_ O;simp only[go_sem,x7,w,j]
def pX:Rg:=[iT 2 false]
def pY:Rg:=[iM 3 0,iA 4 (.bin .geq (Tm 3) (.const (.int .u8 97))),iM 5 4,gM 6 0 5 true,iG 7 (.bin .leq (Tm 6) (.const (.int .u8 122))) 5 true,iP 8 5 7,iM 9 8,gM 10 0 9 false,iG 11 (.bin .geq (Tm 10) (.const (.int .u8 65))) 9 false,gM 12 11 9 false,gM 13 0 12 true,iG 14 (.bin .leq (Tm 13) (.const (.int .u8 90))) 12 true,iG 15 (.pick (Tm 12) (Tm 14) (.const zB)) 9 false,iQ 16 9 15,iM 2 16]
def lZ:aE:=(sq pX (sq pY .ret))
def T3:List Nat:=[]
def PY:bB:=⟨1,17,lZ,[.tmp 2]⟩
def AH:Rg:=[iT 2 false]
def AI:Rg:=[iM 3 0,iA 4 (.bin .geq (Tm 3) (.const (.int .u8 48))),iM 5 4,gM 6 0 5 true,iG 7 (.bin .leq (Tm 6) (.const (.int .u8 57))) 5 true,iP 8 5 7,iM 2 8]
def qP:aE:=(sq AH (sq AI .ret))
def X2:List Nat:=[]
def ZU:bB:=⟨1,9,qP,[.tmp 2]⟩
def my:Rg:=[iT 2 false]
def mz:Rg:=[iM 3 0,iK 4 126 3,iM 5 4,gM 6 0 5 false,gK 7 124 6 5 false,iQ 8 5 7,iM 9 8,gM 10 0 9 false,iG 11 (.bin .eql (Tm 10) (.const (.int .u8 45))) 9 false,iQ 12 9 11,iM 13 12,gM 14 0 13 false,iG 15 (.bin .eql (Tm 14) (.const (.int .u8 46))) 13 false,iQ 16 13 15,iM 2 16]
def BN:aE:=(sq my (sq mz .ret))
def X7:List Nat:=[]
def ZX:bB:=⟨1,17,BN,[.tmp 2]⟩
def GJ:Rg:=[iT 2 false]
def GK:Rg:=[iM 4 0,iA 5 (.bin .eql (Tm 4) (.const (.str []))),iM 6 5,gM 7 0 6 false,iG 8 (.azO (Tm 7)) 6 false,gC 9 .gtr 8 16 6 false,iQ 10 6 9,iM 11 10,gM 12 0 11 false,iG 13 (.azP (Tm 12) (Ci 0)) 11 false,gK 14 126 13 11 false,iG 15 (.un .not (Tm 14)) 11 false,iQ 16 11 15]
def GL:Rg:=[iT 2 false]
def Bx:Rg:=[iI 3 0]
def By:Rg:=[iM 17 3,iM 18 0,iA 19 (.azO (Tm 18)),iB 20 .lss 17 19]
def Bz:Rg:=[iM 23 0,iM 24 3,iA 25 (.azP (Tm 23) (Tm 24)),iK 26 125 25,iA 27 (.un .not (Tm 26))]
def B0:Rg:=[iT 2 false]
def B5:Rg:=[iM 21 3,iC 22 .add 21 1,iM 3 22]
def Bw:aE:=(.seq (sq By (.cond (Tm 20) .skip (.exit 0))) (.seq (.block 1 (sq Bz (.cond (Tm 27) (sq B0 .ret) .skip))) (.region B5)))
def B6:Rg:=[iT 2 true]
def tB:aE:=(sq GJ (.seq (sq GK (.cond (Tm 16) (sq GL .ret) .skip)) (.seq (sq Bx (.block 0 (.loop Bw))) (sq B6 .ret))))
def adS:List Nat:=[]
def uj:bB:=⟨1,28,tB,[.tmp 2]⟩
def ZO:Rg:=[iT 6 false]
def ZP:Rg:=[iM 7 0,iM 8 1,iB 9 .geq 7 8,iM 10 9,gM 11 0 10 true,gM 12 2 10 true,gB 13 .leq 11 12 10 true,iP 14 10 13,iM 6 14]
def zE:aE:=(sq ZO (sq ZP .ret))
def apJ:List Nat:=[]
def gin:bB:=⟨3,15,zE,[.tmp 6]⟩
def l8:Rg:=[iA 1 (.box true (Tm 0)),iT 2 false]
def l9:Rg:=[iF 3 1 1,iL 4 3,iK 5 128 4,iC 6 .gtr 5 0,iM 2 6]
def BK:aE:=(sq l8 (sq l9 .ret))
def Xq:List Nat:=[1]
def yy:bB:=⟨1,7,BK,[.tmp 2]⟩
def M9:Rg:=[iA 1 (.box true (Tm 0)),iT 2 false]
def Nb:Rg:=[iO 6 3 1,iK 7 116 6,iM 5 7,iE 8 5 0,iE 9 5 1,iA 3 (.alloc [zB,.aA,.aA]),iS 3 3 8,iM 4 9]
def PT:Rg:=[iM 10 4,iC 11 .eql 10 0,iM 12 11,gF 13 0 3 12 true,gL 14 13 12 true,iG 15 (.un .not (Tm 14)) 12 true,iP 16 12 15,iM 17 16,gF 18 1 3 17 true,gL 19 18 17 true,gK 20 128 19 17 true,gC 21 .leq 20 32 17 true,iP 22 17 21,iM 23 22,gF 24 2 3 23 true,gL 25 24 23 true,gK 26 128 25 23 true,gC 27 .leq 26 32 23 true,iP 28 23 27,iM 2 28]
def LN:aE:=(sq M9 (sq Nb (sq PT .ret)))
def akS:List Nat:=[1]
def acU:bB:=⟨1,29,LN,[.tmp 2]⟩
def Ng:Rg:=[iA 1 (.box true (Tm 0)),iT 2 false]
def Nh:Rg:=[iA 8 (.call 115 [(Ci 1),(Ci 1)]),iM 7 8,iE 9 7 0,iE 10 7 1,iA 3 (.alloc [zB,.aA,.aA]),iS 3 3 9,iM 4 10]
def Ni:Rg:=[iO 12 3 1,iO 13 3 3,iK2 14 114 12 13,iM 11 14,iE 15 11 0,iE 16 11 1,iM 5 15,iM 6 16]
def ip:Rg:=[iM 17 6,iC 18 .eql 17 0,iM 19 18,gM 20 5 19 true,gC 21 .leq 20 0 19 true,iP 22 19 21,iM 2 22]
def LP:aE:=(sq Ng (sq Nh (sq Ni (sq ip .ret))))
def akW:List Nat:=[1]
def gone:bB:=⟨1,23,LP,[.tmp 2]⟩
def zf:Rg:=[iT 4 false]
def zg:Rg:=[iM 7 0,iN 8 7,iI 9 0]
def zh:Rg:=[iB 10 .lss 9 8]
def zi:Rg:=[iX 11 3 7 9,iO 12 3 11,iA 6 (.alloc [zB,.aA,.aA]),iS 3 6 12]
def zj:Rg:=[iM 13 1,iO 14 3 6,iA 15 (.azQ (Tm 13) [(Tm 14)]),iA 16 (.un .not (Tm 15))]
def zk:Rg:=[iT 4 false]
def zl:Rg:=[iC 17 .add 9 1,iM 9 17]
def ze:aE:=(sq zh (.seq (.cond (Tm 10) .skip (.exit 0)) (.seq (.block 1 (sq zi (sq zj (.cond (Tm 16) (sq zk .ret) .skip)))) (.region zl))))
def zm:Rg:=[iT 4 true]
def FK:aE:=(sq zf (.seq (sq zg (.block 0 (.loop ze))) (sq zm .ret)))
def acN:List Nat:=[]
def Tc:bB:=⟨2,18,FK,[.tmp 4]⟩
def zo:Rg:=[iT 4 false]
def zp:Rg:=[iM 7 0,iN 8 7,iI 9 0]
def zq:Rg:=[iB 10 .lss 9 8]
def zr:Rg:=[iX 11 1 7 9,iL 12 11,iM 6 12]
def zt:Rg:=[iM 13 1,iM 14 6,iA 15 (.azQ (Tm 13) [(Tm 14)]),iA 16 (.un .not (Tm 15))]
def zu:Rg:=[iT 4 false]
def zw:Rg:=[iC 17 .add 9 1,iM 9 17]
def zn:aE:=(sq zq (.seq (.cond (Tm 10) .skip (.exit 0)) (.seq (.block 1 (sq zr (sq zt (.cond (Tm 16) (sq zu .ret) .skip)))) (.region zw))))
def zx:Rg:=[iT 4 true]
def FL:aE:=(sq zo (.seq (sq zp (.block 0 (.loop zn))) (sq zx .ret)))
def acP:List Nat:=[]
def Td:bB:=⟨2,18,FL,[.tmp 4]⟩
def y6:Rg:=[iT 4 false]
def y7:Rg:=[iM 7 0,iN 8 7,iI 9 0]
def y8:Rg:=[iB 10 .lss 9 8]
def y9:Rg:=[iX 11 1 7 9,iL 12 11,iM 6 12]
def za:Rg:=[iM 13 1,iM 14 6,iA 15 (.azQ (Tm 13) [(Tm 14)]),iA 16 (.un .not (Tm 15))]
def zb:Rg:=[iT 4 false]
def zc:Rg:=[iC 17 .add 9 1,iM 9 17]
def yz:aE:=(sq y8 (.seq (.cond (Tm 10) .skip (.exit 0)) (.seq (.block 1 (sq y9 (sq za (.cond (Tm 16) (sq zb .ret) .skip)))) (.region zc))))
def zd:Rg:=[iT 4 true]
def FJ:aE:=(sq y6 (.seq (sq y7 (.block 0 (.loop yz))) (sq zd .ret)))
def acL:List Nat:=[]
def Tb:bB:=⟨2,18,FJ,[.tmp 4]⟩
def ma:Rg:=[iT 2 false]
def mb:Rg:=[iM 3 0,iM 2 3]
def BL:aE:=(sq ma (sq mb .ret))
def Xs:List Nat:=[]
def Aa:bB:=⟨1,4,BL,[.tmp 2]⟩
def Ab:Rg:=[iA 1 (.box true (Tm 0)),iT 2 false]
def Ac:Rg:=[iF 8 3 1,iL 9 8,iN 10 9,iA 11 (.ayV 1 1 [zB] (Tm 10) (Tm 10)),iM 3 11]
def Ad:Rg:=[iI 4 0]
def Ae:Rg:=[iM 12 4,iM 13 3,iN 14 13,iB 15 .leq 12 14]
def Af:Rg:=[iM 18 3,iN 19 18,iI 20 0]
def UE:Rg:=[iB 21 .lss 20 19]
def Ag:Rg:=[iM 22 20,iM 5 22]
def UF:Rg:=[iM 23 3,iM 24 5,iM 25 3,iM 26 5,iX 27 1 25 26,iL 28 27,iM 29 28,gF 30 3 1 29 false,gL 31 30 29 false,gM 32 5 29 false,iG 33 (.azE 3 (Tm 31) (Tm 32)) 29 false,gO 34 3 33 29 false,gK 35 97 34 29 false,iQ 36 29 35,iX 37 1 23 24,iS 1 37 36]
def UG:Rg:=[iF 38 2 1,iL 39 38,iM 40 5,iX 41 1 39 40,iL 42 41,iN 43 42,iI 44 0]
def Ah:Rg:=[iB 45 .lss 44 43]
def mf:Rg:=[iM 46 44,iX 47 3 42 44,iO 48 3 47,iA 7 (.alloc [zB,.aA,.aA]),iM 6 46,iS 3 7 48]
def LK:Rg:=[iM 49 3,iM 50 5,iM 51 3,iM 52 5,iX 53 1 51 52,iL 54 53,iM 55 54,gO 56 3 7 55 false,gK 57 97 56 55 false,gM 58 57 55 false,gM 59 3 58 true,gM 60 6 58 true,iG 61 (.azE 1 (Tm 59) (Tm 60)) 58 true,gL 62 61 58 true,iG 63 (.pick (Tm 58) (Tm 62) (.const zB)) 55 false,iQ 64 55 63,iX 65 1 49 50,iS 1 65 64]
def AF:Rg:=[iC 66 .add 44 1,iM 44 66]
def AD:aE:=(sq Ah (.seq (.cond (Tm 45) .skip (.exit 4)) (.seq (.block 5 (sq mf (.region LK))) (.region AF))))
def LL:Rg:=[iC 67 .add 20 1,iM 20 67]
def AE:aE:=(sq UE (.seq (.cond (Tm 21) .skip (.exit 2)) (.seq (.block 3 (sq Ag (sq UF (sq UG (.block 4 (.loop AD)))))) (.region LL))))
def mg:Rg:=[iM 16 4,iC 17 .add 16 1,iM 4 17]
def me:aE:=(.seq (sq Ae (.cond (Tm 15) .skip (.exit 0))) (.seq (.block 1 (sq Af (.block 2 (.loop AE)))) (.region mg)))
def mh:Rg:=[iM 68 3,iA 69 (.call 98 [(Tm 68),(.const (.fn 103 []))]),iM 2 69]
def FN:aE:=(sq Ab (sq Ac (.seq (sq Ad (.block 0 (.loop me))) (sq mh .ret))))
def acS:List Nat:=[1]
def Th:bB:=⟨1,70,FN,[.tmp 2]⟩
def M1:Rg:=[iA 1 (.box true (Tm 0)),iT 2 false]
def M2:Rg:=[iF 12 1 1,iL 13 12,iN 14 13,iM 3 14]
def M3:Rg:=[iM 15 3,iA 16 (.call 104 [(Tm 15),(Ci 1),(Ci 4)]),iA 17 (.un .not (Tm 16)),iM 18 17,gF 19 3 1 18 false,gL 20 19 18 false,gN 21 20 18 false,gM 22 3 18 false,gB 23 .neq 21 22 18 false,iQ 24 18 23,iM 25 24,gF 26 2 1 25 false,gL 27 26 25 false,gN 28 27 25 false,gM 29 3 25 false,gB 30 .neq 28 29 25 false,iQ 31 25 30,iM 32 31,gF 33 1 1 32 false,gL 34 33 32 false,iG 35 (.call 99 [(Tm 34),(.const (.fn 105 []))]) 32 false,iG 36 (.un .not (Tm 35)) 32 false,iQ 37 32 36,iM 38 37,gF 39 3 1 38 false,gL 40 39 38 false,iG 41 (.call 99 [(Tm 40),(.const (.fn 105 []))]) 38 false,iG 42 (.un .not (Tm 41)) 38 false,iQ 43 38 42]
def yM:Rg:=[iT 2 false]
def M4:Rg:=[iF 44 2 1,iL 45 44,iN 46 45,iI 47 0]
def M5:Rg:=[iB 48 .lss 47 46]
def M6:Rg:=[iM 49 47,iX 50 1 45 47,iL 51 50,iM 4 49,iM 5 51]
def M7:Rg:=[iM 52 5,iN 53 52,iM 54 3,iB 55 .neq 53 54,iM 56 55,gM 57 5 56 false,iG 58 (.call 99 [(Tm 57),(.const (.fn 105 []))]) 56 false,iG 59 (.un .not (Tm 58)) 56 false,iQ 60 56 59,iM 61 60,gM 62 5 61 false,gM 63 4 61 false,iG 64 (.azE 3 (Tm 62) (Tm 63)) 61 false,gO 65 3 64 61 false,gK 66 97 65 61 false,iQ 67 61 66]
def PS:Rg:=[iT 2 false]
def M8:Rg:=[iC 68 .add 47 1,iM 47 68]
def Ai:aE:=(sq M5 (.seq (.cond (Tm 48) .skip (.exit 0)) (.seq (.block 1 (sq M6 (sq M7 (.cond (Tm 67) (sq PS .ret) .skip)))) (.region M8))))
def UH:Rg:=[iF 70 1 1,iL 71 70,iK 72 117 71,iM 69 72,iE 73 69 0,iE 74 69 1,iA 6 (.alloc [zB,.aA,.aA]),iS 3 6 73,iM 7 74]
def FO:Rg:=[iA 76 (.call 115 [(Ci 1),(Ci 1)]),iM 75 76,iE 77 75 0,iE 78 75 1,iA 8 (.alloc [zB,.aA,.aA]),iS 3 8 77,iM 9 78]
def FP:Rg:=[iO 80 3 6,iO 81 3 8,iK2 82 114 80 81,iM 79 82,iE 83 79 0,iE 84 79 1,iM 10 83,iM 11 84]
def uE:Rg:=[iM 85 7,iC 86 .eql 85 0,iM 87 86,gM 88 10 87 true,gC 89 .eql 88 0 87 true,iP 90 87 89,iM 91 90,gO 92 4 1 91 true,gK 93 102 92 91 true,iP 94 91 93,iM 2 94]
def LM:aE:=(sq M1 (sq M2 (.seq (sq M3 (.cond (Tm 43) (sq yM .ret) .skip)) (.seq (sq M4 (.block 0 (.loop Ai))) (sq UH (sq FO (sq FP (sq uE .ret))))))))
def akQ:List Nat:=[1]
def acT:bB:=⟨1,95,LM,[.tmp 2]⟩
def Ax:Rg:=[iT 2 false]
def Ay:Rg:=[iA 6 (.azV (false,[.str])),iM 3 6]
def Az:Rg:=[iM 7 0,iN 8 7,iI 9 0]
def A0:Rg:=[iB 10 .lss 9 8]
def A1:Rg:=[iX 11 1 7 9,iL 12 11,iM 5 12]
def A2:Rg:=[iM 13 5,iK 14 123 13,iA 15 (.un .not (Tm 14)),iM 16 15,gM 17 3 16 false,gM 18 5 16 false,iG 19 (.lookup (false,[.str]) zB (Tm 17) (Tm 18) false) 16 false,iQ 20 16 19]
def UK:Rg:=[iT 2 false]
def A3:Rg:=[iM 21 3,iM 22 5,⟨none,.azF (false,[.str]) (Tm 21) (Tm 22) (.const (.bool true)),none⟩]
def A4:Rg:=[iC 23 .add 9 1,iM 9 23]
def Aw:aE:=(sq A0 (.seq (.cond (Tm 10) .skip (.exit 0)) (.seq (.block 1 (sq A1 (.seq (sq A2 (.cond (Tm 20) (sq UK .ret) .skip)) (.region A3)))) (.region A4))))
def ml:Rg:=[iT 2 true]
def FU:aE:=(sq Ax (sq Ay (.seq (sq Az (.block 0 (.loop Aw))) (sq ml .ret))))
def adD:List Nat:=[]
def To:bB:=⟨1,24,FU,[.tmp 2]⟩
def im:Rg:=[iA 1 (.box true (Tm 0)),iT 2 false]
def io:Rg:=[iF 6 3 1,iL 7 6,iN 8 7,iC 9 .eql 8 0]
def Mv:Rg:=[iT 2 false]
def Mw:Rg:=[iF 10 3 1,iL 11 10,iA 12 (.azE 7 (Tm 11) (Ci 0)),iO 13 7 12,iA 3 (.alloc [(.str []),zI,zI,zI,zB,.aA,.aA]),iS 7 3 13]
def yL:Rg:=[iF 14 0 3,iL 15 14,iA 16 (.bin .neq (Tm 15) (.const (.str []))),iM 17 16,gF 18 1 3 17 false,gL 19 18 17 false,gC 20 .neq 19 0 17 false,iQ 21 17 20,iM 22 21,gF 23 2 3 22 false,gL 24 23 22 false,gC 25 .neq 24 (-1) 22 false,iQ 26 22 25,iM 27 26,gF 28 3 3 27 false,gL 29 28 27 false,gC 30 .neq 29 0 27 false,iQ 31 27 30,iM 32 31,gF 33 4 3 32 false,gO 34 3 33 32 false,gK 35 105 34 32 false,iG 36 (.un .not (Tm 35)) 32 false,iQ 37 32 36,iM 38 37,gF 39 4 3 38 false,gO 40 3 39 38 false,gK 41 97 40 38 false,iQ 42 38 41]
def uD:Rg:=[iT 2 false]
def Mx:Rg:=[iF 43 3 1,iL 44 43,iA 45 (.slice 7 (Tm 44) (some (Ci 1)) none none),iN 46 45,iI 47 0]
def My:Rg:=[iB 48 .lss 47 46]
def Mz:Rg:=[iM 49 47,iX 50 7 45 47,iO 51 7 50,iA 5 (.alloc [(.str []),zI,zI,zI,zB,.aA,.aA]),iM 4 49,iS 7 5 51]
def M0:Rd:=[(iF 52 2 5,false),(iL 53 52,false),(iM 54 4,false),(iA 55 (.call 104 [(Tm 53),(Ci 0),(Tm 54)]),true),(iA 56 (.un .not (Tm 55)),false),(iM 57 56,false),(gF 58 3 1 57 false,false),(gL 59 58 57 false,false),(gF 60 2 5 57 false,false),(gL 61 60 57 false,false),(iG 62 (.azE 7 (Tm 59) (Tm 61)) 57 false,false),(gF 63 1 62 57 false,false),(gL 64 63 57 false,false),(gF 65 1 5 57 false,false),(gL 66 65 57 false,false),(gC 67 .sub 66 1 57 false,false),(gB 68 .neq 64 67 57 false,false),(iQ 69 57 68,false),(iM 70 69,false),(gF 71 1 5 70 false,false),(gL 72 71 70 false,false),(iG 73 (.call 104 [(Tm 72),(Ci 1),(Ci 4)]) 70 false,true),(iG 74 (.un .not (Tm 73)) 70 false,false),(iQ 75 70 74,false),(iM 76 75,false),(gF 77 3 5 76 false,false),(gL 78 77 76 false,false),(iG 79 (.call 104 [(Tm 78),(Ci 1),(Ci 64)]) 76 false,true),(iG 80 (.un .not (Tm 79)) 76 false,false),(iQ 81 76 80,false),(iM 82 81,false),(gF 83 4 5 82 false,false),(gO 84 3 83 82 false,false),(gK 85 105 84 82 false,true),(iG 86 (.un .not (Tm 85)) 82 false,false),(iQ 87 82 86,false)]
def uC:Rg:=[iT 2 false]
def zz:Rg:=[iC 88 .add 47 1,iM 47 88]
def zy:aE:=(sq My (.seq (.cond (Tm 48) .skip (.exit 0)) (.seq (.block 1 (sq Mz (dq M0 (.cond (Tm 87) (sq uC .ret) .skip)))) (.region zz))))
def z8:Rg:=[iT 2 true]
def AC:aE:=(sq im (.seq (sq io (.cond (Tm 9) (sq Mv .ret) .skip)) (sq Mw (.seq (sq yL (.cond (Tm 42) (sq uD .ret) .skip)) (.seq (sq Mx (.block 0 (.loop zy))) (sq z8 .ret))))))
def akO:List Nat:=[1]
def Tf:bB:=⟨1,89,AC,[.tmp 2]⟩
def Aj:Rg:=[iT 2 false]
def Ak:Rg:=[iM 3 0,iA 4 (.call 104 [(Tm 3),(Ci 0),(Ci 8)]),iM 2 4]
def FQ:aE:=(sq Aj (sq Ak .ret))
def acX:List Nat:=[]
def Tj:bB:=⟨1,5,FQ,[.tmp 2]⟩
def Nc:Rg:=[iA 7 (.box true (Tm 3)),iT 8 false]
def Nd:Rg:=[iM 9 0,iA 10 (.call 104 [(Tm 9),(Ci 1),(Ci 6)]),iA 11 (.un .not (Tm 10)),iM 12 11,gM 13 1 12 false,iG 14 (.call 104 [(Tm 13),(Ci 0),(Ci 4)]) 12 false,iG 15 (.un .not (Tm 14)) 12 false,iQ 16 12 15,iM 17 16,gM 18 0 17 false,gM 19 1 17 false,gB 20 .add 18 19 17 false,gC 21 .gtr 20 8 17 false,iQ 22 17 21,iM 23 22,gM 24 2 23 false,gM 25 0 23 false,gM 26 0 23 false,gM 27 1 23 false,gB 28 .add 26 27 23 false,iG 29 (.call 104 [(Tm 24),(Tm 25),(Tm 28)]) 23 false,iG 30 (.un .not (Tm 29)) 23 false,iQ 31 23 30,iM 32 31,iG 33 (.idxA 5 1 (Tm 7) (Ci 0)) 32 false,gL 34 33 32 false,gC 35 .neq 34 0 32 false,iQ 36 32 35]
def yN:Rg:=[iT 8 false]
def Nf:Rg:=[iA 37 (.sliceA 5 1 (Tm 7) none none none),iA 38 (.call 100 [(Tm 37),(.const (.fn 107 []))]),iM 8 38]
def LO:aE:=(sq Nc (.seq (sq Nd (.cond (Tm 36) (sq yN .ret) .skip)) (sq Nf .ret)))
def akU:List Nat:=[7]
def acV:bB:=⟨4,39,LO,[.tmp 8]⟩
def mi:Rg:=[iA 1 (.box true (Tm 0)),iT 2 false]
def mj:Rg:=[iO 3 3 1,iK 4 105 3,iM 5 4,gO 6 3 1 5 true,gK 7 97 6 5 true,iP 8 5 7,iM 2 8]
def BM:aE:=(sq mi (sq mj .ret))
def Xv:List Nat:=[1]
def Ao:bB:=⟨1,9,BM,[.tmp 2]⟩
def Ap:Rg:=[iA 6 (.box true (Tm 2)),iA 7 (.box true (Tm 3)),iT 8 false]
def Aq:Rg:=[iM 9 1,iN 10 9,iM 11 0,iA 12 (.azI true (Tm 11) (Ci 1)),iB 13 .eql 10 12,iM 14 13,gM 15 1 14 true,iG 16 (.call 99 [(Tm 15),(.const (.fn 109 []))]) 14 true,iP 17 14 16,iM 18 17,gO 19 3 6 18 true,gK 20 105 19 18 true,iP 21 18 20,iM 22 21,gO 23 3 6 22 true,gK 24 101 23 22 true,iP 25 22 24,iM 26 25,gO 27 3 7 26 true,gK 28 105 27 26 true,iP 29 26 28,iM 8 29]
def FS:aE:=(sq Ap (sq Aq .ret))
def adA:List Nat:=[6,7]
def Tk:bB:=⟨4,30,FS,[.tmp 8]⟩
def Nj:Rg:=[iA 2 (.box true (Tm 0)),iT 4 false]
def Nk:Rg:=[iF 8 1 2,iL 9 8,iF 10 2 2,iL 11 10,iF 12 3 2,iL 13 12,iF 14 4 2,iO 15 5 14,iA 16 (.call 106 [(Tm 9),(Tm 11),(Tm 13),(Tm 15)]),iA 17 (.un .not (Tm 16)),iM 18 17,gF 19 9 2 18 false,gL 20 19 18 false,gN 21 20 18 false,gC 22 .eql 21 0 18 false,iQ 23 18 22,iM 24 23,gF 25 2 2 24 false,gL 26 25 24 false,gF 27 10 2 24 false,gL 28 27 24 false,gF 29 11 2 24 false,gO 30 3 29 24 false,gF 31 14 2 24 false,gO 32 3 31 24 false,iG 33 (.call 108 [(Tm 26),(Tm 28),(Tm 30),(Tm 32)]) 24 false,iG 34 (.un .not (Tm 33)) 24 false,iQ 35 24 34]
def PU:Rg:=[iT 4 false]
def Nl:Rg:=[iM 36 1,iA 37 (.ayV 1 1 [zB] (Tm 36) (Tm 36)),iM 5 37]
def Nm:Rg:=[iF 38 9 2,iL 39 38,iN 40 39,iI 41 0]
def Nn:Rg:=[iB 42 .lss 41 40]
def No:Rg:=[iX 43 1 39 41,iL 44 43,iM 7 44]
def Np:Rg:=[iM 45 7,iM 46 1,iC 47 .sub 46 1,iA 48 (.call 104 [(Tm 45),(Ci 0),(Tm 47)]),iA 49 (.un .not (Tm 48)),iM 50 49,gM 51 5 50 false,gM 52 7 50 false,iG 53 (.azE 1 (Tm 51) (Tm 52)) 50 false,gL 54 53 50 false,iQ 55 50 54]
def iq:Rg:=[iT 4 false]
def Nq:Rg:=[iM 56 5,iM 57 7,iX 58 1 56 57,⟨none,.store 1 (Tm 58) (.const (.bool true)),none⟩]
def Am:Rg:=[iC 59 .add 41 1,iM 41 59]
def Al:aE:=(sq Nn (.seq (.cond (Tm 42) .skip (.exit 0)) (.seq (.block 1 (sq No (.seq (sq Np (.cond (Tm 55) (sq iq .ret) .skip)) (.region Nq)))) (.region Am))))
def An:Rg:=[iT 4 true]
def LQ:aE:=(sq Nj (.seq (sq Nk (.cond (Tm 35) (sq PU .ret) .skip)) (sq Nl (.seq (sq Nm (.block 0 (.loop Al))) (sq An .ret)))))
def akY:List Nat:=[2]
def acY:bB:=⟨2,60,LQ,[.tmp 4]⟩
def Nr:Rg:=[iA 1 (.box true (Tm 0)),iI 2 0]
def Ns:Rg:=[iF 21 0 1,iL 22 21,iA 23 (.call 104 [(Tm 22),(Ci 1),(Ci 4)]),iA 24 (.un .not (Tm 23)),iM 25 24,gF 26 1 1 25 false,gL 27 26 25 false,gN 28 27 25 false,gC 29 .gtr 28 4 25 false,iQ 30 25 29,iM 31 30,gF 32 2 1 31 false,gL 33 32 31 false,gN 34 33 31 false,gC 35 .gtr 34 4 31 false,iQ 36 31 35,iM 37 36,gF 38 3 1 37 false,gL 39 38 37 false,gN 40 39 37 false,gC 41 .gtr 40 40 37 false,iQ 42 37 41,iM 43 42,gF 44 4 1 43 false,gL 45 44 43 false,gN 46 45 43 false,gC 47 .gtr 46 24 43 false,iQ 48 43 47,iM 49 48,gF 50 5 1 49 false,gL 51 50 49 false,gN 52 51 49 false,gC 53 .gtr 52 4 49 false,iQ 54 49 53,iM 55 54,gF 56 6 1 55 false,gL 57 56 55 false,gN 58 57 55 false,gC 59 .gtr 58 12 55 false,iQ 60 55 59,iM 61 60,gO 62 7 1 61 false,gK 63 111 62 61 false,iG 64 (.un .not (Tm 63)) 61 false,iQ 65 61 64]
def pW:Rg:=[iI 2 1]
def Nt:Rg:=[iZ 3,iZ 4,iZ 5,iZ 6,iZ 7]
def Nu:Rg:=[iT 8 true]
def ir:Rg:=[iF 66 1 1,iL 67 66,iN 68 67,iI 69 0]
def Nv:Rg:=[iB 70 .lss 69 68]
def Nw:Rg:=[iX 71 4 67 69,iO 72 4 71,iA 10 (.alloc [(.str []),.aA,.aA,.aA]),iS 4 10 72]
def Nx:Rg:=[iM 73 3,iF 74 0 10,iL 75 74,iA 76 (.ayS true 1 1 [(.str [])] [(0,(Tm 75))]),iA 77 (.append 1 16 (Tm 73) (Tm 76)),iM 3 77]
def iu:Rg:=[iM 78 8,iM 79 78,gO 80 4 10 79 true,gK 81 95 80 79 true,iP 82 79 81,iM 8 82]
def UL:Rg:=[iC 83 .add 69 1,iM 69 83]
def FW:aE:=(sq Nv (.seq (.cond (Tm 70) .skip (.exit 0)) (.seq (.block 1 (sq Nw (sq Nx (.region iu)))) (.region UL))))
def UM:Rg:=[iF 84 2 1,iL 85 84,iN 86 85,iI 87 0]
def A5:Rg:=[iB 88 .lss 87 86]
def A6:Rg:=[iX 89 4 85 87,iO 90 4 89,iA 12 (.alloc [(.str []),zI,zI,zI]),iS 4 12 90]
def A7:Rg:=[iM 91 4,iF 92 0 12,iL 93 92,iA 94 (.ayS true 1 1 [(.str [])] [(0,(Tm 93))]),iA 95 (.append 1 16 (Tm 91) (Tm 94)),iM 4 95]
def UN:Rg:=[iM 96 8,iM 97 96,gF 98 1 12 97 true,gL 99 98 97 true,iG 100 (.call 104 [(Tm 99),(Ci 1),(Ci 16)]) 97 true,iP 101 97 100,iM 102 101,gF 103 2 12 102 true,gL 104 103 102 true,iG 105 (.call 104 [(Tm 104),(Ci 1),(Ci 64)]) 102 true,iP 106 102 105,iM 107 106,gF 108 3 12 107 true,gL 109 108 107 true,gF 110 1 1 107 true,gL 111 110 107 true,gN 112 111 107 true,gC 113 .sub 112 1 107 true,iG 114 (.call 104 [(Tm 109),(Ci 0),(Tm 113)]) 107 true,iP 115 107 114,iM 8 115]
def zH:Rg:=[iC 116 .add 87 1,iM 87 116]
def FX:aE:=(sq A5 (.seq (.cond (Tm 88) .skip (.exit 2)) (.seq (.block 3 (sq A6 (sq A7 (.region UN)))) (.region zH))))
def UO:Rg:=[iF 117 3 1,iL 118 117,iA 119 (.slice 7 (Tm 118) (some (Ci 1)) none none),iN 120 119,iI 121 0]
def A8:Rg:=[iB 122 .lss 121 120]
def A9:Rg:=[iX 123 7 119 121,iO 124 7 123,iA 14 (.alloc [(.str []),zI,zI,zI,zB,.aA,.aA]),iS 7 14 124]
def Ba:Rg:=[iM 125 5,iF 126 0 14,iL 127 126,iA 128 (.ayS true 1 1 [(.str [])] [(0,(Tm 127))]),iA 129 (.append 1 16 (Tm 125) (Tm 128)),iM 5 129]
def Bb:Rg:=[iC 130 .add 121 1,iM 121 130]
def FY:aE:=(sq A8 (.seq (.cond (Tm 122) .skip (.exit 4)) (.seq (.block 5 (sq A9 (.region Ba))) (.region Bb))))
def UP:Rg:=[iF 131 4 1,iL 132 131,iN 133 132,iI 134 0]
def Bc:Rg:=[iB 135 .lss 134 133]
def Bd:Rg:=[iX 136 3 132 134,iO 137 3 136,iA 16 (.alloc [(.str []),zI,zI]),iS 3 16 137]
def Be:Rg:=[iM 138 5,iF 139 0 16,iL 140 139,iA 141 (.ayS true 1 1 [(.str [])] [(0,(Tm 140))]),iA 142 (.append 1 16 (Tm 138) (Tm 141)),iM 5 142]
def UQ:Rg:=[iM 143 8,iM 144 143,gF 145 1 16 144 true,gL 146 145 144 true,gF 147 2 1 144 true,gL 148 147 144 true,gN 149 148 144 true,gC 150 .sub 149 1 144 true,iG 151 (.call 104 [(Tm 146),(Ci 0),(Tm 150)]) 144 true,iP 152 144 151,iM 153 152,gF 154 2 16 153 true,gL 155 154 153 true,gF 156 3 1 153 true,gL 157 156 153 true,gN 158 157 153 true,gC 159 .sub 158 1 153 true,iG 160 (.call 104 [(Tm 155),(Ci 0),(Tm 159)]) 153 true,iP 161 153 160,iM 162 161,gF 163 3 1 162 true,gL 164 163 162 true,gF 165 2 16 162 true,gL 166 165 162 true,iG 167 (.azE 7 (Tm 164) (Tm 166)) 162 true,gF 168 1 167 162 true,gL 169 168 162 true,gC 170 .eql 169 4 162 true,iP 171 162 170,iM 8 171]
def uF:Rg:=[iC 172 .add 134 1,iM 134 172]
def FZ:aE:=(sq Bc (.seq (.cond (Tm 135) .skip (.exit 6)) (.seq (.block 7 (sq Bd (sq Be (.region UQ)))) (.region uF))))
def UR:Rg:=[iF 173 5 1,iL 174 173,iN 175 174,iI 176 0]
def Bf:Rg:=[iB 177 .lss 176 175]
def Bg:Rg:=[iX 178 17 174 176,iO 179 17 178,iA 18 (.alloc [(.str []),zI,zI,zI,zI,zI,zI,zI,zI,.aA,.aA,zB,.aA,.aA,zB,.aA,.aA]),iS 17 18 179]
def Bh:Rg:=[iM 180 6,iF 181 0 18,iL 182 181,iA 183 (.ayS true 1 1 [(.str [])] [(0,(Tm 182))]),iA 184 (.append 1 16 (Tm 180) (Tm 183)),iM 6 184]
def US:Rg:=[iM 185 8,iM 186 185,gO 187 17 18 186 true,gF 188 2 1 186 true,gL 189 188 186 true,gN 190 189 186 true,gK2 191 112 187 190 186 true,iP 192 186 191,iM 8 192]
def UT:Rg:=[iC 193 .add 176 1,iM 176 193]
def GA:aE:=(sq Bf (.seq (.cond (Tm 177) .skip (.exit 8)) (.seq (.block 9 (sq Bg (sq Bh (.region US)))) (.region UT))))
def UU:Rg:=[iF 194 6 1,iL 195 194,iN 196 195,iI 197 0]
def Bi:Rg:=[iB 198 .lss 197 196]
def Bj:Rg:=[iX 199 2 195 197,iO 200 2 199,iA 20 (.alloc [(.str []),zI]),iS 2 20 200]
def Bk:Rg:=[iM 201 7,iF 202 0 20,iL 203 202,iA 204 (.ayS true 1 1 [(.str [])] [(0,(Tm 203))]),iA 205 (.append 1 16 (Tm 201) (Tm 204)),iM 7 205]
def UV:Rg:=[iM 206 8,iM 207 206,gF 208 1 20 207 true,gL 209 208 207 true,gF 210 5 1 207 true,gL 211 210 207 true,gN 212 211 207 true,gC 213 .sub 212 1 207 true,iG 214 (.call 104 [(Tm 209),(Ci 0),(Tm 213)]) 207 true,iP 215 207 214,iM 8 215]
def UW:Rg:=[iC 216 .add 197 1,iM 197 216]
def GB:aE:=(sq Bi (.seq (.cond (Tm 198) .skip (.exit 10)) (.seq (.block 11 (sq Bj (sq Bk (.region UV)))) (.region UW))))
def zJ:Rg:=[iM 217 8,iA 218 (.un .not (Tm 217)),iM 219 218,gM 220 3 219 false,gK 221 110 220 219 false,iG 222 (.un .not (Tm 221)) 219 false,iQ 223 219 222,iM 224 223,gM 225 4 224 false,gK 226 110 225 224 false,iG 227 (.un .not (Tm 226)) 224 false,iQ 228 224 227,iM 229 228,gM 230 5 229 false,gK 231 110 230 229 false,iG 232 (.un .not (Tm 231)) 229 false,iQ 233 229 232,iM 234 233,gM 235 6 234 false,gK 236 110 235 234 false,iG 237 (.un .not (Tm 236)) 234 false,iQ 238 234 237,iM 239 238,gM 240 7 239 false,gK 241 110 240 239 false,iG 242 (.un .not (Tm 241)) 239 false,iQ 243 239 242]
def oG:Rg:=[iI 2 1]
def GC:Rg:=[iI 2 0]
def LS:aE:=(sq Nr (.seq (sq Ns (.cond (Tm 65) (sq pW .ret) .skip)) (sq Nt (sq Nu (.seq (sq ir (.block 0 (.loop FW))) (.seq (sq UM (.block 2 (.loop FX))) (.seq (sq UO (.block 4 (.loop FY))) (.seq (sq UP (.block 6 (.loop FZ))) (.seq (sq UR (.block 8 (.loop GA))) (.seq (sq UU (.block 10 (.loop GB))) (.seq (sq zJ (.cond (Tm 243) (sq oG .ret) .skip)) (sq GC .ret))))))))))))
def alB:List Nat:=[1,76,94,128,141,183,204]
def adE:bB:=⟨1,244,LS,[.tmp 2]⟩
@[go_sem] theorem asE (a b:List UInt8):KG .eql a b=some (.bool (a==b)):=(rfl)
@[go_sem] theorem asF (a b:List UInt8):KG .neq a b=some (.bool !(a==b)):=(rfl)
@[go_sem] theorem Sf (a b:List UInt8):KG .add a b=if ((a.length+b.length:Nat):Int)>9223372036854775807 then none else some (.str (a++b)):=(rfl)
@[go_sem] theorem aoF:(([]:List UInt8)==[])=true:=(rfl)
@[go_sem] theorem ajE (c:UInt8) (t:List UInt8):((c::t)==[])=false:=(rfl)
theorem pS {a b:List UInt8} (h:a=b):(a==b)=true:=by simp[h]
theorem YM {a b:List UInt8} (h:a≠b):(a==b)=false:=by simp[h]
section
variable {C:Ctx} {F:PF} {H:PH}
theorem qR {name o s:Nat} {rs:List (List PV)} {vs:List PV} {v:PV} {args:List aN} {d:Option Nat} {K:PF→PH→Prop} (h:aG C name vs .nil (aM v)) (l:H o=some (.rows s rs))
  (j:aN.evs (F.frz o s rs) args=some vs) (e:K ((F.frz o s rs).put d v) (H.frz o s rs)):fU C name args [] d K F H:=by
 refine .inr ⟨_,_,.step o l (.refl _ _),vs,.nil,aM v,?_,a_,h,?_⟩
 ·rw[j]; simp
 ·rintro r H' ⟨rfl,rfl⟩ -;rw[PH.jK];exact e
theorem iU.trans {e j l:PF} {u H2 w:PH} (h:iU e u j H2) (k:iU j H2 l w):iU e u l w:=by
 induction h with
 | refl=>exact k
 | step o x h y=>exact .step o x (y k)
theorem qH {c:aE} {K:cK} {s:Nat} {v:PV} {rows:List (List PV)} (N:bY H s v rows)
  (h:∀ l,Seen s l rows→∀ e w,(∀ t,F t=some v→e t=some l)→(∀ i u,F i=some u→Pure u→e i=some u)→aE.wp C (.loop c) K e w):aE.wp C (.loop c) K F H:=by
 obtain⟨l,O,M⟩:=N.frz;obtain⟨e,w,R,I,J⟩:=M F;obtain⟨α,A,Hs,B,m,E,y,H2,x,j⟩:=h l O e w I J;exact⟨α,A,Hs,B,m,E,y,H2,R.trans x,j⟩
theorem aG.Vc {name s:Nat} {v:PV} {rows:List (List PV)} {l:PH} {R:PV→PH→Prop} (h:aG C name [.sl s rows] l R) (u:Seen s v rows):aG C name [v] l R:=by
 rcases u with ⟨rfl,rfl⟩ | rfl
 ·refine h.args ⟨rfl,fun j p q e hq=>?_⟩;cases j with
  | zero=>simp at e hq; subst e; subst hq; exact .nil s
  | succ j=>simp at e
 ·exact h
theorem bY.fresh {s:Nat} {v:PV} {rows:List (List PV)} {o:Nat} (h:bY H s v rows) (u:H o=none) (x:bF):bY (H.set o x) s v rows∧∀ l,v≠.osl o s 0 l:=by
 refine⟨h.ext fun q y hq=>?_,fun l e=>?_⟩
 ·have:q≠o:=by rintro rfl; rw[u] at hq; cases hq
  simp only[aQ,if_neg this,hq]
 ·rcases h with ⟨_,j⟩ | ⟨q,rs,h1,j,_⟩
  ·rw[j] at e; cases e
  ·rw[h1] at e;injection e with w
   subst w;rw[u] at j; cases j
theorem nF {s b:Nat} {v:PV} {rows:List (List PV)} {r:List PV} {o:Nat} {x:bF} {K:PV→PH→Prop} (h:bY H s v rows) (w:H o=none) (A:roomFor rows.length 1 b)
  (u:∀ v' H',bY H' s v' (rows++[r])→H' o=some x→K v' H'):mG (H.set o x) s b v (.sl s [r]) K:=by
 obtain⟨e,j⟩:=h.fresh w x;refine jH (src:=[r]) e (by simp[eJ]) A fun v' H' l y=>u v' H' l (y o x (by simp only[aQ,if_true]) j)
theorem rT {o s k:Nat} {rs:List (List PV)} (e:k≤rs.length):PV.frz o s rs (.osl o s 0 k)=.sl s (rs.take k):=by
 have:0+k≤rs.length:=Om;simp only[PV.frz,PV.pI,PV.bP,if_true,true_and,if_pos this,aBM]
end
def jB (n:Nat):Bool:=decide (97≤n)&&decide (n≤122)||decide (65≤n)&&decide (n≤90)
def sT (n:Nat):Bool:=decide (48≤n)&&decide (n≤57)
def jA (n:Nat):Bool:=jB n||sT n||decide (n=45)||decide (n=46)
theorem T2 {C:Ctx} (n:Nat):lZ.wp C (aT PY.res (aM (.bool (jB n)))) (PF.args [.int .u8 n]) .nil:=by
 have fin:∀ (F:PF) (b:Bool),F 2=some (.bool b)→b=jB n→aT PY.res (aM (.bool (jB n))) .ret F .nil:=by intro F b h e;subst e;refine cD (.inr rfl) (vs:=[.bool (jB n)]) (by simp only[go_sem,PY,h]) rfl
 unfold jB at *
 by_cases a:97≤n
 ·have j:(n:Int)≥97:=Om;by_cases b:n≤122
  ·have u:(n:Int)≤122:=Om;simp only[go_sem,lZ,pX,pY,j,u];exact fin _ _ rfl (by simp[a,b])
  ·have u:¬ (n:Int)≤122:=Om;by_cases c:65≤n
   ·have l:(n:Int)≥65:=Om;have d:¬ (n:Int)≤90:=Om;simp only[go_sem,lZ,pX,pY,j,u,l,d];exact fin _ _ rfl (by simp[a,b,c]; omega)
   ·omega
 ·have j:¬ (n:Int)≥97:=Om;by_cases c:65≤n
  ·have l:(n:Int)≥65:=Om;by_cases d:n≤90
   ·have w:(n:Int)≤90:=Om;simp only[go_sem,lZ,pX,pY,j,l,w];exact fin _ _ rfl (by simp[a,c,d])
   ·have w:¬ (n:Int)≤90:=Om;simp only[go_sem,lZ,pX,pY,j,l,w];exact fin _ _ rfl (by simp[a,c,d])
  ·have l:¬ (n:Int)≥65:=Om;simp only[go_sem,lZ,pX,pY,j,l];exact fin _ _ rfl (by simp[a,c])
theorem X1 {C:Ctx} (n:Nat):qP.wp C (aT ZU.res (aM (.bool (sT n)))) (PF.args [.int .u8 n]) .nil:=by
 have fin:∀ (F:PF) (b:Bool),F 2=some (.bool b)→b=sT n→aT ZU.res (aM (.bool (sT n))) .ret F .nil:=by intro F b h e;subst e;refine cD (.inr rfl) (vs:=[.bool (sT n)]) (by simp only[go_sem,ZU,h]) rfl
 unfold sT at *
 by_cases a:48≤n
 ·have j:(n:Int)≥48:=Om;by_cases b:n≤57
  ·have l:(n:Int)≤57:=Om;simp only[go_sem,qP,AH,AI,j,l];exact fin _ _ rfl (by simp[a,b])
  ·have l:¬ (n:Int)≤57:=Om;simp only[go_sem,qP,AH,AI,j,l];exact fin _ _ rfl (by simp[a,b])
 ·have j:¬ (n:Int)≥48:=Om;simp only[go_sem,qP,AH,AI,j];exact fin _ _ rfl (by simp[a])
theorem X6 {C:Ctx} (u:∀ n:Nat,aG C 126 [.int .u8 n] .nil (aM (.bool (jB n)))) (w:∀ n:Nat,aG C 124 [.int .u8 n] .nil (aM (.bool (sT n)))) (n:Nat) :
  BN.wp C (aT ZX.res (aM (.bool (jA n)))) (PF.args [.int .u8 n]) .nil:=by
 have fin:∀ (F:PF) (b:Bool),F 2=some (.bool b)→b=jA n→aT ZX.res (aM (.bool (jA n))) .ret F .nil:=by intro F b h e;subst e;refine cD (.inr rfl) (vs:=[.bool (jA n)]) (by simp only[go_sem,ZX,h]) rfl
 simp only[go_sem,BN,my,mz];refine aB (u n) rfl ?_;cases l:jB n with
 | true =>simp only[go_sem];exact fin _ _ rfl (by simp[jA,l])
 | false =>
  simp only[go_sem];refine aB (w n) rfl ?_;cases j:sT n with
  | true =>simp only[go_sem];exact fin _ _ rfl (by simp[jA,j])
  | false =>
   by_cases c:n=45
   ·simp only[go_sem,bO (Om:(n:Int)=45)];exact fin _ _ rfl (by simp[jA,c])
   ·by_cases d:n=46
    ·simp only[go_sem,bC (Om:(n:Int)≠45),bO (Om:(n:Int)=46)];exact fin _ _ rfl (by simp[jA,d])
    ·simp only[go_sem,bC (Om:(n:Int)≠45),bC (Om:(n:Int)≠46)];exact fin _ _ rfl (by simp[jA,c,d,l,j])
def isName (s:List UInt8):Bool:=match s with
 | []=>false
 | c::_=>decide (s.length≤16)&&jB c.toNat&&s.all fun c=>jA c.toNat
theorem EK {α:Type} {p:α→Bool} {l:List α} {k:Nat} (e:k<l.length) (h:(l.take k).all p=true) (j:p l[k]=true):(l.take (k+1)).all p=true:=by
 rw[aCM e,List.all_append,h]; simp[j]
theorem EL {α:Type} {p:α→Bool} {l:List α} {k:Nat} (e:k<l.length) (j:p l[k]=false):l.all p=false:=by
 rw[List.all_eq_false];exact⟨l[k],aAG e,by simp[j]⟩
def Bv (s:List UInt8) (k:Nat):PF:=((PF.nil.set 0 (.str s)).set 3 (.int .i64 k))
theorem adR {C:Ctx} (B:∀ n:Nat,aG C 126 [.int .u8 n] .nil (aM (.bool (jB n)))) (E:∀ n:Nat,aG C 125 [.int .u8 n] .nil (aM (.bool (jA n)))) (s:List UInt8) :
  tB.wp C (aT uj.res (aM (.bool (isName s)))) (PF.args [.str s]) .nil:=by
 have fin:∀ (F:PF) (b:Bool),F 2=some (.bool b)→b=isName s→aT uj.res (aM (.bool (isName s))) .ret F .nil:=by intro F b h e;subst e;refine cD (.inr rfl) (vs:=[.bool (isName s)]) (by simp only[go_sem,uj,h]) rfl
 cases s with
 | nil =>simp only[go_sem,tB,GJ,GK,GL];exact fin _ _ rfl rfl
 | cons c t =>
  have J:(c::t)[0]?=some c:=rfl;have w:(c::t==[])=false:=rfl;have u:isName (c::t)=(decide ((c::t).length≤16)&&jB c.toNat&&(c::t).all fun c=>jA c.toNat):=rfl;generalize c::t=s at *
  by_cases A:s.length≤16
  ·have l:¬ (s.length:Int)>16:=Om;rw[decide_eq_true A,aBB] at u;simp only[go_sem,tB,GJ,GK,w,l,J,aBJ];refine aB (B c.toNat) rfl ?_;cases y:jB c.toNat with
   | false =>simp only[go_sem,aBF,GL];exact fin _ _ rfl (by rw[u,y]; rfl)
   | true =>
    rw[y,aBB] at u;simp only[go_sem,aAS,Bx];refine wp_loop (α:=Nat) (fun k=>Bv s k) (fun _=>.nil) (fun k=>k≤s.length∧(s.take k).all (fun c=>jA c.toNat)=true) (fun k=>s.length-k) 0 ⟨aAP _,rfl⟩ ?_ a_ ?_
    ·unfold Bv;exact Lq
    rintro k ⟨K,x⟩;simp only[go_sem,Bw,By,Bv];by_cases hlt:k<s.length
    ·have j:(k:Int)<(s.length:Nat):=Om;have I:s[k]?=some s[k]:=aAH hlt;simp only[go_sem,j,Bz,I,aBJ];refine aB (E (s[k]).toNat) rfl ?_;cases hi:jA (s[k]).toNat with
     | false =>simp only[go_sem,aBF,B0];refine fin _ false rfl ?_;rw[u,EL hlt hi]
     | true =>simp only[go_sem,aAS,B5,wZz k];refine aL (k+1) ⟨hlt,aBK.1 (EK hlt x hi)⟩ Om ?_ a_;exact Lq
    ·have j:¬ (k:Int)<(s.length:Nat):=Om;simp only[go_sem,j,B6];have:k=s.length:=Om;subst this;rw[aAQ (aAF _)] at x;exact fin _ true rfl (by rw[u,x])
  ·have l:(s.length:Int)>16:=Om;simp only[go_sem,tB,GJ,GK,GL,w,l];exact fin _ _ rfl (by rw[u,decide_eq_false A]; rfl)
abbrev dO (x:Int):Prop:=-9223372036854775808≤x∧x≤9223372036854775807
structure cT where
 name:List UInt8
 start:List RF
 ayR:List (List RF)
 exit:List RF
structure dD where
 name:List UInt8
 azD:Int
 port:Int
 law:Int
structure cP where
 name:List UInt8
 level:Int
 parent:Int
 azH:Int
 azC:RF
structure cZ where
 name:List UInt8
 model:Int
 machine:Int
structure cC where
 name:List UInt8
 k:Int
 m:Int
 azL:Int
 s0:Int
 s1:Int
 s2:Int
 s3:Int
 s4:Int
 ayN:List Int
 repair:List RF
 target:RF
 ayX:RF
structure gI where
 name:List UInt8
 ayZ:Int
structure aC where
 azS:Int
 ayU:List cT
 ayN:List dD
 ayP:List cP
 ayM:List cZ
 ayQ:List cC
 ayO:List gI
abbrev Vb (l:List (List RF)):PV:=.sl 1 (l.map fun r=>[frs r])
abbrev cT.cells (x:cT):List PV:=[.str x.name,frs x.start,Vb x.ayR,frs x.exit]
abbrev dD.cells (x:dD):List PV:=[.str x.name,.int .i64 x.azD,.int .i64 x.port,.int .i64 x.law]
abbrev cP.cells (x:cP):List PV:=[.str x.name,.int .i64 x.level,.int .i64 x.parent,.int .i64 x.azH,.bool x.azC.neg,aI x.azC.num,aI x.azC.den]
abbrev cZ.cells (x:cZ):List PV:=[.str x.name,.int .i64 x.model,.int .i64 x.machine]
abbrev cC.cells (x:cC):List PV:=[.str x.name,.int .i64 x.k,.int .i64 x.m,.int .i64 x.azL,.int .i64 x.s0,.int .i64 x.s1,.int .i64 x.s2,.int .i64 x.s3,.int .i64 x.s4,ints x.ayN,frs x.repair,
 .bool x.target.neg,aI x.target.num,aI x.target.den,.bool x.ayX.neg,aI x.ayX.num,aI x.ayX.den]
abbrev gI.cells (x:gI):List PV:=[.str x.name,.int .i64 x.ayZ]
abbrev aC.cells (f:aC):List PV:=[.int .i64 f.azS,.sl 4 (f.ayU.map cT.cells),.sl 4 (f.ayN.map dD.cells),.sl 7 (f.ayP.map cP.cells),.sl 3 (f.ayM.map cZ.cells),.sl 17 (f.ayQ.map cC.cells),.sl 2 (f.ayO.map gI.cells)]
def cC.spread (p:cC) (level:Nat):Int:=match level with
 | 0=>p.s0
 | 1=>p.s1
 | 2=>p.s2
 | 3=>p.s3
 | _=>p.s4
abbrev Fits {α:Type} (l:List α):Prop:=l.length≤9223372036854775807
structure oL (l:List RF):Prop where
 fits:Fits l
 all:∀ x∈l,x.Ok
structure cT.Ok (x:cT):Prop where
 start:oL x.start
 exit:oL x.exit
 ayR:Fits x.ayR
 row:∀ r∈x.ayR,oL r
structure cC.Ok (x:cC):Prop where
 k:dO x.k
 m:dO x.m
 azL:dO x.azL
 ayN:Fits x.ayN
 each:∀ m∈x.ayN,dO m
 repair:oL x.repair
 target:x.target.Ok
 ayX:x.ayX.Ok
structure aC.Ok (f:aC):Prop where
 ayU:Fits f.ayU
 ayN:Fits f.ayN
 ayP:Fits f.ayP
 ayM:Fits f.ayM
 ayQ:Fits f.ayQ
 ayO:Fits f.ayO
 law:∀ x∈f.ayU,x.Ok
 dom:∀ x∈f.ayP,x.azC.Ok∧dO x.level∧dO x.parent
 drive:∀ x∈f.ayM,dO x.model∧dO x.machine
 ayZ:∀ x∈f.ayQ,x.Ok
 volume:∀ x∈f.ayO,dO x.ayZ
def uN (x:RF):FR:=if dW (val x.num) (val x.den) then kZ x.neg (val x.num) (val x.den) else .error 1
theorem U7 (x:RF):QM x.neg (val x.num) (val x.den)=frV (uN x):=by
 unfold QM uN;split
 ·exact i0 _ _ _
 ·rfl
def fJ (x:RF):Bool:=match uN x with
 | .ok (n,a,b)=>!n&&(decide (cN a≤32)&&decide (cN b≤32))
 | .error _=>false
def bS (x:RF):Bool:=decide (val x.num≠0)
def WY (x:RF):Bool:=dW (val x.num) (val x.den)&&decide (wT x.neg (val x.num) (val x.den) false 1 1≤0)
def within (n lo hi:Int):Bool:=decide (lo≤n)&&decide (n≤hi)
def eE (R:List Bool) (i:Nat) (row:List RF):Nat→List Bool
 | 0=>R
 | k+1=>let e:=eE R i row k
  e.set i (e.getD i false||(row.map bS).getD k false&&e.getD k false)
def mC (l:cT) (R:List Bool) (i:Nat):List Bool :=
 eE (R.set i (R.getD i false||(l.exit.map bS).getD i false)) i (l.ayR.getD i []) (l.ayR.getD i []).length
def fE (l:cT) (R:List Bool):Nat→List Bool
 | 0=>R
 | i+1=>mC l (fE l R i) i
def hZ (l:cT):Nat→List Bool
 | 0=>aAC l.exit.length false
 | r+1=>fE l (hZ l r) l.exit.length
def sX (l:cT):Bool:=(hZ l (l.exit.length+1)).all id
def rF (l:cT):Bool :=
 within l.start.length 1 4&&decide (l.exit.length=l.start.length)&&decide (l.ayR.length=l.start.length)&&l.start.all fJ&&l.exit.all fJ
 && (aAB l.ayR.length).all (fun i=>decide ((l.ayR.getD i []).length=l.start.length)&&(l.ayR.getD i []).all fJ&&!((l.ayR.getD i []).map bS).getD i false)
 && (match qM (l.start.map RF.v) with
  | .ok (n,a,b)=>decide (wT n a b false 1 1=0)
  | .error _=>false)&&sX l
def distinct (l:List (List UInt8)):Bool:=(aAB l.length).all fun i=>isName (l.getD i [])&&!(l.take i).contains (l.getD i [])
def TL (f:aC) (i:Nat) (d:cP):Bool :=
 within d.parent 0 i&&decide ((f.ayP.map cP.level).getD d.parent.toNat 0=IntKind.i64.wrap (d.level-1))&&within d.level 1 4&&within d.azH 1 64&&fJ d.azC
def PN (f:aC) (r:cP) (t:List cP):Bool :=
 decide (r.name=[])&&decide (r.level=0)&&decide (r.parent=-1)&&decide (r.azH=0)&&fJ r.azC&&!bS r.azC
  && (aAB t.length).all fun i=>match t[i]? with
   | some d=>TL f i d
   | none=>false
def oX (f:aC):Bool:=match f.ayP with
 | []=>false
 | r::t=>PN f r t
def NH (p:cC):Bool :=
 within p.k 1 6&&within p.m 0 4&&decide (p.k+p.m≤8)&&within p.azL p.k (p.k+p.m)&&decide (p.s0=0)&&([p.s0,p.s1,p.s2,p.s3,p.s4].all fun n=>within n 0 8)
def QL (p:cC):Bool :=
 decide ((p.repair.length:Int)=max p.m 1)&&(p.repair.all fun x=>fJ x&&bS x)&&fJ p.target&&WY p.target&&fJ p.ayX
def jL (ayN:Nat) (p:cC):Bool :=
 NH p&&decide (p.ayN.length≠0)&&QL p&&(aAB p.ayN.length).all fun j=>within (p.ayN.getD j 0) 0 ((ayN:Int)-1)&&!(p.ayN.take j).contains (p.ayN.getD j 0)
def mT (f:aC) (m:dD):Bool:=within m.azD 1 16&&within m.port 1 64&&within m.law 0 ((f.ayU.length:Int)-1)
def kV (f:aC) (d:cZ):Bool:=within d.model 0 ((f.ayN.length:Int)-1)&&within d.machine 0 ((f.ayP.length:Int)-1)&&decide ((f.ayP.map cP.level).getD d.machine.toNat 0=4)
def oW (f:aC) (v:gI):Bool:=within v.ayZ 0 ((f.ayQ.length:Int)-1)
def pO (f:aC):Bool:=within f.azS 1 4&&decide (f.ayU.length≤4)&&decide (f.ayN.length≤4)&&decide (f.ayP.length≤40)&&decide (f.ayM.length≤24)&&decide (f.ayQ.length≤4)&&decide (f.ayO.length≤12)
def cV (f:aC):Bool :=
 pO f&&oX f&&(f.ayU.all rF&&f.ayN.all (mT f)&&f.ayM.all (kV f)&&f.ayQ.all (jL f.ayN.length)&&f.ayO.all (oW f))
 && (distinct (f.ayU.map cT.name)&&distinct (f.ayN.map dD.name)&&distinct ((f.ayP.drop 1).map cP.name++f.ayM.map cZ.name)&&distinct (f.ayQ.map cC.name)&&distinct (f.ayO.map gI.name))
end Go.PM
