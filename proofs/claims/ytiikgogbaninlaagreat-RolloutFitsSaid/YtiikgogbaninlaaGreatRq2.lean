/-
  Texts of ours, joined: Pm21 Pm22 Pm23 Pm24 Pm25 Pm26 Pm27 Pm29 Jf0 RfCode NaCode Pm30 Pm31 NaPlain NaW1 NaW2 NaW3 NaW4 NaW5 NaW6 NaW7 NaW8 NaW9 NaKn NaW10 NaW11 Pm32 NaW12 NaW13 NaW14 NaW15 FrCode FrW1 FrW2 FrW3 FrW4. No condition.
-/
import Derived.Test.YtiikgogbaninlaaGreatRq1
import Derived.ProofKit
import Derived.OpenShut
set_option linter.unusedSimpArgs false
set_option linter.unusedVariables false
open Nat renaming reduceEqDiff → γ, reduceAdd → δ, reduceSub → ε, reduceMul → ζ, reduceLT → η, reduceLeDiff → θ, reduceBEq → τ
open Int renaming reduceLT → ι, reduceLE → κ, reduceEq → μ, reduceToNat → ν, reduceAdd → ξ, reduceNeg → ο, reduceBEq → ρ, reduceBNe → σ
open List renaming reduceReplicate → υ
open List renaming length_map → bwN, range → bwO, replicate → bwP, getElem_mem → bwS, length_append → bwW, getElem?_eq_getElem → bxA, take_of_length_le → bxC, length_singleton → bxD, length_take → bxE, mem_cons → bxF, getD_eq_getElem?_getD → bxI, all_eq_true → bxL, take_length → bxM, drop_zero → bxP, append_assoc → bxU, mem_map → bxV, getElem?_map → bxW, getElem?_eq_none → bxY, getElem?_eq_some_iff → bxZ, mem_append → byA, not_mem_nil → byC, mem_range → byD, drop_eq_getElem_cons → byG, take_succ_eq_append_getElem → byH, length_drop → byI, mem_singleton → byJ, getElem_map → byO, getElem_of_mem → byP, length_cons → byQ, length_set → byR, Sublist → byT, append_nil → byU, length_nil → byV, nil_append → byW, take_append_drop → byX, getElem?_append_right → bzA, map_cons → bzB, mem_of_getElem? → bzC, map_append → bzD, nodup_append → bzE, getElem?_append_left → bzJ, cons_append → bzP, getElem?_take → bzQ, drop_of_length_le → bzU, getElem?_drop → bzV, length_replicate → bzW, eq_nil_of_length_eq_zero → bzY, set_append_right → bzZ
open Nat renaming gcd → bwQ, le_refl → bwR, mul_add → bwX, zero_le → bwZ, lt_or_ge → bxG, mul_assoc → bxH, mul_comm → bxK, add_mul → bxN, zero_add → bxO, mul_le_mul_right → bxQ, mod_eq_of_lt → bxR, mod_lt → bxX, add_zero → byB, pow_succ → byE, min_eq_left → byK, mul_le_mul_left → byM, pos_of_ne_zero → byN, add_assoc → byS, pow_pos → byY, div_lt_iff_lt_mul → bzF, eq_zero_or_pos → bzK, div_add_mod → bzR, div_eq_of_lt → bzS
open Bool renaming false_and → bwT, not_true → bwU, true_and → bwY, not_false → bxB, and_eq_true → bxJ, and_false → bxT, and_true → byL, and_assoc → bzI, false_eq_true → bzN
open Option renaming map_eq_some_iff → bwV, map_some → bxS, some → byZ, getD_some → bzG, bind_eq_some_iff → bzL, bind_some → bzX
open Array renaming replicate → byF, length_toList → bzH, getElem?_eq_getElem → bzM, getElem?_eq_some_iff → bzT
open Int renaming toNat_natCast → bzO
namespace Go.PM
open Go
attribute [go_sem] List.getElem?_cons_succ List.getElem?_cons_zero and_self and_true true_and or_true true_or or_false false_or bwU bxB bxS bzX if_true if_false byQ byV List.drop_succ_cons bxP List.take_succ_cons List.take_zero bzB List.map_nil byZ.injEq PV.bool.injEq PV.int.injEq aN PV.bin
@[go_sem] theorem bhX (k:IntKind) (a b:Int):jI .add k a b=some (.int k (k.wrap (a+b))):=(rfl)
@[go_sem] theorem biH (k:IntKind) (a b:Int):jI .sub k a b=some (.int k (k.wrap (a-b))):=(rfl)
@[go_sem] theorem biD (k:IntKind) (a b:Int):jI .mul k a b=some (.int k (k.wrap (a*b))):=(rfl)
@[go_sem] theorem biF (k:IntKind) (a b:Int):jI .quo k a b=if b=0 then none else some (.int k (k.wrap (a.tdiv b))):=(rfl)
@[go_sem] theorem biG (k:IntKind) (a b:Int):jI .rem k a b=if b=0 then none else some (.int k (a.tmod b)):=(rfl)
@[go_sem] theorem bhY (k:IntKind) (a b:Int):jI .eql k a b=some (.bool (a==b)):=(rfl)
@[go_sem] theorem biE (k:IntKind) (a b:Int):jI .neq k a b=some (.bool (a != b)):=(rfl)
@[go_sem] theorem biC (k:IntKind) (a b:Int):jI .lss k a b=some (.bool (decide (a<b))):=(rfl)
@[go_sem] theorem biB (k:IntKind) (a b:Int):jI .leq k a b=some (.bool (decide (a≤b))):=(rfl)
@[go_sem] theorem biA (k:IntKind) (a b:Int):jI .gtr k a b=some (.bool (decide (a>b))):=(rfl)
@[go_sem] theorem bhZ (k:IntKind) (a b:Int):jI .geq k a b=some (.bool (decide (a≥b))):=(rfl)
section
variable {C:Ctx} {K:cI} {F:PF} {H:PH}
@[go_sem] theorem bsM:aB.wp C .skip K F H=K .normal F H:=(rfl)
@[go_sem] theorem bkC (ops:List aZ):aB.wp C (.region ops) K F H=wpOps C ops (K .normal) F H:=(rfl)
@[go_sem] theorem beA (a b:aB):aB.wp C (.seq a b) K F H=a.wp C (gW C (b.wp C) K) F H:=(rfl)
@[go_sem] theorem blJ (id:Nat) (c:aB):aB.wp C (.block id c) K F H=c.wp C (dR id K) F H:=(rfl)
@[go_sem] theorem bsL (id:Nat):aB.wp C (.exit id) K F H=K (.exit id) F H:=(rfl)
@[go_sem] theorem bsX:aB.wp C .ret K F H=K .ret F H:=(rfl)
def PA (C:Ctx) (v:Option PV) (a b:aB) (K:cI) (F:PF) (H:PH):Prop :=
 match v with
 | some (.bool t)=>if t then a.wp C K F H else b.wp C K F H
 | _=>False
@[go_sem] theorem a8C (c:aO) (a b:aB):aB.wp C (.cond c a b) K F H=PA C (c.ev F) a b K F H:=(rfl)
@[go_sem] theorem biO (a b:aB):PA C (some (.bool true)) a b K F H=a.wp C K F H:=(rfl)
@[go_sem] theorem bhB (a b:aB):PA C (some (.bool false)) a b K F H=b.wp C K F H:=(rfl)
theorem kB {t:Bool} {a b:aB} (h1:t=true→a.wp C K F H) (h2:t=false→b.wp C K F H):PA C (some (.bool t)) a b K F H:=by
 cases t
 ·exact h2 rfl
 ·exact h1 rfl
@[go_sem] theorem bhH (w:cI→PF→PH→Prop):gW C w K .normal F H=w K F H:=(rfl)
@[go_sem] theorem bgR (w:cI→PF→PH→Prop):gW C w K .normal=w K:=(rfl)
@[go_sem] theorem bkX (w:cI→PF→PH→Prop) (id:Nat):gW C w K (.exit id)=K (.exit id):=(rfl)
@[go_sem] theorem bsC (w:cI→PF→PH→Prop):gW C w K .ret=K .ret:=(rfl)
@[go_sem] theorem beL (id:Nat):dR id K .normal=K .normal:=(rfl)
@[go_sem] theorem biL (id:Nat):dR id K .ret=K .ret:=(rfl)
@[go_sem] theorem QE (id id':Nat):dR id K (.exit id') F H=if id'=id then K .normal F H else K (.exit id') F H:=(rfl)
@[go_sem] theorem bkA (K:PF→PH→Prop):wpOps C [] K F H=K F H:=(rfl)
@[go_sem] theorem bkB (d:Option Nat) (op:POp) (rest:List aZ) (K:PF→PH→Prop):wpOps C (⟨d,op,none⟩::rest) K F H=wpOp C op d (wpOps C rest K) F H:=(rfl)
def sF (C:Ctx) (v:Option PV) (want:Bool) (op:POp) (d:Option Nat) (rest:List aZ) (K:PF→PH→Prop) (F:PF) (H:PH):Prop :=
 match v with
 | some (.bool b)=>if b=want then wpOp C op d (wpOps C rest K) F H else wpOps C rest K (F.put d (.tup [])) H
 | some (.tup [])=>wpOps C rest K (F.put d (.tup [])) H
 | _=>False
@[go_sem] theorem aIG (d:Option Nat) (op:POp) (t:Nat) (want:Bool) (rest:List aZ) (K:PF→PH→Prop) :
  wpOps C (⟨d,op,some (t,want)⟩::rest) K F H=sF C (F t) want op d rest K F H:=(rfl)
@[go_sem] theorem bkT (op:POp) (d:Option Nat) (rest:List aZ) (K:PF→PH→Prop):sF C (some (.bool true)) true op d rest K F H=wpOp C op d (wpOps C rest K) F H:=(rfl)
@[go_sem] theorem bkQ (op:POp) (d:Option Nat) (rest:List aZ) (K:PF→PH→Prop):sF C (some (.bool false)) false op d rest K F H=wpOp C op d (wpOps C rest K) F H:=(rfl)
@[go_sem] theorem bkS (op:POp) (d:Option Nat) (rest:List aZ) (K:PF→PH→Prop):sF C (some (.bool true)) false op d rest K F H=wpOps C rest K (F.put d (.tup [])) H:=(rfl)
@[go_sem] theorem bkR (op:POp) (d:Option Nat) (rest:List aZ) (K:PF→PH→Prop):sF C (some (.bool false)) true op d rest K F H=wpOps C rest K (F.put d (.tup [])) H:=(rfl)
@[go_sem] theorem bhG (want:Bool) (op:POp) (d:Option Nat) (rest:List aZ) (K:PF→PH→Prop):sF C (some (.tup [])) want op d rest K F H=wpOps C rest K (F.put d (.tup [])) H:=(rfl)
@[go_sem] theorem bpD (d:Nat) (v:PV):F.put (some d) v=F.set d v:=(rfl)
@[go_sem] theorem bpC (v:PV):F.put none v=F:=(rfl)
@[go_sem] theorem mN (i j:Nat) (v:PV):(F.set i v) j=if j=i then some v else F j:=(rfl)
@[go_sem] theorem args_at (vs:List PV) (i:Nat):PF.args vs i=vs[i]?:=(rfl)
@[go_sem] theorem btC (i:Nat):PF.nil i=none:=(rfl)
@[go_sem] theorem YT (t:Nat):(aO.tmp t).ev F=F t:=(rfl)
@[go_sem] theorem boU (v:PV):(aO.const v).ev F=some v:=(rfl)
@[go_sem] theorem bL (i j:Nat) (x:cM):(H.set i x) j=if j=i then some x else H j:=(rfl)
@[go_sem] theorem agY (i:Nat):PH.nil i=none:=(rfl)
@[go_sem] theorem PD:aO.evs F []=some []:=(rfl)
@[go_sem] theorem vD (x:aO) (xs:List aO):aO.evs F (x::xs)=(match x.ev F,aO.evs F xs with | some v,some vs=>some (v::vs) | _,_=>none):=(rfl)
theorem cS {i j:Nat} {x:cM}:(H.set i x) j=none↔j≠i∧H j=none:=by
 rw[bL]
 split<;>simp_all
@[go_sem] theorem bhI (v:PV) (d:Option Nat) (K:PF→PH→Prop):bN (some v) d K F H=K (F.put d v) H:=by
 simp[bN]
theorem aP {mk:Nat→PV} {x:cM} {d:Option Nat} {K:PF→PH→Prop} (h:∀ o,H o=none→K (F.put d (mk o)) (H.set o x)):kK (some (mk,x)) d K F H:=⟨mk,x,rfl,h⟩
@[go_sem] theorem bsV (x:aO) (d:Option Nat) (K:PF→PH→Prop):wpOp C (.mv x) d K F H=bN (aN (.mv x) F H) d K F H:=(rfl)
@[go_sem] theorem blI (x:aO) (d:Option Nat) (K:PF→PH→Prop):wpOp C (.same x) d K F H=bN (aN (.same x) F H) d K F H:=(rfl)
@[go_sem] theorem blH (c a b:aO) (d:Option Nat) (K:PF→PH→Prop):wpOp C (.pick c a b) d K F H=bN (aN (.pick c a b) F H) d K F H:=(rfl)
@[go_sem] theorem bsG (o:BinOp) (x y:aO) (d:Option Nat) (K:PF→PH→Prop):wpOp C (.bin o x y) d K F H=bN (aN (.bin o x y) F H) d K F H:=(rfl)
@[go_sem] theorem bsI (n:Bool) (x y:aO) (d:Option Nat) (K:PF→PH→Prop):wpOp C (.eqb n x y) d K F H=bN (aN (.eqb n x y) F H) d K F H:=(rfl)
@[go_sem] theorem bsJ (n:Bool) (ks:List Sc) (x y:aO) (d:Option Nat) (K:PF→PH→Prop):wpOp C (.eqs n ks x y) d K F H=bN (aN (.eqs n ks x y) F H) d K F H:=(rfl)
@[go_sem] theorem bsW (o:UnOp) (x:aO) (d:Option Nat) (K:PF→PH→Prop):wpOp C (.un o x) d K F H=bN (aN (.un o x) F H) d K F H:=(rfl)
@[go_sem] theorem blB (k:IntKind) (x:aO) (d:Option Nat) (K:PF→PH→Prop):wpOp C (.conv k x) d K F H=bN (aN (.conv k x) F H) d K F H:=(rfl)
@[go_sem] theorem bjU (z:List PV) (ps:List (Nat × Nat × aO)) (d:Option Nat) (K:PF→PH→Prop):wpOp C (.build z ps) d K F H=bN (aN (.build z ps) F H) d K F H:=(rfl)
@[go_sem] theorem blF (n:Option Nat) (p:aO) (d:Option Nat) (K:PF→PH→Prop):wpOp C (.load n p) d K F H=bN (aN (.load n p) F H) d K F H:=(rfl)
@[go_sem] theorem bhT (x:aO) (d:Option Nat) (K:PF→PH→Prop):wpOp C (.buY x) d K F H=bN (aN (.buY x) F H) d K F H:=(rfl)
@[go_sem] theorem bhM (off:Nat) (x:aO) (d:Option Nat) (K:PF→PH→Prop):wpOp C (.bvV off x) d K F H=bN (aN (.bvV off x) F H) d K F H:=(rfl)
@[go_sem] theorem bjW (off:Nat) (n:Option Nat) (x:aO) (d:Option Nat) (K:PF→PH→Prop):wpOp C (.field off n x) d K F H=bN (aN (.field off n x) F H) d K F H:=(rfl)
@[go_sem] theorem blD (s:Nat) (x i:aO) (d:Option Nat) (K:PF→PH→Prop):wpOp C (.bvE s x i) d K F H=bN (aN (.bvE s x i) F H) d K F H:=(rfl)
@[go_sem] theorem blC (n s:Nat) (x i:aO) (d:Option Nat) (K:PF→PH→Prop):wpOp C (.idxA n s x i) d K F H=bN (aN (.idxA n s x i) F H) d K F H:=(rfl)
@[go_sem] theorem blE (n s:Nat) (g:Bool) (x i:aO) (d:Option Nat) (K:PF→PH→Prop):wpOp C (.idxV n s g x i) d K F H=bN (aN (.idxV n s g x i) F H) d K F H:=(rfl)
@[go_sem] theorem bhN (x i:aO) (d:Option Nat) (K:PF→PH→Prop):wpOp C (.bvS x i) d K F H=bN (aN (.bvS x i) F H) d K F H:=(rfl)
@[go_sem] theorem bjY (s:Nat) (x:aO) (lo hi mx:Option aO) (d:Option Nat) (K:PF→PH→Prop):wpOp C (.slice s x lo hi mx) d K F H=bN (aN (.slice s x lo hi mx) F H) d K F H:=(rfl)
@[go_sem] theorem bhU (n s:Nat) (x:aO) (lo hi mx:Option aO) (d:Option Nat) (K:PF→PH→Prop):wpOp C (.sliceA n s x lo hi mx) d K F H=bN (aN (.sliceA n s x lo hi mx) F H) d K F H:=(rfl)
@[go_sem] theorem beO (x:aO) (lo hi:Option aO) (d:Option Nat) (K:PF→PH→Prop):wpOp C (.bvM x lo hi) d K F H=bN (aN (.bvM x lo hi) F H) d K F H:=(rfl)
@[go_sem] theorem bkU:PV.yP .buJ=some (.int .i64 0):=(rfl)
@[go_sem] theorem bsU (s:Nat) (rows:List (List PV)):PV.yP (.sl s rows)=some (.int .i64 rows.length):=(rfl)
@[go_sem] theorem bpB (o s off n:Nat):PV.yP (.osl o s off n)=some (.int .i64 n):=(rfl)
@[go_sem] theorem bsK (x:aO) (d:Option Nat) (K:PF→PH→Prop):wpOp C (.len x) d K F H=bN (aN (.len x) F H) d K F H:=(rfl)
@[go_sem] theorem bhP (x:aO) (d:Option Nat) (K:PF→PH→Prop):wpOp C (.bvR x) d K F H=bN (aN (.bvR x) F H) d K F H:=(rfl)
@[go_sem] theorem bhL (x:aO) (d:Option Nat) (K:PF→PH→Prop):wpOp C (.bwL x) d K F H=bN (aN (.bwL x) F H) d K F H:=(rfl)
@[go_sem] theorem bgY (x:aO) (i:Nat) (d:Option Nat) (K:PF→PH→Prop):wpOp C (.extract x i) d K F H=bN (aN (.extract x i) F H) d K F H:=(rfl)
@[go_sem] theorem bhS (m:Bool) (x y:aO) (d:Option Nat) (K:PF→PH→Prop):wpOp C (.bvK m x y) d K F H=bN (aN (.bvK m x y) F H) d K F H:=(rfl)
@[go_sem] theorem blG (n:Nat) (cs:List aO) (d:Option Nat) (K:PF→PH→Prop):wpOp C (.mkfn n cs) d K F H=bN (aN (.mkfn n cs) F H) d K F H:=(rfl)
@[go_sem] theorem bhQ (sh:MSh) (z:PV) (x k:aO) (ok:Bool) (d:Option Nat) (K:PF→PH→Prop):wpOp C (.lookup sh z x k ok) d K F H=bN (aN (.lookup sh z x k ok) F H) d K F H:=(rfl)
@[go_sem] theorem bdZ (x:aO) (d:Option Nat) (K:PF→PH→Prop):wpOp C (.buZ x) d K F H=bN (aN (.buZ x) F H) d K F H:=(rfl)
@[go_sem] theorem bkZ (x:aO) (d:Option Nat) (K:PF→PH→Prop):wpOp C (.box true x) d K F H=bN (aN (.box true x) F H) d K F H:=(rfl)
@[go_sem] theorem bgX (s l:Nat) (z:List PV) (ps:List (Nat × aO)) (d:Option Nat) (K:PF→PH→Prop):wpOp C (.buO true s l z ps) d K F H=bN (aN (.buO true s l z ps) F H) d K F H:=(rfl)
@[go_sem] theorem bjT (cs:List PV) (d:Option Nat) (K:PF→PH→Prop):wpOp C (.alloc cs) d K F H=kK (cN (.alloc cs) F) d K F H:=(rfl)
@[go_sem] theorem bgZ (s b:Nat) (z:List PV) (l c:aO) (d:Option Nat) (K:PF→PH→Prop):wpOp C (.buT s b z l c) d K F H=kK (cN (.buT s b z l c) F) d K F H:=(rfl)
@[go_sem] theorem bjX (sh:MSh) (d:Option Nat) (K:PF→PH→Prop):wpOp C (.bwF sh) d K F H=kK (cN (.bwF sh) F) d K F H:=(rfl)
@[go_sem] theorem bsH (x:aO) (d:Option Nat) (K:PF→PH→Prop):wpOp C (.box false x) d K F H=kK (cN (.box false x) F) d K F H:=(rfl)
@[go_sem] theorem bhK (s l:Nat) (z:List PV) (ps:List (Nat × aO)) (d:Option Nat) (K:PF→PH→Prop):wpOp C (.buO false s l z ps) d K F H=kK (cN (.buO false s l z ps) F) d K F H:=(rfl)
@[go_sem] theorem bjZ (n:Nat) (p x:aO) (d:Option Nat) (K:PF→PH→Prop):wpOp C (.store n p x) d K F H=bP (.store n p x) F H (fun r H'=>K (F.put d r) H'):=(rfl)
@[go_sem] theorem bhJ (s b:Nat) (x y:aO) (d:Option Nat) (K:PF→PH→Prop):wpOp C (.append s b x y) d K F H=bP (.append s b x y) F H (fun r H'=>K (F.put d r) H'):=(rfl)
@[go_sem] theorem bhR (sh:MSh) (x k v:aO) (d:Option Nat) (K:PF→PH→Prop):wpOp C (.bvH sh x k v) d K F H=bP (.bvH sh x k v) F H (fun r H'=>K (F.put d r) H'):=(rfl)
@[go_sem] theorem bhO (sh:MSh) (x k v:aO) (d:Option Nat) (K:PF→PH→Prop):wpOp C (.insert sh x k v) d K F H=bP (.insert sh x k v) F H (fun r H'=>K (F.put d r) H'):=(rfl)
@[go_sem] theorem blA (n:Nat) (az:List aO) (d:Option Nat) (K:PF→PH→Prop):wpOp C (.call n az) d K F H=fQ C n az [] d K F H:=(rfl)
@[go_sem] theorem bjV (x:aO) (az:List aO) (d:Option Nat) (K:PF→PH→Prop):wpOp C (.bvU x az) d K F H=(∃ n cs,x.ev F=some (.fn n cs)∧fQ C n az cs d K F H):=(rfl)
theorem PF.nil_le:PF.nil.le F:=fun _ _ h=>(by cases h)
theorem PF.aH {i:Nat} {v:PV} {G:PF} (h1:F.le G) (h2:G i=some v):(F.set i v).le G:=by
 intro j u hj
 rw[mN] at hj
 split at hj
 ·rename_i e; subst e; cases hj; exact h2
 ·exact h1 _ _ hj
theorem PF.le_refl:F.le F:=fun _ _ h=>h
theorem PH.nil_le:PH.nil.le H:=fun _ _ h=>(by cases h)
theorem PH.aH {i:Nat} {x:cM} {G:PH} (h1:H.le G) (h2:G i=some x):(H.set i x).le G:=by
 intro j u hj
 rw[bL] at hj
 split at hj
 ·rename_i e; subst e; cases hj; exact h2
 ·exact h1 _ _ hj
theorem PH.le_refl:H.le H:=fun _ _ h=>h
theorem wp_loop {c:aB} {α:Type} (Fs:α→PF) (Hs:α→PH) (Pr:α→Prop) (m:α→Nat) (a0:α) (h0:Pr a0) (hF:(Fs a0).le F) (hH:(Hs a0).le H)
  (hb:∀ a,Pr a→c.wp C (eA Fs Hs Pr m (m a) K) (Fs a) (Hs a)):aB.wp C (.loop c) K F H :=
 ⟨α,Fs,Hs,Pr,m,a0,F,H,.refl F H,h0,hF,hH,hb⟩
theorem aJ {α:Type} {Fs:α→PF} {Hs:α→PH} {Pr:α→Prop} {m:α→Nat} {n:Nat} (a:α) (h0:Pr a) (hm:m a<n) (hF:(Fs a).le F) (hH:(Hs a).le H):eA Fs Hs Pr m n K .normal F H :=
 ⟨a,F,H,.refl F H,h0,hm,hF,hH⟩
@[go_sem] theorem bjG {α:Type} {Fs:α→PF} {Hs:α→PH} {Pr:α→Prop} {m:α→Nat} {n:Nat} (id:Nat):eA Fs Hs Pr m n K (.exit id)=K (.exit id):=(rfl)
@[go_sem] theorem bkV {α:Type} {Fs:α→PF} {Hs:α→PH} {Pr:α→Prop} {m:α→Nat} {n:Nat}:eA Fs Hs Pr m n K .ret=K .ret:=(rfl)
def aC (v:PV) (r:PV) (H:PH):Prop:=r=v∧H=PH.nil
theorem PH.kZ:H.eM .nil .nil=H:=PH.ext fun o=>rfl
theorem aIF {name:Nat} {vs cs:List PV} {v:PV} {args:List aO} {d:Option Nat} {K:PF→PH→Prop} (h:aE C name (vs++cs) .nil (aC v)) (ha:aO.evs F args=some vs)
  (hk:K (F.put d v) H):fQ C name args cs d K F H:=by
 refine .inl ⟨vs++cs,.nil,_,by rw[ha]; rfl,PH.nil_le,h,?_⟩
 rintro r H' ⟨rfl,rfl⟩ _
 rw[PH.kZ]
 exact hk
theorem aA {name:Nat} {vs:List PV} {v:PV} {args:List aO} {d:Option Nat} {K:PF→PH→Prop} (h:aE C name vs .nil (aC v)) (ha:aO.evs F args=some vs)
  (hk:K (F.put d v) H):fQ C name args [] d K F H:=aIF (cs:=[]) (by rw[byU]; exact h) ha hk
theorem aI {res:List dQ} {vs:List PV} {v:PV} {e:lS} (he:e=.normal∨e=.ret) (h:dQ.evs F H res=some vs) (hv:aT vs=v):aS res (aC v) e F H:=by
 have key:∃ vs,dQ.evs F H res=some vs∧∃ F1 H1 H2,iD (PF.nil.set 0 (aT vs)) H F1 H1∧H2.le H1∧∃ u,F1 0=some u∧aC v u H2 :=
  ⟨vs,h,_,H,.nil,.refl _ _,PH.nil_le,v,by rw[mN,if_pos rfl,hv],rfl,rfl⟩
 rcases he with rfl | rfl<;>exact key
@[go_sem] theorem pC:dQ.evs F H []=some []:=(rfl)
@[go_sem] theorem kF (x:dQ) (xs:List dQ):dQ.evs F H (x::xs)=(match x.ev F H,dQ.evs F H xs with | some v,some vs=>some (v::vs) | _,_=>none):=(rfl)
@[go_sem] theorem nG (t:Nat):dQ.ev F H (.tmp t)=F t:=(rfl)
@[go_sem] theorem bsA (t:Nat):dQ.ev F H (.cell t none)=(match F t with | some p=>(match loadCells H p 1 with | some [v]=>some v | _=>none) | none=>none):=(rfl)
@[go_sem] theorem bkW (t k:Nat):dQ.ev F H (.cell t (some k))=(match F t with | some p=>(loadCells H p k).map .agg | none=>none):=(rfl)
end
section
variable {C:Ctx} {K:cI} {F:PF} {H Hs:PH} {S:Spec}
theorem bM {ops:List (aZ × Bool)} (Hs:PH) (S:Spec) (hle:Hs.le H) (h:wpD C Hs S ops (K .normal) F H):aB.wp C (.draw ops) K F H:=⟨Hs,S,hle,h⟩
def dV:Spec:=fun _ _=>none
def dOp (C:Ctx) (Hs:PH) (S:Spec) (st:Bool) (op:POp) (d:Option Nat) (K:PF→PH→Prop) (F:PF) (H:PH):Prop:=(op.kind F).run C Hs S st (fun v H'=>K (F.put d v) H') H
@[go_sem] theorem bsE (K:PF→PH→Prop):wpD C Hs S [] K F H=K F H:=(rfl)
@[go_sem] theorem bsF (d:Option Nat) (op:POp) (st:Bool) (rest:List (aZ × Bool)) (K:PF→PH→Prop):wpD C Hs S ((⟨d,op,none⟩,st)::rest) K F H=dOp C Hs S st op d (wpD C Hs S rest K) F H:=(rfl)
def vI (C:Ctx) (Hs:PH) (S:Spec) (v:Option PV) (want st:Bool) (op:POp) (d:Option Nat) (rest:List (aZ × Bool)) (K:PF→PH→Prop) (F:PF) (H:PH):Prop :=
 match v with
 | some (.bool b)=>if b=want then dOp C Hs S st op d (wpD C Hs S rest K) F H else wpD C Hs S rest K (F.put d (.tup [])) H
 | some (.tup [])=>wpD C Hs S rest K (F.put d (.tup [])) H
 | _=>False
@[go_sem] theorem bkY (d:Option Nat) (op:POp) (t:Nat) (want st:Bool) (rest:List (aZ × Bool)) (K:PF→PH→Prop) :
  wpD C Hs S ((⟨d,op,some (t,want)⟩,st)::rest) K F H=vI C Hs S (F t) want st op d rest K F H:=by
 have e1:wpD C Hs S ((⟨d,op,some (t,want)⟩,st)::rest) K F H=((⟨d,op,some (t,want)⟩:aZ).kind F).run C Hs S st (fun v H'=>wpD C Hs S rest K (F.put d v) H') H:=(rfl)
 rw[e1]
 unfold aZ.kind vI
 simp only
 cases F t with
 | none=>rfl
 | some v =>
  cases v
  case bool b =>
   simp only
   by_cases hb:b=want
   ·rw[if_pos hb,if_pos hb]; rfl
   ·rw[if_neg hb,if_neg hb]; simp[Kind.run]
  case tup vs=>cases vs<;>simp[Kind.run]
  all_goals rfl
@[go_sem] theorem bkP (op:POp) (st:Bool) (d:Option Nat) (rest:List (aZ × Bool)) (K:PF→PH→Prop):vI C Hs S (some (.bool true)) true st op d rest K F H=dOp C Hs S st op d (wpD C Hs S rest K) F H:=(rfl)
@[go_sem] theorem bkM (op:POp) (st:Bool) (d:Option Nat) (rest:List (aZ × Bool)) (K:PF→PH→Prop):vI C Hs S (some (.bool false)) false st op d rest K F H=dOp C Hs S st op d (wpD C Hs S rest K) F H:=(rfl)
@[go_sem] theorem bkO (op:POp) (st:Bool) (d:Option Nat) (rest:List (aZ × Bool)) (K:PF→PH→Prop):vI C Hs S (some (.bool true)) false st op d rest K F H=wpD C Hs S rest K (F.put d (.tup [])) H:=(rfl)
@[go_sem] theorem bkN (op:POp) (st:Bool) (d:Option Nat) (rest:List (aZ × Bool)) (K:PF→PH→Prop):vI C Hs S (some (.bool false)) true st op d rest K F H=wpD C Hs S rest K (F.put d (.tup [])) H:=(rfl)
@[go_sem] theorem bhF (want:Bool) (op:POp) (st:Bool) (d:Option Nat) (rest:List (aZ × Bool)) (K:PF→PH→Prop):vI C Hs S (some (.tup [])) want st op d rest K F H=wpD C Hs S rest K (F.put d (.tup [])) H:=(rfl)
@[go_sem] theorem bsY (x:aO) (st:Bool) (d:Option Nat) (K:PF→PH→Prop):dOp C Hs S st (.mv x) d K F H=bN (aN (.mv x) F (if st then Hs else H)) d K F H:=(rfl)
@[go_sem] theorem boS (x:aO) (st:Bool) (d:Option Nat) (K:PF→PH→Prop):dOp C Hs S st (.same x) d K F H=bN (aN (.same x) F (if st then Hs else H)) d K F H:=(rfl)
@[go_sem] theorem boR (c a b:aO) (st:Bool) (d:Option Nat) (K:PF→PH→Prop):dOp C Hs S st (.pick c a b) d K F H=bN (aN (.pick c a b) F (if st then Hs else H)) d K F H:=(rfl)
@[go_sem] theorem bsN (o:BinOp) (x y:aO) (st:Bool) (d:Option Nat) (K:PF→PH→Prop):dOp C Hs S st (.bin o x y) d K F H=bN (aN (.bin o x y) F (if st then Hs else H)) d K F H:=(rfl)
@[go_sem] theorem bsP (n:Bool) (x y:aO) (st:Bool) (d:Option Nat) (K:PF→PH→Prop):dOp C Hs S st (.eqb n x y) d K F H=bN (aN (.eqb n x y) F (if st then Hs else H)) d K F H:=(rfl)
@[go_sem] theorem bsQ (n:Bool) (ks:List Sc) (x y:aO) (st:Bool) (d:Option Nat) (K:PF→PH→Prop):dOp C Hs S st (.eqs n ks x y) d K F H=bN (aN (.eqs n ks x y) F (if st then Hs else H)) d K F H:=(rfl)
@[go_sem] theorem bsZ (o:UnOp) (x:aO) (st:Bool) (d:Option Nat) (K:PF→PH→Prop):dOp C Hs S st (.un o x) d K F H=bN (aN (.un o x) F (if st then Hs else H)) d K F H:=(rfl)
@[go_sem] theorem boL (k:IntKind) (x:aO) (st:Bool) (d:Option Nat) (K:PF→PH→Prop):dOp C Hs S st (.conv k x) d K F H=bN (aN (.conv k x) F (if st then Hs else H)) d K F H:=(rfl)
@[go_sem] theorem bkE (z:List PV) (ps:List (Nat × Nat × aO)) (st:Bool) (d:Option Nat) (K:PF→PH→Prop):dOp C Hs S st (.build z ps) d K F H=bN (aN (.build z ps) F (if st then Hs else H)) d K F H:=(rfl)
@[go_sem] theorem boP (n:Option Nat) (p:aO) (st:Bool) (d:Option Nat) (K:PF→PH→Prop):dOp C Hs S st (.load n p) d K F H=bN (aN (.load n p) F (if st then Hs else H)) d K F H:=(rfl)
@[go_sem] theorem biY (x:aO) (st:Bool) (d:Option Nat) (K:PF→PH→Prop):dOp C Hs S st (.buY x) d K F H=bN (aN (.buY x) F (if st then Hs else H)) d K F H:=(rfl)
@[go_sem] theorem biS (off:Nat) (x:aO) (st:Bool) (d:Option Nat) (K:PF→PH→Prop):dOp C Hs S st (.bvV off x) d K F H=bN (aN (.bvV off x) F (if st then Hs else H)) d K F H:=(rfl)
@[go_sem] theorem bkF (off:Nat) (n:Option Nat) (x:aO) (st:Bool) (d:Option Nat) (K:PF→PH→Prop):dOp C Hs S st (.field off n x) d K F H=bN (aN (.field off n x) F (if st then Hs else H)) d K F H:=(rfl)
@[go_sem] theorem boN (s:Nat) (x i:aO) (st:Bool) (d:Option Nat) (K:PF→PH→Prop):dOp C Hs S st (.bvE s x i) d K F H=bN (aN (.bvE s x i) F (if st then Hs else H)) d K F H:=(rfl)
@[go_sem] theorem boM (n s:Nat) (x i:aO) (st:Bool) (d:Option Nat) (K:PF→PH→Prop):dOp C Hs S st (.idxA n s x i) d K F H=bN (aN (.idxA n s x i) F (if st then Hs else H)) d K F H:=(rfl)
@[go_sem] theorem boO (n s:Nat) (g:Bool) (x i:aO) (st:Bool) (d:Option Nat) (K:PF→PH→Prop):dOp C Hs S st (.idxV n s g x i) d K F H=bN (aN (.idxV n s g x i) F (if st then Hs else H)) d K F H:=(rfl)
@[go_sem] theorem biT (x i:aO) (st:Bool) (d:Option Nat) (K:PF→PH→Prop):dOp C Hs S st (.bvS x i) d K F H=bN (aN (.bvS x i) F (if st then Hs else H)) d K F H:=(rfl)
@[go_sem] theorem bkH (s:Nat) (x:aO) (lo hi mx:Option aO) (st:Bool) (d:Option Nat) (K:PF→PH→Prop):dOp C Hs S st (.slice s x lo hi mx) d K F H=bN (aN (.slice s x lo hi mx) F (if st then Hs else H)) d K F H:=(rfl)
@[go_sem] theorem beY (x:aO) (lo hi:Option aO) (st:Bool) (d:Option Nat) (K:PF→PH→Prop):dOp C Hs S st (.bvM x lo hi) d K F H=bN (aN (.bvM x lo hi) F (if st then Hs else H)) d K F H:=(rfl)
@[go_sem] theorem bsR (x:aO) (st:Bool) (d:Option Nat) (K:PF→PH→Prop):dOp C Hs S st (.len x) d K F H=bN (aN (.len x) F (if st then Hs else H)) d K F H:=(rfl)
@[go_sem] theorem biU (x:aO) (st:Bool) (d:Option Nat) (K:PF→PH→Prop):dOp C Hs S st (.bvR x) d K F H=bN (aN (.bvR x) F (if st then Hs else H)) d K F H:=(rfl)
@[go_sem] theorem biR (x:aO) (st:Bool) (d:Option Nat) (K:PF→PH→Prop):dOp C Hs S st (.bwL x) d K F H=bN (aN (.bwL x) F (if st then Hs else H)) d K F H:=(rfl)
@[go_sem] theorem bhD (x:aO) (i:Nat) (st:Bool) (d:Option Nat) (K:PF→PH→Prop):dOp C Hs S st (.extract x i) d K F H=bN (aN (.extract x i) F (if st then Hs else H)) d K F H:=(rfl)
@[go_sem] theorem biX (m:Bool) (x y:aO) (st:Bool) (d:Option Nat) (K:PF→PH→Prop):dOp C Hs S st (.bvK m x y) d K F H=bN (aN (.bvK m x y) F (if st then Hs else H)) d K F H:=(rfl)
@[go_sem] theorem boQ (n:Nat) (cs:List aO) (st:Bool) (d:Option Nat) (K:PF→PH→Prop):dOp C Hs S st (.mkfn n cs) d K F H=bN (aN (.mkfn n cs) F (if st then Hs else H)) d K F H:=(rfl)
@[go_sem] theorem biV (sh:MSh) (z:PV) (x k:aO) (ok:Bool) (st:Bool) (d:Option Nat) (K:PF→PH→Prop):dOp C Hs S st (.lookup sh z x k ok) d K F H=bN (aN (.lookup sh z x k ok) F (if st then Hs else H)) d K F H:=(rfl)
@[go_sem] theorem beN (x:aO) (st:Bool) (d:Option Nat) (K:PF→PH→Prop):dOp C Hs S st (.buZ x) d K F H=bN (aN (.buZ x) F (if st then Hs else H)) d K F H:=(rfl)
@[go_sem] theorem boK (x:aO) (st:Bool) (d:Option Nat) (K:PF→PH→Prop):dOp C Hs S st (.box true x) d K F H=bN (aN (.box true x) F (if st then Hs else H)) d K F H:=(rfl)
@[go_sem] theorem bhC (s l:Nat) (z:List PV) (ps:List (Nat × aO)) (st:Bool) (d:Option Nat) (K:PF→PH→Prop):dOp C Hs S st (.buO true s l z ps) d K F H=bN (aN (.buO true s l z ps) F (if st then Hs else H)) d K F H:=(rfl)
@[go_sem] theorem bkD (cs:List PV) (st:Bool) (d:Option Nat) (K:PF→PH→Prop):dOp C Hs S st (.alloc cs) d K F H=kK (cN (.alloc cs) F) d K F H:=(rfl)
@[go_sem] theorem bhE (s b:Nat) (z:List PV) (l c:aO) (st:Bool) (d:Option Nat) (K:PF→PH→Prop):dOp C Hs S st (.buT s b z l c) d K F H=kK (cN (.buT s b z l c) F) d K F H:=(rfl)
@[go_sem] theorem bkG (sh:MSh) (st:Bool) (d:Option Nat) (K:PF→PH→Prop):dOp C Hs S st (.bwF sh) d K F H=kK (cN (.bwF sh) F) d K F H:=(rfl)
@[go_sem] theorem bsO (x:aO) (st:Bool) (d:Option Nat) (K:PF→PH→Prop):dOp C Hs S st (.box false x) d K F H=kK (cN (.box false x) F) d K F H:=(rfl)
@[go_sem] theorem biQ (s l:Nat) (z:List PV) (ps:List (Nat × aO)) (st:Bool) (d:Option Nat) (K:PF→PH→Prop):dOp C Hs S st (.buO false s l z ps) d K F H=kK (cN (.buO false s l z ps) F) d K F H:=(rfl)
@[go_sem] theorem bkI (n:Nat) (p x:aO) (st:Bool) (d:Option Nat) (K:PF→PH→Prop):dOp C Hs S st (.store n p x) d K F H=bP (.store n p x) F H (fun r H'=>Hs.le H'∧K (F.put d r) H'):=(rfl)
@[go_sem] theorem biP (s b:Nat) (x y:aO) (st:Bool) (d:Option Nat) (K:PF→PH→Prop):dOp C Hs S st (.append s b x y) d K F H=bP (.append s b x y) F H (fun r H'=>Hs.le H'∧K (F.put d r) H'):=(rfl)
@[go_sem] theorem biW (sh:MSh) (x k v:aO) (st:Bool) (d:Option Nat) (K:PF→PH→Prop):dOp C Hs S st (.bvH sh x k v) d K F H=bP (.bvH sh x k v) F H (fun r H'=>Hs.le H'∧K (F.put d r) H'):=(rfl)
theorem FK:H.only []=PH.nil:=PH.ext fun o=>by simp[PH.only,PH.nil]
theorem bF {name:Nat} {vs:List PV} {v:PV} {args:List aO} {st:Bool} {d:Option Nat} {K:PF→PH→Prop} (hS:S name vs=some ([],fun _=>aC v)) (h:aE C name vs .nil (aC v)) (ha:aO.evs F args=some vs)
  (hle:Hs.le H) (hk:K (F.put d v) H):dOp C Hs S st (.call name args) d K F H:=by
 refine⟨vs,[],fun _=>aC v,ha,hS,fun o ho=>by simp at ho,by rw[FK]; exact h,fun G=>⟨v,.nil,⟨rfl,rfl⟩,fun o x hx=>by simp[PH.nil] at hx⟩,?_⟩
 rintro r H' ⟨rfl,rfl⟩ -
 rw[FK,PH.kZ]
 exact⟨hle,hk⟩
theorem PB {sh:MSh} {x k v:aO} {o:Nat} {kv vv:PV} {key:List KS} {g:fZ} {st:Bool} {d:Option Nat} {K:PF→PH→Prop} (hx:x.ev F=some (.map o)) (hk:k.ev F=some kv) (hv:v.ev F=some vv) (hkey:keyOf sh kv=some key)
  (ho:H o=some (.map sh g)) (hg:g key=none) (hs:Hs o=none) (h:K (F.put d .junk) (H.set o (.map sh (g.upd key vv)))):dOp C Hs S st (.insert sh x k v) d K F H:=by
 refine⟨o,sh,key,vv,g,?_,ho,hg,hs,h⟩
 simp only[hx,hk,hv,hkey,bxS]
end
theorem wrap_i64 {n:Int} (h1:-9223372036854775808≤n) (h2:n≤9223372036854775807):IntKind.i64.wrap n=n:=by
 have e:IntKind.i64.wrap n=if decide (n%18446744073709551616≥9223372036854775808)=true then n%18446744073709551616-18446744073709551616 else n%18446744073709551616:=by
  simp[IntKind.wrap,IntKind.bits,IntKind.signed]
 rw[e]
 split
 ·rename_i h; simp only[decide_eq_true_eq] at h; omega
 ·rename_i h; simp only[decide_eq_true_eq] at h; omega
theorem wM {k:Nat} (h:k≤9223372036854775807):IntKind.i64.wrap (k:Int)=k:=wrap_i64 Om Om
theorem cY {k:Nat} (h:k<9223372036854775807):IntKind.i64.wrap ((k:Int)+1)=((k+1:Nat):Int):=by
 rw[wrap_i64 Om Om]; omega
theorem wZz (k:Nat) (h:k<9223372036854775807:=by omega):IntKind.i64.wrap ((k:Int)+1)=((k+1:Nat):Int):=cY h
theorem wrap_u64 {n:Int} (h1:0≤n) (h2:n<18446744073709551616):IntKind.u64.wrap n=n:=by
 have e:IntKind.u64.wrap n=n%18446744073709551616:=by
  simp[IntKind.wrap,IntKind.bits,IntKind.signed]
 rw[e]; omega
theorem wrap_u8 {n:Int} (h1:0≤n) (h2:n<256):IntKind.u8.wrap n=n:=by
 have e:IntKind.u8.wrap n=n%256:=by
  simp[IntKind.wrap,IntKind.bits,IntKind.signed]
 rw[e]; omega
abbrev ints (xs:List Int):PV:=.sl 1 (xs.map fun n=>[.int .i64 n])
open Go Go.RowKit
inductive CT where
 | int (k:IntKind)
 | bool
 | str
 | sl (es:List CT)
 deriving Inhabited
def nP (P:Program) (rec:TypeId→Option (List CT)):Nat→List Field→Option (List CT)
 | _,[]=>some []
 | k,f::fs=>match rec f.type with
  | some cts=>if f.offset=k∧P.cellsOf f.type=cts.length then (nP P rec (k+cts.length) fs).map (cts++·) else none
  | none=>none
def fF (P:Program):Nat→TypeId→Option (List CT)
 | 0,_=>none
 | n+1,t=>match P.underlying t with
  | some .bool=>some [.bool]
  | some (.int k)=>some [.int k]
  | some .string=>some [.str]
  | some (.slice e)=>match fF P n e with
   | some cts=>if P.cellsOf e=cts.length∧0<cts.length then some [.sl cts] else none
   | none=>none
  | some (.struct fs)=>match nP P (fF P n) 0 fs.toList with
   | some cts=>if P.cellsOf t=cts.length then some cts else none
   | none=>none
  | some (.array k e)=>match fF P n e with
   | some cts=>if P.cellsOf e=cts.length∧P.cellsOf t=k*cts.length then some (bwP k cts).flatten else none
   | none=>none
  | _=>none
inductive PV.Ty:CT→PV→Prop
 | int {k:IntKind} {n:Int} (h:(Lit.int k n).wf=true):PV.Ty (.int k) (.int k n)
 | bool (b:Bool):PV.Ty .bool (.bool b)
 | str {s:List UInt8} (h:s.length≤maxLen):PV.Ty .str (.str s)
 | sl {es:List CT} {rows:List (List PV)} (hr:∀ r∈rows,r.length=es.length) (hl:rows.length≤maxLen) (h:∀ (i j:Nat) pv ct,at2 rows i j=some pv→es[j]?=some ct→PV.Ty ct pv):PV.Ty (.sl es) (.sl es.length rows)
def Env.of (W:World) (num:Nat→FuncId):Env:=⟨fun b=>match W.heap[b]? with | some (.cells cs _ _)=>some cs | _=>none,fun _=>none,num⟩
theorem bH.start (W:World) (num:Nat→FuncId):bH (Env.of W num) PH.nil W:=by
 refine⟨fun b cs hb=>⟨fun x hx=>(by cases hx),?_⟩,fun o x hx=>(by cases hx),fun o n h=>(by cases h)⟩
 simp only[Env.of] at hb
 split at hb
 ·rename_i c ty fr h
  cases hb
  exact⟨ty,fr,h⟩
 ·cases hb
structure Reads (E:Env) (cts:List CT) (pvs:List PV) (cs:List Value):Prop where
 lp:pvs.length=cts.length
 lc:cs.length=cts.length
 rep:∀ (j:Nat) pv c,pvs[j]?=some pv→cs[j]?=some c→aX E pv c∧c.oneCell'=true
 ty:∀ (j:Nat) pv ct,pvs[j]?=some pv→cts[j]?=some ct→PV.Ty ct pv
theorem Reads.one {E:Env} {ct:CT} {pv:PV} {c:Value} (h:aX E pv c) (h1:c.oneCell'=true) (ht:PV.Ty ct pv):Reads E [ct] [pv] [c]:=by
 refine⟨rfl,rfl,fun j p u a b=>?_,fun j p u a b=>?_⟩
 ·cases j with
  | zero=>simp at a b; subst a; subst b; exact⟨h,h1⟩
  | succ j=>simp at a
 ·cases j with
  | zero=>simp at a b; subst a; subst b; exact ht
  | succ j=>simp at a
theorem Reads.append {E:Env} {ct1 ct2:List CT} {p1 p2:List PV} {c1 c2:List Value} (h:Reads E ct1 p1 c1) (k:Reads E ct2 p2 c2):Reads E (ct1++ct2) (p1++p2) (c1++c2):=by
 refine⟨by simp[h.lp,k.lp],by simp[h.lc,k.lc],fun j p u a b=>?_,fun j p u a b=>?_⟩
 ·rcases bxG j p1.length with hj | hj
  ·rw[bzJ hj] at a
   rw[bzJ (by rw[h.lc,← h.lp]; exact hj)] at b
   exact h.rep j p u a b
  ·rw[bzA hj] at a
   rw[bzA (by rw[h.lc,← h.lp]; exact hj)] at b
   rw[show j-c1.length=j-p1.length by rw[h.lc,h.lp]] at b
   exact k.rep _ p u a b
 ·rcases bxG j p1.length with hj | hj
  ·rw[bzJ hj] at a
   rw[bzJ (by rw[← h.lp]; exact hj)] at b
   exact h.ty j p u a b
  ·rw[bzA hj] at a
   rw[bzA (by rw[← h.lp]; exact hj)] at b
   rw[show j-ct1.length=j-p1.length by rw[h.lp]] at b
   exact k.ty _ p u a b
theorem XB {W:World} {num:Nat→FuncId} {a:Addr} {v:Value} (h:W.cell? a=some v):a.spot=none∧(Env.of W num).cell a.block a.off=some v:=by
 unfold World.cell? at h
 split at h
 ·rename_i c ty fr hb
  split at h
  ·cases h
  ·rename_i hs
   refine⟨by simpa using hs,?_⟩
   simp only[Env.cell,Env.of,hb]
   exact h
 ·cases h
inductive PV.Len (N:Nat):PV→Prop
 | flat {pv:PV} (h1:∀ n rows,pv≠.sl n rows) (h2:∀ vs,pv≠.agg vs):PV.Len N pv
 | sl {n:Nat} {rows:List (List PV)} (h:rows.length≤N) (hr:∀ r∈rows,∀ v∈r,PV.Len N v):PV.Len N (.sl n rows)
 | agg {vs:List PV} (h:∀ v∈vs,PV.Len N v):PV.Len N (.agg vs)
theorem PV.Len.int {N:Nat} (k:IntKind) (n:Int):PV.Len N (.int k n):=.flat (fun _ _ h=>by cases h) fun _ h=>by cases h
theorem PV.Len.bool {N:Nat} (b:Bool):PV.Len N (.bool b):=.flat (fun _ _ h=>by cases h) fun _ h=>by cases h
theorem PV.Len.str {N:Nat} (s:List UInt8):PV.Len N (.str s):=.flat (fun _ _ h=>by cases h) fun _ h=>by cases h
theorem PV.Len.rows {N n:Nat} {rows:List (List PV)} (h:PV.Len N (.sl n rows)):rows.length≤N∧∀ r∈rows,∀ v∈r,PV.Len N v:=by
 cases h with
 | flat h1 _=>exact absurd rfl (h1 n rows)
 | sl h1 h2=>exact⟨h1,h2⟩
theorem PV.Len.parts {N:Nat} {vs:List PV} (h:PV.Len N (.agg vs)):∀ v∈vs,PV.Len N v:=by
 cases h with
 | flat _ h2=>exact absurd rfl (h2 vs)
 | agg h=>exact h
structure TG {H:Type} (P:Program) (N:Nat) (S:TypeId→DataW H→Prop):Prop where
 sl:∀ t e elems spare,P.underlying t=some (.slice e)→S t (.slice elems spare)→elems.length≤N∧∀ d∈elems,S e d
 st:∀ t fs parts,P.underlying t=some (.struct fs)→S t (.agg parts)→∀ (i:Nat) g d,fs[i]?=some g→parts[i]?=some d→S g.type d
 ar:∀ t n e parts,P.underlying t=some (.array n e)→S t (.agg parts)→∀ d∈parts,S e d
theorem OY {H:Type} {P:Program} {A:(TypeId→DataW H→Prop)→Prop} {pv:PV} (h:∀ {N},PV.Len N pv):∀ N S,TG P N S→A S→∀ v∈[pv],PV.Len N v:=fun N S _ _ v hv=>by
 obtain rfl:=byJ.1 hv
 exact h
theorem YV {P:Program} {E:Env} {rec:TypeId→Option (List CT)} {H:Type} {f:TypeId→List Value→Option (DataW H × List MemPlace)}
  (ih:∀ t cs x cts,f t cs=some x→rec t=some cts→∃ pvs,Reads E cts pvs cs∧∀ N S,TG P N S→S t x.1→∀ v∈pvs,PV.Len N v) (cs:List Value) :
  ∀ (fs:List Field) (k:Nat) (cts:List CT),(∀ g∈fs,∃ x,f g.type ((cs.drop g.offset).take (P.cellsOf g.type))=some x)→nP P rec k fs=some cts →
   ∃ pvs,Reads E cts pvs ((cs.drop k).take cts.length)∧∀ N S,TG P N S→(∀ g∈fs,∀ x,f g.type ((cs.drop g.offset).take (P.cellsOf g.type))=some x→S g.type x.1)→∀ v∈pvs,PV.Len N v
 | [],k,cts,_,h=>by
  simp[nP] at h; subst h
  exact⟨[],⟨rfl,by simp,fun j p c a=>by simp at a,fun j p c a=>by simp at a⟩,fun _ _ _ _ v hv=>by cases hv⟩
 | g::fs,k,cts,hm,h=>by
  simp only[nP] at h
  split at h
  ·rename_i c1 h1
   split at h
   ·rename_i hc
    simp only[bwV] at h
    obtain⟨c2,h2,rfl⟩:=h
    obtain⟨x,hx⟩:=hm g (by simp)
    obtain⟨p1,r1,l1⟩:=ih _ _ _ _ hx h1
    rw[hc.1,hc.2] at r1
    obtain⟨p2,r2,l2⟩:=YV ih cs fs (k+c1.length) c2 (fun g' hg'=>hm g' (by simp[hg'])) h2
    refine⟨p1++p2,?_,fun N S hM hS v hv=>?_⟩
    ·have:=r1.append r2
     rw[bwW,List.take_add,List.drop_drop]
     exact this
    ·rcases byA.1 hv with hv | hv
     ·exact l1 N S hM (hS g (by simp) x hx) v hv
     ·exact l2 N S hM (fun g' hg'=>hS g' (by simp[hg'])) v hv
   ·cases h
  ·cases h
theorem akD {E:Env} {cts:List CT} {R:List PV→Prop} (h0:R []) (h1:∀ a b,R a→R b→R (a++b)) (cs:List Value) :
  ∀ n:Nat,(∀ i,i<n→∃ pvs,Reads E cts pvs ((cs.drop (i*cts.length)).take cts.length)∧R pvs)→∃ pvs,Reads E (bwP n cts).flatten pvs (cs.take (n*cts.length))∧R pvs
 | 0,_=>⟨[],⟨rfl,by simp,fun j p c a=>by simp at a,fun j p c a=>by simp at a⟩,h0⟩
 | n+1,h=>by
  obtain⟨p1,r1,q1⟩:=akD h0 h1 cs n fun i hi=>h i Om
  obtain⟨p2,r2,q2⟩:=h n Om
  refine⟨p1++p2,?_,h1 _ _ q1 q2⟩
  rw[List.replicate_succ',List.flatten_append,List.flatten_singleton,Nat.succ_mul,List.take_add]
  exact r1.append r2
theorem a6W {H:Type} {enc:TypeId × Value→H} {P:Program} {W:World} {base:Nat} {sp:Nat→Bool} {held:Bool} (num:Nat→FuncId) :
  ∀ (fuel m:Nat) (t:TypeId) (cs:List Value) (x:DataW H × List MemPlace) (cts:List CT),DataW.trod enc P W base sp held fuel t cs=some x→fF P m t=some cts→∃ pvs,Reads (Env.of W num) cts pvs cs∧∀ N S,TG P N S→S t x.1→∀ v∈pvs,PV.Len N v:=by
 intro fuel
 induction fuel with
 | zero=>intro m t cs x cts h; simp[DataW.trod] at h
 | succ fuel ih =>
  intro m t cs x cts h hc
  cases m with
  | zero=>simp[fF] at hc
  | succ m =>
   simp only[fF] at hc
   split at hc
   ·rename_i hu
    cases hc
    obtain⟨b,rfl,-⟩:=DataW.trod_bool hu h
    exact⟨[.bool b],.one (.bool b) rfl (.bool b),OY (.bool b)⟩
   ·rename_i k hu
    cases hc
    obtain⟨n,rfl,-,hw⟩:=DataW.trod_int hu h
    exact⟨[.int k n],.one (.int k n) rfl (.int hw),OY (.int k n)⟩
   ·rename_i hu
    cases hc
    obtain⟨s,rfl,-,hs⟩:=DataW.trod_string hu h
    exact⟨[.str s.data.toList],.one (.str s) rfl (.str (by rw[bzH]; exact hs)),OY (.str _)⟩
   ·rename_i e hu
    split at hc
    ·rename_i ces he
     split at hc
     ·rename_i bvW
      cases hc
      rcases DataW.trod_slice hu h with ⟨rfl,-⟩ | ⟨a,len,cap,elems,rest,n,hn,rfl,hxe,-,hlen,hcap,hel,helem,-⟩
      ·refine⟨[.sl ces.length []],.one ?_ rfl (.sl (by simp) (by simp) (by simp[at2])),OY (.sl (bwZ _) (fun r hr=>by cases hr))⟩
       exact .sl (fun _ _=>.bool false) (by simp) (by decide) (by simp) (by simp) (fun _ _=>rfl) (by simp[at2])
      ·cases hn
       have each:∀ i,i<len→∃ pvs us,(Reads (Env.of W num) ces pvs us∧∀ N S,TG P N S→(∀ d∈elems.map (·.1),S e d)→∀ v∈pvs,PV.Len N v)∧W.cells? base (a.add (i*ces.length)) ces.length=some us:=by
        intro i hi
        have h1:=helem i hi
        rw[bxA Om,bzL] at h1
        obtain⟨us,h2,h3⟩:=h1
        obtain⟨pvs,r,rl⟩:=ih m e us _ ces h3 he
        rw[bvW.1] at h2
        exact⟨pvs,us,⟨r,fun N S hM hS=>rl N S hM (hS _ (bxV.2 ⟨_,bwS _,rfl⟩))⟩,h2⟩
       have each':∀ i,∃ pvs,∃ us,i<len→(Reads (Env.of W num) ces pvs us∧∀ N S,TG P N S→(∀ d∈elems.map (·.1),S e d)→∀ v∈pvs,PV.Len N v)∧W.cells? base (a.add (i*ces.length)) ces.length=some us:=by
        intro i
        by_cases hi:i<len
        ·obtain⟨pvs,us,h1⟩:=each i hi
         exact⟨pvs,us,fun _=>h1⟩
        ·exact⟨[],[],fun h=>(hi h).elim⟩
       obtain⟨pf,hpf⟩:=Classical.axiomOfChoice each'
       obtain⟨uf,huf⟩:=Classical.axiomOfChoice hpf
       have hat:∀ i j pv,at2 ((bwO len).map pf) i j=some pv→i<len∧(pf i)[j]?=some pv:=by
        intro i j pv hp
        unfold at2 at hp
        rw[bxW,bzL] at hp
        obtain⟨r,hr,hp⟩:=hp
        rw[bwV] at hr
        obtain⟨i',hi',rfl⟩:=hr
        have hi:i<len:=by simpa using (bxZ.1 hi').1
        have:i'=i:=by simp[hi] at hi'; exact hi'.symm
        subst this
        exact⟨hi,hp⟩
       have hu2:∀ i j pv,at2 ((bwO len).map pf) i j=some pv→∃ v,(uf i)[j]?=some v∧j<ces.length∧aX (Env.of W num) pv v∧v.oneCell'=true:=by
        intro i j pv hp
        obtain⟨hi,hp'⟩:=hat i j pv hp
        obtain⟨⟨r,-⟩,-⟩:=huf i hi
        have hj:j<ces.length:=by rw[← r.lp]; exact (bxZ.1 hp').1
        have hv:(uf i)[j]?=some ((uf i)[j]'(by rw[r.lc]; exact hj)):=bxA _
        exact⟨_,hv,hj,(r.rep j pv _ hp' hv).1,(r.rep j pv _ hp' hv).2⟩
       have hul:((bwO len).map pf).length=len:=by simp
       refine⟨[.sl ces.length ((bwO len).map pf)],.one ?_ rfl (.sl (fun r hr=>?_) (by rw[hul]; omega) fun i j pv ct hp hct=>?_),fun N S hM hS v hv=>?_⟩
       ·have key:=aX.sl (E:=Env.of W num) (size:=ces.length) (rows:=(bwO len).map pf) (a:=some a) (cap:=cap)
         (fun i j=>match at2 ((bwO len).map pf) i j with | some _=>((uf i)[j]?).getD (.bool false) | none=>.bool false) (by rw[hul]; exact hlen) hcap
         (fun r hr=>by
          simp only[bxV,byD] at hr
          obtain⟨i,hi,rfl⟩:=hr
          exact (huf i hi).1.1.lp)
         (fun hne=>by
          have hl0:0<len:=by
           rcases bzK len with h | h
           ·subst h; exact (hne rfl).elim
           ·exact h
          have hsp:a.spot=none:=by
           obtain⟨⟨r,-⟩,hc⟩:=huf 0 hl0
           have h3:=(World.cells?_some hc).2.2 0 bvW.2
           rw[Nat.zero_mul,Addr.add_zero',Addr.add_zero',bxA (by rw[r.lc]; exact bvW.2)] at h3
           exact (XB (num:=num) h3).1
          refine⟨a,rfl,hsp,fun i j pv hp=>?_⟩
          obtain⟨hi,-⟩:=hat i j pv hp
          obtain⟨v,hv,hj,-⟩:=hu2 i j pv hp
          have h3:=(World.cells?_some (huf i hi).2).2.2 j hj
          rw[kU hsp,add_plain,add_plain,hv] at h3
          have h4:=(XB (num:=num) h3).2
          simp only[hp,hv,bzG]
          exact h4)
         (fun i j=>by
          split
          ·rename_i pv hp
           obtain⟨v,hv,-,-,h1⟩:=hu2 i j pv hp
           simp[hv,h1]
          ·rfl)
         (fun i j pv hp=>by
          obtain⟨v,hv,-,h1,-⟩:=hu2 i j pv hp
          simp only[hp,hv,bzG]
          exact h1)
        rw[hul] at key
        exact key
       ·simp only[bxV,byD] at hr
        obtain⟨i,hi,rfl⟩:=hr
        exact (huf i hi).1.1.lp
       ·obtain⟨hi,hp'⟩:=hat i j pv hp
        exact (huf i hi).1.1.ty j pv ct hp' hct
       ·rw[hxe] at hS
        obtain⟨m1,m2⟩:=hM.sl t e _ _ hu hS
        obtain rfl:=byJ.1 hv
        refine .sl (by rw[hul]; simpa [hel] using m1) fun r hr w hw=>?_
        simp only[bxV,byD] at hr
        obtain⟨i,hi,rfl⟩:=hr
        exact (huf i hi).1.2 N S hM m2 w hw
     ·cases hc
    ·cases hc
   ·rename_i fs hu
    split at hc
    ·rename_i cts' hcf
     split at hc
     ·rename_i hlen
      cases hc
      obtain⟨xs,n,hn,hxe,hcl,hxl,hx⟩:=DataW.trod_struct hu h
      cases hn
      have:=YV (f:=DataW.trod enc P W base sp held fuel) (fun t cs x cts a b=>ih m t cs x cts a b) cs fs.toList 0 cts (fun g hg=>by
       obtain⟨i,hi,rfl⟩:=byP hg
       have:=hx i fs.toList[i] (by simp at hi; simp[hi])
       rw[this]
       exact⟨_,bxA (by simp at hi; omega)⟩) hcf
      rw[bxP,bxC Om] at this
      obtain⟨pvs,r,rl⟩:=this
      refine⟨pvs,r,fun N S hM hS=>rl N S hM fun g hg y hy=>?_⟩
      rw[hxe] at hS
      obtain⟨i,hi,rfl⟩:=byP hg
      have hi':i<fs.size:=by simpa using hi
      have:=hx i fs.toList[i] (by simp[hi'])
      rw[hy,bxA Om] at this
      refine hM.st t fs _ hu hS i fs.toList[i] y.1 (by simp[hi']) ?_
      rw[bxW,bxA Om,← this]; rfl
     ·cases hc
    ·cases hc
   ·rename_i k e hu
    split at hc
    ·rename_i ces he
     split at hc
     ·rename_i bvW
      cases hc
      obtain⟨xs,n,hn,hxe,hcl,hxl,hx⟩:=DataW.trod_array hu h
      cases hn
      obtain⟨pvs,r,hq⟩:=akD (E:=Env.of W num) (cts:=ces) (R:=fun pvs=>∀ N S,TG P N S→(∀ d:DataW H,d∈xs.map (fun y:DataW H × List MemPlace=>y.1)→S e d)→∀ v∈pvs,PV.Len N v) (fun _ _ _ _ v hv=>by cases hv)
       (fun a b ha hb N S hM hS v hv=>(byA.1 hv).elim (ha N S hM hS v) (hb N S hM hS v)) cs k fun i hi=>by
        have h2:=hx i hi
        rw[bxA Om,bvW.1] at h2
        obtain⟨pvs,r,rl⟩:=ih m e _ _ ces h2 he
        exact⟨pvs,r,fun N S hM hS=>rl N S hM (hS _ (bxV.2 ⟨_,bwS _,rfl⟩))⟩
      rw[bxC Om] at r
      exact⟨pvs,r,fun N S hM hS=>hq N S hM (hM.ar t k e _ hu (by rw[hxe] at hS; exact hS))⟩
     ·cases hc
    ·cases hc
   ·cases hc
theorem acT {H:Type} {enc:TypeId × Value→H} {P:Program} {W:World} {base:Nat} {sp:Nat→Bool} {held:Bool} (num:Nat→FuncId)
  (fuel m:Nat) (t:TypeId) (cs:List Value) (x:DataW H × List MemPlace) (cts:List CT) (h:DataW.trod enc P W base sp held fuel t cs=some x) (hc:fF P m t=some cts):∃ pvs,Reads (Env.of W num) cts pvs cs :=
 (a6W num fuel m t cs x cts h hc).imp fun _ r=>r.1
open Go Go.RowKit Go.ChangeShapes Go.WideShapes
theorem Ext.below {E E':Env} {H':PH} {w w':World} (h:Ext E PH.nil w E' H' w'):Below w.heap.size w w' :=
 ⟨h.os,h.tape,h.output,h.size,fun k hk=>h.block k hk rfl⟩
theorem Below.trodAll {H:Type} {enc:TypeId × Value→H} {P:Program} (hl:laidOutB P=true) {W W':World} (hb:Below W.heap.size W W') :
  ∀ {ts:List TypeId} {vs:List Value} {ds:List (DataW H)} {ps:List MemPlace},(∀ t∈ts,P.readableRec t=true∧t<P.types.size)→DataW.TrodAll enc P W 0 (fun _=>true) true ts vs ds ps →
   DataW.TrodAll enc P W' 0 (fun b=>decide (b<W.heap.size)) true ts vs ds ps
 | [],[],[],ps,_,h=>h
 | [],_::_,_,_,_,h=>h.elim
 | [],[],_::_,_,_,h=>h.elim
 | _::_,[],_,_,_,h=>h.elim
 | _::_,_::_,[],_,_,h=>h.elim
 | t::ts,v::vs,d::ds,ps,ht,h=>by
  obtain⟨p,q,h1,h2,rfl⟩:=h
  have hlt:∀ x∈p,x.block<W.heap.size:=fun x hx=>DataW.TrodAll.lt (ts:=[t]) (vs:=[v]) (ds:=[d]) ⟨p,[],h1,rfl,(byU p).symm⟩ x hx
  exact⟨p,q,Below.trod hl (ht t (by simp)).1 (ht t (by simp)).2 h1 hb hlt,Below.trodAll hl hb (fun u hu=>ht u (by simp[hu])) h2,rfl⟩
theorem a0K {H:Type} {enc:TypeId × Value→H} {P:Program} {f:Func} {s:ChangeSpec} {handsOn apart fresh:Bool} {W W':World} {args:Array Value} {ds gs:List (DataW H)} {before:List MemPlace} {bt:TypeId}
  (hl:laidOutB P=true) (hW:DataW.Whole enc P f.params.toList s.vars apart W args.toList ds gs before) (hb:Below W.heap.size W W') (hts:∀ t∈f.params.toList,P.readableRec t=true∧t<P.types.size)
  (hrt:f.resultTypes=#[bt]) (hbt:P.underlying bt=some .bool) (hv:s.vars=[]) (hr:(s.fn H (ds++gs)).results=[.lit (.bool true)]) (ha:(s.fn H (ds++gs)).args=ds) (hvs:(s.fn H (ds++gs)).vars=[]) :
  s.post enc P f apart fresh handsOn false W args (.bool true) W':=by
 obtain⟨p,q,hA,hV,rfl,hz,hn⟩:=hW
 rw[hv] at hV
 obtain⟨rfl,rfl⟩:=trodVars_none hV
 refine⟨ds,[],p++[],[],p,[],⟨p,[],hA,by rw[hv]; exact hV,rfl,hz,hn⟩,?_,?_,?_,hb.frame _,fun h=>by cases h⟩
 ·rw[hr,hrt]
  refine⟨[],[],⟨1,?_⟩,rfl,rfl⟩
  simp[DataW.trod,hbt,Value.cells,Value.resultList]
 ·rw[ha]
  exact Below.trodAll hl hb hts hA
 ·rw[hv,hvs]
  exact rfl
theorem aYX {C:Ctx} {name:Nat} {W:World} {args:Array Value} {pvs:List PV} (h:aE C name pvs PH.nil (aC (.bool true))) (hr:eH (Env.of W C.num) pvs args.toList) :
  Calls C.P (C.num name) args W fun e W'=>e=.returned (.bool true)∧Below W.heap.size W W' :=
 (h.2 (Env.of W C.num) W args rfl (bH.start W C.num) hr).mono fun e W' he=>by
  obtain⟨v,pv,E',H',rfl,-,bwI,hE,rfl,-⟩:=he
  cases bwI
  exact⟨rfl,hE.below⟩
theorem aSU {H:Type} {enc:TypeId × Value→H} {P:Program} {W:World} {r:Reach} {base:Nat} {sp:Nat→Bool} {held:Bool} (num:Nat→FuncId) {t:TypeId} {v:Value} {d:DataW H} {ps:List MemPlace} {fs:Array Field} {n:Nat} {cts:List CT}
  (hu:P.underlying t=some (.struct fs)) (bvC:Value.okWide P W r base t v) (hd:DataW.Trod enc P W 0 sp held t v d ps) (hc:fF P n t=some cts) :
  ∃ pvs,aX (Env.of W num) (.agg pvs) v∧pvs.length=cts.length∧∀ (j:Nat) pv ct,pvs[j]?=some pv→cts[j]?=some ct→PV.Ty ct pv:=by
 obtain⟨cs,rfl,-⟩:=okWide_struct hu bvC
 obtain⟨fuel,h⟩:=hd
 obtain⟨pvs,hr⟩:=acT num fuel n t _ _ cts h hc
 have hl:cs.size=pvs.length:=by have:=hr.lc; rw[hr.lp,← this]; simp[Value.cells]
 refine⟨pvs,.agg cs hl (fun u hu=>?_) (fun j pv u a b=>(hr.rep j pv u a (by simpa [Value.cells] using b)).1),hr.lp,hr.ty⟩
 obtain⟨j,hj,rfl⟩:=byP hu
 simp only[bzH] at hj
 exact (hr.rep j _ _ (bxA Om) (by simp[Value.cells,hj])).2
theorem qR {H:Type} {enc:TypeId × Value→H} {P:Program} {W:World} {sp:Nat→Bool} {held:Bool} (num:Nat→FuncId) {t:TypeId} {v:Value} {d:DataW H} {ps:List MemPlace} {n:Nat} {ct:CT}
  (hv:v.cells=#[v]) (hd:DataW.Trod enc P W 0 sp held t v d ps) (hc:fF P n t=some [ct]):∃ pv,aX (Env.of W num) pv v∧PV.Ty ct pv:=by
 obtain⟨fuel,h⟩:=hd
 obtain⟨pvs,hr⟩:=acT num fuel n t _ _ [ct] h hc
 rw[hv] at hr
 have hl:=hr.lp
 cases pvs with
 | nil=>simp at hl
 | cons pv rest=>exact⟨pv,(hr.rep 0 pv v rfl rfl).1,hr.ty 0 pv ct rfl rfl⟩
def InK (k:IntKind) (n:Int):Prop:=k.min≤n∧n≤k.max
def a8P (k:IntKind) (xs:List Int):PV:=.sl 1 (xs.map fun n=>[.int k n])
theorem Ty.ahA {k:IntKind} {pv:PV} (h:PV.Ty (.int k) pv):∃ n,pv=.int k n∧InK k n:=by
 cases h with
 | int h=>simp only[Lit.wf,bxJ,decide_eq_true_eq] at h; exact⟨_,rfl,h⟩
theorem Ty.bcX {ct:CT} {pv:PV} (h:PV.Ty (.sl [ct]) pv):∃ vs:List PV,pv=.sl 1 (vs.map fun v=>[v])∧vs.length≤maxLen∧∀ v∈vs,PV.Ty ct v:=by
 cases h with
 | @sl es rows hr hl h =>
 have key:∀ r∈rows,r=[r.headD .junk]:=fun r hm=>by
  have:=hr r hm
  match r,this with
  | [x],_=>rfl
 have e:rows=(rows.map fun r=>r.headD .junk).map fun v=>[v]:=by
  rw[List.map_map]
  apply List.ext_getElem (by simp)
  intro n h1 h2
  simp only[byO,Function.comp]
  exact key _ (bwS h1)
 refine⟨rows.map fun r=>r.headD .junk,by rw[← e]; rfl,by simpa using hl,fun v hv=>?_⟩
 rw[bxV] at hv
 obtain⟨r,hm,rfl⟩:=hv
 obtain⟨i,hi,rfl⟩:=byP hm
 refine h i 0 _ ct ?_ rfl
 have:=key rows[i] hm
 unfold at2
 rw[bxA hi,bzX,this]
 rfl
theorem Ty.axF {k:IntKind} {pv:PV} (h:PV.Ty (.sl [.int k]) pv):∃ xs:List Int,pv=a8P k xs∧xs.length≤maxLen∧∀ x∈xs,InK k x:=by
 obtain⟨vs,rfl,hl,hv⟩:=Ty.bcX h
 have e:vs=(vs.map fun v=>match v with | .int _ n=>n | _=>0).map fun n=>PV.int k n:=by
  rw[List.map_map]
  apply List.ext_getElem (by simp)
  intro n h1 h2
  simp only[byO,Function.comp]
  obtain⟨m,hm,-⟩:=Ty.ahA (hv _ (bwS h1))
  rw[hm]
 refine⟨vs.map fun v=>match v with | .int _ n=>n | _=>0,?_,by simpa using hl,fun x hx=>?_⟩
 ·unfold a8P
  conv=>lhs; rw[e]
  rw[List.map_map]
  rfl
 ·rw[bxV] at hx
  obtain⟨v,hm,rfl⟩:=hx
  obtain⟨m,rfl,hk⟩:=Ty.ahA (hv v hm)
  exact hk
open Go Go.RowKit Go.ChangeShapes Go.WideShapes
inductive AT where
 | one (ct:CT)
 | struct (cts:List CT)
 deriving Inhabited
def aST (P:Program) (n:Nat) (t:TypeId):Option AT :=
 match P.underlying t with
 | some .bool=>some (.one .bool)
 | some (.int k)=>some (.one (.int k))
 | some .string=>some (.one .str)
 | some (.slice _)=>match fF P n t with
  | some [ct]=>some (.one ct)
  | _=>none
 | some (.struct _)=>(fF P n t).map .struct
 | _=>none
def AU (P:Program) (n:Nat):List TypeId→Option (List AT)
 | []=>some []
 | t::ts=>match aST P n t,AU P n ts with
  | some a,some az=>some (a::az)
  | _,_=>none
inductive AT.Ty:AT→PV→Prop
 | one {ct:CT} {pv:PV} (h:PV.Ty ct pv):AT.Ty (.one ct) pv
 | struct {cts:List CT} {pvs:List PV} (hl:pvs.length=cts.length) (h:∀ (j:Nat) pv ct,pvs[j]?=some pv→cts[j]?=some ct→PV.Ty ct pv):AT.Ty (.struct cts) (.agg pvs)
def AT.TyL:List AT→List PV→Prop
 | [],[]=>True
 | a::az,p::ps=>AT.Ty a p∧AT.TyL az ps
 | _,_=>False
section
variable {H:Type} {enc:TypeId × Value→H} {P:Program} {W:World} {sp:Nat→Bool} {held:Bool}
theorem beV {r:Reach} {base:Nat} (num:Nat→FuncId) {t:TypeId} {v:Value} {d:DataW H} {ps:List MemPlace} {n:Nat} {a:AT}
  (bvC:Value.okWide P W r base t v) (hd:DataW.Trod enc P W 0 sp held t v d ps) (ha:aST P n t=some a):∃ pv,aX (Env.of W num) pv v∧AT.Ty a pv:=by
 unfold aST at ha
 cases n with
 | zero =>
  split at ha
  ·rename_i hu
   cases ha
   obtain⟨b,rfl⟩:=okWide_bool hu bvC
   obtain⟨pv,h1,h2⟩:=qR (n:=1) (ct:=.bool) num (by simp[Value.cells]) hd (by simp[fF,hu])
   exact⟨pv,h1,.one h2⟩
  ·rename_i k hu
   cases ha
   obtain⟨b,rfl⟩:=okWide_int hu bvC
   obtain⟨pv,h1,h2⟩:=qR (n:=1) (ct:=.int k) num (by simp[Value.cells]) hd (by simp[fF,hu])
   exact⟨pv,h1,.one h2⟩
  ·rename_i hu
   cases ha
   obtain⟨b,rfl⟩:=okWide_string hu bvC
   obtain⟨pv,h1,h2⟩:=qR (n:=1) (ct:=.str) num (by simp[Value.cells]) hd (by simp[fF,hu])
   exact⟨pv,h1,.one h2⟩
  ·simp[fF] at ha
  ·simp[fF] at ha
  ·cases ha
 | succ n =>
  split at ha
  ·rename_i hu
   cases ha
   obtain⟨b,rfl⟩:=okWide_bool hu bvC
   obtain⟨pv,h1,h2⟩:=qR (n:=n+1) (ct:=.bool) num (by simp[Value.cells]) hd (by simp[fF,hu])
   exact⟨pv,h1,.one h2⟩
  ·rename_i k hu
   cases ha
   obtain⟨b,rfl⟩:=okWide_int hu bvC
   obtain⟨pv,h1,h2⟩:=qR (n:=n+1) (ct:=.int k) num (by simp[Value.cells]) hd (by simp[fF,hu])
   exact⟨pv,h1,.one h2⟩
  ·rename_i hu
   cases ha
   obtain⟨b,rfl⟩:=okWide_string hu bvC
   obtain⟨pv,h1,h2⟩:=qR (n:=n+1) (ct:=.str) num (by simp[Value.cells]) hd (by simp[fF,hu])
   exact⟨pv,h1,.one h2⟩
  ·rename_i e hu
   split at ha
   ·rename_i ct hc
    cases ha
    obtain⟨x,len,cap,rfl⟩:=okWide_slice hu bvC
    obtain⟨pv,h1,h2⟩:=qR num (by simp[Value.cells]) hd hc
    exact⟨pv,h1,.one h2⟩
   ·cases ha
  ·rename_i fs hu
   rw[bwV] at ha
   obtain⟨cts,hc,rfl⟩:=ha
   obtain⟨pvs,h1,h2,h3⟩:=aSU num hu bvC hd hc
   exact⟨_,h1,.struct h2 h3⟩
  ·cases ha
theorem aIO {r:Reach} {base:Nat} (num:Nat→FuncId) {n:Nat}:∀ {ts:List TypeId} {vs:List Value} {ds:List (DataW H)} {ps:List MemPlace} {az:List AT},DataW.TrodAll enc P W 0 sp held ts vs ds ps →
  (∀ (j:Nat) t v,ts[j]?=some t→vs[j]?=some v→Value.okWide P W r base t v)→AU P n ts=some az→∃ pvs,eH (Env.of W num) pvs vs∧AT.TyL az pvs
 | [],[],_,_,az,_,_,h=>by
  simp[AU] at h
  subst h
  exact⟨[],.nil,trivial⟩
 | [],_::_,_,_,_,h,_,_=>h.elim
 | _::_,[],[],_,_,h,_,_=>h.elim
 | _::_,[],_::_,_,_,h,_,_=>h.elim
 | _::_,_::_,[],_,_,h,_,_=>h.elim
 | t::ts,v::vs,d::ds,ps,az,h,hv,ha=>by
  obtain⟨p,q,h1,h2,rfl⟩:=h
  simp only[AU] at ha
  split at ha
  ·rename_i a as' e1 e2
   cases ha
   obtain⟨pv,r1,t1⟩:=beV num (hv 0 t v rfl rfl) h1 e1
   obtain⟨pvs,r2,t2⟩:=aIO num h2 (fun j t v a b=>hv (j+1) t v (by simpa using a) (by simpa using b)) e2
   exact⟨pv::pvs,.cons r1 r2,t1,t2⟩
  ·cases ha
theorem TrodAll.length:∀ {ts:List TypeId} {vs:List Value} {ds:List (DataW H)} {ps:List MemPlace},DataW.TrodAll enc P W 0 sp held ts vs ds ps→ds.length=ts.length
 | [],[],[],_,_=>rfl
 | [],[],_::_,_,h=>h.elim
 | [],_::_,_,_,h=>h.elim
 | _::_,[],[],_,h=>h.elim
 | _::_,[],_::_,_,h=>h.elim
 | _::_,_::_,[],_,h=>h.elim
 | t::ts,v::vs,d::ds,ps,h=>by
  obtain⟨p,q,h1,h2,rfl⟩:=h
  simp[TrodAll.length h2]
end
theorem asI {H:Type} {enc:TypeId × Value→H} {P:Program} {f:FuncId} {fn:Func} {s:ChangeSpec} {apart fresh handsOn:Bool} {bt:TypeId} {num:Nat→FuncId} {name n:Nat} {ats:List AT}
  (hl:laidOutB P=true) (hts:fn.params.toList.all (fun t=>P.readableRec t&&decide (t<P.types.size))=true) (hrt:fn.resultTypes=#[bt]) (hbt:P.underlying bt=some .bool) (hv:s.vars=[])
  (hs:∀ ds:List (DataW H),ds.length=fn.params.toList.length→(s.fn H ds).results=[.lit (.bool true)]∧(s.fn H ds).args=ds∧(s.fn H ds).vars=[])
  (hnum:num name=f) (ha:AU P n fn.params.toList=some ats) (h:∀ pvs,AT.TyL ats pvs→aE ⟨P,num⟩ name pvs PH.nil (aC (.bool true)))
  {W:World} {base:Nat} {args:Array Value} {ds gs:List (DataW H)} {before:List MemPlace}
  (bvC:∀ (j:Nat) t v,fn.params[j]?=some t→args[j]?=some v→Value.okWide P W .any base t v) (hW:DataW.Whole enc P fn.params.toList s.vars apart W args.toList ds gs before) :
  Calls P f args W fun e W'=>∃ v,e=.returned v∧s.post enc P fn apart fresh handsOn false W args v W':=by
 have hts':∀ t∈fn.params.toList,P.readableRec t=true∧t<P.types.size:=fun t ht=>by
  have:=bxL.1 hts t ht
  simpa using this
 have hW':=hW
 obtain⟨p,q,hA,hV,rfl,hz,hn⟩:=hW
 rw[hv] at hV
 obtain⟨rfl,rfl⟩:=trodVars_none hV
 obtain⟨pvs,hr,ht⟩:=aIO num hA (fun j t v a b=>bvC j t v (by simpa using a) (by simpa using b)) ha
 have hlen:=TrodAll.length hA
 subst hnum
 obtain⟨r1,r2,r3⟩:=hs (ds++[]) (by simpa using hlen)
 refine (aYX (C:=⟨P,num⟩) (h pvs ht) hr).mono fun e W' he=>?_
 obtain⟨rfl,hb⟩:=he
 exact⟨_,rfl,a0K hl hW' hb hts' hrt hbt hv r1 (by rw[r2]; simp) r3⟩
attribute [go_sem] mV fH setCells PV.cells PV.one bP storeAt cN loadCells eK bnd PV.slice PV.intOf PV.eqs PV.eq1 PV.un keyOf KS.of KS.ofs KS.sh List.all_cons List.all_nil List.set_cons_zero List.set_cons_succ bwY byL bwT bxT bxL Bool.and_self
attribute [go_sem] Bool.bne_false Bool.bne_true Int.le_refl Int.lt_irrefl decide_true decide_false exists_eq_left exists_eq_left' bwN bzW bzO Int.natCast_nonneg Option.isSome_some Option.isSome_none bzG Option.getD_none decide_eq_true_eq decide_eq_false_iff_not bxO byB bwR Nat.sub_zero
def bT (xs:List Int):List (List PV):=xs.map fun n=>[.int .i64 n]
theorem bD {a b:Int} (h:a≠b):(a==b)=false:=by simp[h]
theorem bX {a b:Int} (h:a=b):(a==b)=true:=by simp[h]
theorem dA {a b:Int} (h:a≠b):(a != b)=true:=by simp[h]
theorem cO {a b:Int} (h:a=b):(a != b)=false:=by simp[h]
section
variable {H:PH}
@[go_sem] theorem PH.set_set (o:Nat) (x y:cM):(H.set o x).set o y=H.set o y:=PH.ext fun q=>by
 simp only[bL]; split<;>rfl
@[go_sem] theorem fJ (o:Nat) (x:cM):(H.set o x) o=some x:=by simp only[bL,if_true]
end
def aM (C:Ctx) (k:Nat) (pf:aW):Prop:=∀ (args:List PV) (H:PH) (R:PV→PH→Prop),args.length≤pf.ntmps→pf.body.wp C (aS pf.res R) (PF.args args) H→aE C k args H R
theorem aM.go {C:Ctx} {k:Nat} {pf:aW} (r:aM C k pf) {args:List PV} {H:PH} {R:PV→PH→Prop} (h:pf.body.wp C (aS pf.res R) (PF.args args) H) (hl:Nat.ble args.length pf.ntmps=true):aE C k args H R:=r args H R (Nat.le_of_ble_eq_true hl) h
abbrev Rg:=List aZ
abbrev Rd:=List (aZ×Bool)
def iM (d s:Nat):aZ:=⟨some d,.mv (.tmp s),none⟩
def iI (d:Nat) (n:Int):aZ:=⟨some d,.mv (.const (.int .i64 n)),none⟩
def iB (d:Nat) (o:BinOp) (x y:Nat):aZ:=⟨some d,.bin o (.tmp x) (.tmp y),none⟩
def iC (d:Nat) (o:BinOp) (x:Nat) (n:Int):aZ:=⟨some d,.bin o (.tmp x) (.const (.int .i64 n)),none⟩
def iL (d s:Nat):aZ:=⟨some d,.load none (.tmp s),none⟩
def iX (d n x y:Nat):aZ:=⟨some d,.bvE n (.tmp x) (.tmp y),none⟩
def iN (d x:Nat):aZ:=⟨some d,.len (.tmp x),none⟩
def iF (d n x:Nat):aZ:=⟨some d,.bvV n (.tmp x),none⟩
def iS (n p x:Nat):aZ:=⟨none,.store n (.tmp p) (.tmp x),none⟩
def iA (d:Nat) (o:POp):aZ:=⟨some d,o,none⟩
def iG (d:Nat) (o:POp) (g:Nat) (b:Bool):aZ:=⟨some d,o,some (g,b)⟩
def iP (d a b:Nat):aZ:=⟨some d,.pick (.tmp a) (.tmp b) (.const (.bool false)),none⟩
def iQ (d a b:Nat):aZ:=⟨some d,.pick (.tmp a) (.const (.bool true)) (.tmp b),none⟩
def iO (d s a:Nat):aZ:=⟨some d,.load (some s) (.tmp a),none⟩
def iE (d a n:Nat):aZ:=⟨some d,.extract (.tmp a) n,none⟩
def iK (d f a:Nat):aZ:=⟨some d,.call f [.tmp a],none⟩
def iK2 (d f a b:Nat):aZ:=⟨some d,.call f [.tmp a,.tmp b],none⟩
def iT (d:Nat) (b:Bool):aZ:=⟨some d,.mv (.const (.bool b)),none⟩
def iZ (d:Nat):aZ:=⟨some d,.mv (.const .buJ),none⟩
def gM (d s g:Nat) (b:Bool):aZ:=⟨some d,.mv (.tmp s),some (g,b)⟩
def gL (d s g:Nat) (b:Bool):aZ:=⟨some d,.load none (.tmp s),some (g,b)⟩
def gF (d n s g:Nat) (b:Bool):aZ:=⟨some d,.bvV n (.tmp s),some (g,b)⟩
def gN (d s g:Nat) (b:Bool):aZ:=⟨some d,.len (.tmp s),some (g,b)⟩
def gO (d n s g:Nat) (b:Bool):aZ:=⟨some d,.load (some n) (.tmp s),some (g,b)⟩
def gK (d f a g:Nat) (b:Bool):aZ:=⟨some d,.call f [.tmp a],some (g,b)⟩
def gK2 (d f a c g:Nat) (b:Bool):aZ:=⟨some d,.call f [.tmp a,.tmp c],some (g,b)⟩
def gC (d:Nat) (o:BinOp) (x:Nat) (n:Int) (g:Nat) (b:Bool):aZ:=⟨some d,.bin o (.tmp x) (.const (.int .i64 n)),some (g,b)⟩
def gB (d:Nat) (o:BinOp) (x y g:Nat) (b:Bool):aZ:=⟨some d,.bin o (.tmp x) (.tmp y),some (g,b)⟩
def sq (r:Rg) (c:aB):aB:=.seq (.region r) c
def dq (r:Rd) (c:aB):aB:=.seq (.draw r) c
def Tm (n:Nat):aO:=.tmp n
def Ci (n:Int):aO:=.const (.int .i64 n)
@[go_sem] theorem btX (d s:Nat):iM d s=⟨some d,.mv (.tmp s),none⟩:=(rfl)
@[go_sem] theorem btU (d:Nat) (n:Int):iI d n=⟨some d,.mv (.const (.int .i64 n)),none⟩:=(rfl)
@[go_sem] theorem btP (d:Nat) (o:BinOp) (x y:Nat):iB d o x y=⟨some d,.bin o (.tmp x) (.tmp y),none⟩:=(rfl)
@[go_sem] theorem btQ (d:Nat) (o:BinOp) (x:Nat) (n:Int):iC d o x n=⟨some d,.bin o (.tmp x) (.const (.int .i64 n)),none⟩:=(rfl)
@[go_sem] theorem btW (d s:Nat):iL d s=⟨some d,.load none (.tmp s),none⟩:=(rfl)
@[go_sem] theorem buE (d n x y:Nat):iX d n x y=⟨some d,.bvE n (.tmp x) (.tmp y),none⟩:=(rfl)
@[go_sem] theorem btY (d x:Nat):iN d x=⟨some d,.len (.tmp x),none⟩:=(rfl)
@[go_sem] theorem btS (d n x:Nat):iF d n x=⟨some d,.bvV n (.tmp x),none⟩:=(rfl)
@[go_sem] theorem buC (n p x:Nat):iS n p x=⟨none,.store n (.tmp p) (.tmp x),none⟩:=(rfl)
@[go_sem] theorem btO (d:Nat) (o:POp):iA d o=⟨some d,o,none⟩:=(rfl)
@[go_sem] theorem btT (d:Nat) (o:POp) (g:Nat) (b:Bool):iG d o g b=⟨some d,o,some (g,b)⟩:=(rfl)
@[go_sem] theorem buA (d a b:Nat):iP d a b=⟨some d,.pick (.tmp a) (.tmp b) (.const (.bool false)),none⟩:=(rfl)
@[go_sem] theorem buB (d a b:Nat):iQ d a b=⟨some d,.pick (.tmp a) (.const (.bool true)) (.tmp b),none⟩:=(rfl)
@[go_sem] theorem btZ (d s a:Nat):iO d s a=⟨some d,.load (some s) (.tmp a),none⟩:=(rfl)
@[go_sem] theorem btR (d a n:Nat):iE d a n=⟨some d,.extract (.tmp a) n,none⟩:=(rfl)
@[go_sem] theorem btV (d f a:Nat):iK d f a=⟨some d,.call f [.tmp a],none⟩:=(rfl)
@[go_sem] theorem btB (d f a b:Nat):iK2 d f a b=⟨some d,.call f [.tmp a,.tmp b],none⟩:=(rfl)
@[go_sem] theorem buD (d:Nat) (b:Bool):iT d b=⟨some d,.mv (.const (.bool b)),none⟩:=(rfl)
@[go_sem] theorem buF (d:Nat):iZ d=⟨some d,.mv (.const .buJ),none⟩:=(rfl)
@[go_sem] theorem btL (d s g:Nat) (b:Bool):gM d s g b=⟨some d,.mv (.tmp s),some (g,b)⟩:=(rfl)
@[go_sem] theorem btK (d s g:Nat) (b:Bool):gL d s g b=⟨some d,.load none (.tmp s),some (g,b)⟩:=(rfl)
@[go_sem] theorem btI (d n s g:Nat) (b:Bool):gF d n s g b=⟨some d,.bvV n (.tmp s),some (g,b)⟩:=(rfl)
@[go_sem] theorem btM (d s g:Nat) (b:Bool):gN d s g b=⟨some d,.len (.tmp s),some (g,b)⟩:=(rfl)
@[go_sem] theorem btN (d n s g:Nat) (b:Bool):gO d n s g b=⟨some d,.load (some n) (.tmp s),some (g,b)⟩:=(rfl)
@[go_sem] theorem btJ (d f a g:Nat) (b:Bool):gK d f a g b=⟨some d,.call f [.tmp a],some (g,b)⟩:=(rfl)
@[go_sem] theorem btA (d f a c g:Nat) (b:Bool):gK2 d f a c g b=⟨some d,.call f [.tmp a,.tmp c],some (g,b)⟩:=(rfl)
@[go_sem] theorem btH (d:Nat) (o:BinOp) (x:Nat) (n:Int) (g:Nat) (b:Bool):gC d o x n g b=⟨some d,.bin o (.tmp x) (.const (.int .i64 n)),some (g,b)⟩:=(rfl)
@[go_sem] theorem btG (d:Nat) (o:BinOp) (x y g:Nat) (b:Bool):gB d o x y g b=⟨some d,.bin o (.tmp x) (.tmp y),some (g,b)⟩:=(rfl)
@[go_sem] theorem buG (r:Rg) (c:aB):sq r c=.seq (.region r) c:=(rfl)
@[go_sem] theorem btF (r:Rd) (c:aB):dq r c=.seq (.draw r) c:=(rfl)
@[go_sem] theorem btE (n:Nat):Tm n=.tmp n:=(rfl)
@[go_sem] theorem btD (n:Int):Ci n=.const (.int .i64 n):=(rfl)
end Go.PM
namespace Go.PM
open Go
def abO:Rg:=[iA 3 (.box true (Tm 0)),iT 6 false]
def abP:Rg:=[iO 7 7 3,iK 8 96 7,iC 9 .eql 8 0,iM 10 9,gO 11 7 3 10 true,gM 12 1 10 true,gK2 13 153 11 12 10 true,iP 14 10 13,iM 15 14,gM 16 2 15 true,gC 17 .geq 16 0 15 true,iP 18 15 17,iM 19 18,gM 20 2 19 true,gC 21 .leq 20 4 19 true,iP 22 19 21,iM 6 22]
def vQ:aB:=(sq abO (sq abP .ret))
def aVM:List Nat:=[3]
def BK:aW:=⟨3,23,vQ,[.tmp 6]⟩
def aBC:Rg:=[iA 4 (.box true (Tm 0)),iT 8 false]
def aBD:Rg:=[iM 15 1,iN 16 15,iI 17 0]
def aBE:Rg:=[iB 18 .lss 17 16]
def aBF:Rg:=[iM 19 17,iX 20 1 15 17,iL 21 20,iM 9 19,iM 10 21]
def aBG:Rg:=[iT 11 false,iI 12 0]
def aBH:Rg:=[iM 22 10,iN 23 22,iI 24 0]
def aBI:Rg:=[iB 25 .lss 24 23]
def VJ:Rg:=[iX 26 1 22 24,iL 27 26,iM 14 27]
def VK:Rg:=[iM 31 14,iC 32 .lss 31 0,iM 30 32]
def aBJ:Rg:=[iM 34 3,iM 35 14,iK2 36 260 34 35,iM 33 36]
def amN:Rg:=[iT 11 true]
def amO:Rg:=[iM 28 12,iC 29 .add 28 1,iM 12 29]
def xI:Rg:=[iC 37 .add 24 1,iM 24 37]
def amL:aB:=(sq aBI (.seq (.cond (Tm 25) .skip (.exit 2)) (.seq (.block 3 (sq VJ (.block 4 (sq VK (.cond (Tm 30) .skip (sq aBJ (.cond (Tm 33) (.region amN) (.region amO)))))))) (.region xI))))
def MD:Rd:=[(iM 38 11,false),(iM 39 38,false),(gM 40 12 39 true,false),(gF 41 5 4 39 true,false),(gL 42 41 39 true,false),(gF 43 6 4 39 true,false),(gL 44 43 39 true,false),(gM 45 9 39 true,false),(iG 46 (.bvE 2 (Tm 44) (Tm 45)) 39 true,false),(gF 47 1 46 39 true,false),(gL 48 47 39 true,false),(iG 49 (.bvE 17 (Tm 42) (Tm 48)) 39 true,false),(gF 50 1 49 39 true,false),(gL 51 50 39 true,false),(gM 52 2 39 true,false),(gB 53 .add 51 52 39 true,false),(gB 54 .lss 40 53 39 true,false),(iP 55 39 54,false)]
def amP:Rg:=[iT 8 false]
def MF:Rg:=[iC 56 .add 17 1,iM 17 56]
def amM:aB:=(sq aBE (.seq (.cond (Tm 18) .skip (.exit 0)) (.seq (.block 1 (sq aBF (sq aBG (.seq (sq aBH (.block 2 (.loop amL))) (dq MD (.cond (Tm 55) (sq amP .ret) .skip)))))) (.region MF))))
def amQ:Rg:=[iT 8 true]
def FQ:aB:=(sq aBC (.seq (sq aBD (.block 0 (.loop amM))) (sq amQ .ret)))
def a6B:List Nat:=[4]
def abL:aW:=⟨4,57,FQ,[.tmp 8]⟩
def aAV:Rg:=[iA 4 (.box true (Tm 0)),iT 8 false]
def aAW:Rg:=[iO 9 7 4,iM 10 1,iM 11 2,iA 12 (.call 250 [(Tm 9),(Tm 10),(Tm 11)]),iM 13 12,gO 14 7 4 13 true,gM 15 1 13 true,gM 16 2 13 true,gM 17 3 13 true,iG 18 (.call 251 [(Tm 14),(Tm 15),(Tm 16),(Tm 17)]) 13 true,iP 19 13 18,iM 8 19]
def FO:aB:=(sq aAV (sq aAW .ret))
def a5Z:List Nat:=[4]
def abJ:aW:=⟨4,20,FO,[.tmp 8]⟩
def abS:Rg:=[iA 3 (.box true (Tm 0)),iT 6 false]
def abT:Rg:=[iM 7 2,iC 8 .geq 7 0,iM 9 8,gM 10 2 9 true,gC 11 .leq 10 4 9 true,iP 12 9 11,iM 13 12,gO 14 7 3 13 true,gK 15 258 14 13 true,gC 16 .eql 15 0 13 true,iP 17 13 16,iM 18 17,gO 19 7 3 18 true,gM 20 1 18 true,gK2 21 86 19 20 18 true,iP 22 18 21,iM 6 22]
def vT:aB:=(sq abS (sq abT .ret))
def aVO:List Nat:=[3]
def BL:aW:=⟨3,23,vT,[.tmp 6]⟩
def aBR:Rg:=[iA 4 (.box true (Tm 0)),iT 8 false]
def aBS:Rg:=[iI 9 0]
def aBT:Rg:=[iM 13 9,iM 14 1,iN 15 14,iB 16 .lss 13 15]
def aBU:Rg:=[iT 10 false,iI 11 0]
def aBV:Rg:=[iI 12 0]
def aBW:Rg:=[iM 19 12,iM 20 1,iM 21 9,iX 22 1 20 21,iL 23 22,iN 24 23,iB 25 .lss 19 24]
def VM:Rg:=[iM 31 1,iM 32 9,iX 33 1 31 32,iL 34 33,iM 35 12,iX 36 1 34 35,iL 37 36,iC 38 .lss 37 0,iM 30 38]
def aBX:Rg:=[iM 40 3,iM 41 1,iM 42 9,iX 43 1 41 42,iL 44 43,iM 45 12,iX 46 1 44 45,iL 47 46,iK2 48 254 40 47,iM 39 48]
def aBY:Rg:=[iT 10 true]
def aBZ:Rg:=[iM 28 11,iC 29 .add 28 1,iM 11 29]
def xJ:Rg:=[iM 26 12,iC 27 .add 26 1,iM 12 27]
def anA:aB:=(.seq (sq aBW (.cond (Tm 25) .skip (.exit 2))) (.seq (.block 3 (.block 4 (sq VM (.cond (Tm 30) .skip (sq aBX (.cond (Tm 39) (.region aBY) (.region aBZ))))))) (.region xJ)))
def anC:Rg:=[iM 49 10,iM 50 49,gM 51 11 50 true,gO 52 7 4 50 true,gM 53 9 50 true,gK2 54 257 52 53 50 true,gM 55 2 50 true,gB 56 .add 54 55 50 true,gB 57 .lss 51 56 50 true,iP 58 50 57]
def anD:Rg:=[iT 8 false]
def MJ:Rg:=[iM 17 9,iC 18 .add 17 1,iM 9 18]
def anB:aB:=(.seq (sq aBT (.cond (Tm 16) .skip (.exit 0))) (.seq (.block 1 (sq aBU (.seq (sq aBV (.block 2 (.loop anA))) (sq anC (.cond (Tm 58) (sq anD .ret) .skip))))) (.region MJ)))
def anE:Rg:=[iT 8 true]
def FW:aB:=(sq aBR (.seq (sq aBS (.block 0 (.loop anB))) (sq anE .ret)))
def a6I:List Nat:=[4]
def abR:aW:=⟨4,59,FW,[.tmp 8]⟩
def aBP:Rg:=[iA 4 (.box true (Tm 0)),iT 8 false]
def aBQ:Rg:=[iO 9 7 4,iM 10 1,iM 11 2,iA 12 (.call 253 [(Tm 9),(Tm 10),(Tm 11)]),iM 13 12,gO 14 7 4 13 true,gM 15 1 13 true,gM 16 2 13 true,gM 17 3 13 true,iG 18 (.call 255 [(Tm 14),(Tm 15),(Tm 16),(Tm 17)]) 13 true,iP 19 13 18,iM 8 19]
def FU:aB:=(sq aBP (sq aBQ .ret))
def a6G:List Nat:=[4]
def abQ:aW:=⟨4,20,FU,[.tmp 8]⟩
def a8S:Rg:=[iA 2 (.box true (Tm 0)),iI 4 0]
def a8T:Rd:=[(iF 5 5 2,false),(iL 6 5,false),(iF 7 6 2,false),(iL 8 7,false),(iM 9 1,false),(iX 10 2 8 9,false),(iF 11 1 10,false),(iL 12 11,false),(iX 13 17 6 12,false),(iF 14 1 13,false),(iL 15 14,false),(iM 4 15,false)]
def ahZ:aB:=(sq a8S (dq a8T .ret))
def bjM:List Nat:=[2]
def qk:aW:=⟨2,16,ahZ,[.tmp 4]⟩
def OU:Rg:=[iA 1 (.box true (Tm 0)),iI 2 0]
def OV:Rg:=[iO 3 7 1,iK 4 67 3,iA 5 (.un .not (Tm 4))]
def OW:Rg:=[iI 2 1]
def OX:Rg:=[iI 2 0]
def rL:aB:=(sq OU (.seq (sq OV (.cond (Tm 5) (sq OW .ret) .skip)) (sq OX .ret)))
def aHJ:List Nat:=[1]
def sS:aW:=⟨1,6,rL,[.tmp 2]⟩
def axK:Rg:=[iT 6 false]
def axL:Rg:=[iM 12 1,iN 13 12,iC 14 .gtr 13 20]
def axM:Rg:=[iA 15 (.call 26 []),iM 6 15]
def axN:Rg:=[iM 17 0,iK 18 249 17,iM 16 18,iE 19 16 0,iE 20 16 1,iA 7 (.alloc [(.int .i64 0),.buJ,.buJ,.buJ,.buJ,.buJ,.buJ,.buJ,.buJ]),iS 9 7 19,iM 8 20]
def axO:Rg:=[iZ 9]
def axP:Rg:=[iI 10 0]
def axQ:Rg:=[iM 21 10,iM 22 1,iN 23 22,iB 24 .lss 21 23]
def axR:Rd:=[(iM 27 9,true),(iM 28 1,false),(iM 29 10,false),(iX 30 1 28 29,false),(iL 31 30,false),(iF 32 0 7,false),(iF 33 4 32,false),(iL 34 33,false),(iN 35 34,false),(iK2 36 24 31 35,true),(iA 37 (.buO true 1 1 [(.int .i64 0)] [(0,(Tm 36))]),false),(iA 38 (.append 1 8 (Tm 27) (Tm 37)),true),(iM 9 38,false)]
def axS:Rg:=[iM 25 10,iC 26 .add 25 1,iM 10 26]
def axJ:aB:=(.seq (sq axQ (.cond (Tm 24) .skip (.exit 0))) (.seq (.block 1 (.draw axR)) (.region axS)))
def alE:Rg:=[iM 39 2,iA 40 (.call 24 [(Tm 39),(Ci 3)]),iM 11 40]
def KP:Rd:=[(iA 41 (.call 26 []),true),(iM 42 41,false),(gF 43 0 7 42 true,false),(gO 44 7 43 42 true,false),(gF 45 7 7 42 true,false),(gL 46 45 42 true,false),(gM 47 2 42 true,false),(gM 48 1 42 true,false),(iG 49 (.call 252 [(Tm 44),(Tm 46),(Tm 47),(Tm 48)]) 42 true,true),(gF 50 0 7 42 true,true),(gO 51 7 50 42 true,true),(gF 52 7 7 42 true,true),(gL 53 52 42 true,true),(gM 54 2 42 true,true),(gM 55 1 42 true,true),(iG 56 (.call 256 [(Tm 51),(Tm 53),(Tm 54),(Tm 55)]) 42 true,true),(iG 57 (.eqb false (Tm 49) (Tm 56)) 42 true,false),(iP 58 42 57,false),(iM 59 58,false),(gF 60 0 7 59 true,false),(gO 61 7 60 59 true,false),(gF 62 7 7 59 true,false),(gL 63 62 59 true,false),(gM 64 11 59 true,false),(gM 65 9 59 true,false),(iG 66 (.call 252 [(Tm 61),(Tm 63),(Tm 64),(Tm 65)]) 59 true,true),(gF 67 0 7 59 true,true),(gO 68 7 67 59 true,true),(gF 69 7 7 59 true,true),(gL 70 69 59 true,true),(gM 71 11 59 true,true),(gM 72 9 59 true,true),(iG 73 (.call 256 [(Tm 68),(Tm 70),(Tm 71),(Tm 72)]) 59 true,true),(iG 74 (.eqb false (Tm 66) (Tm 73)) 59 true,false),(iP 75 59 74,false),(iM 76 75,false),(iG 77 (.build [(.int .i64 0),.buJ,.buJ,.buJ,.buJ,.buJ,.buJ] []) 76 true,false),(gF 78 7 7 76 true,false),(gL 79 78 76 true,false),(gM 80 11 76 true,false),(gM 81 9 76 true,false),(iG 82 (.call 252 [(Tm 77),(Tm 79),(Tm 80),(Tm 81)]) 76 true,true),(iG 83 (.un .not (Tm 82)) 76 true,false),(iP 84 76 83,false),(iM 6 84,false)]
def ES:aB:=(sq axK (.seq (sq axL (.cond (Tm 14) (sq axM .ret) .skip)) (sq axN (sq axO (.seq (sq axP (.block 0 (.loop axJ))) (sq alE (dq KP .ret)))))))
def a5E:List Nat:=[37]
def aaF:aW:=⟨3,85,ES,[.tmp 6]⟩
def MB:Rg:=[iT 4 false]
def MC:Rg:=[iM 5 0,iM 6 1,iK2 7 261 5 6,iC 8 .geq 7 0,iM 4 8]
def rD:aB:=(sq MB (sq MC .ret))
def aBA:List Nat:=[]
def sM:aW:=⟨2,9,rD,[.tmp 4]⟩
def amS:Rg:=[iI 4 0]
def amT:Rg:=[iM 6 0,iN 7 6,iI 8 0]
def amU:Rg:=[iB 9 .lss 8 7]
def MH:Rg:=[iM 10 8,iM 5 10]
def MI:Rg:=[iM 11 1,iM 12 0,iM 13 5,iX 14 1 12 13,iL 15 14,iB 16 .eql 11 15]
def amV:Rg:=[iM 17 5,iM 4 17]
def amW:Rg:=[iC 18 .add 8 1,iM 8 18]
def amR:aB:=(sq amU (.seq (.cond (Tm 9) .skip (.exit 0)) (.seq (.block 1 (sq MH (sq MI (.cond (Tm 16) (sq amV .ret) .skip)))) (.region amW))))
def amX:Rg:=[iI 4 (-1)]
def zH:aB:=(sq amS (.seq (sq amT (.block 0 (.loop amR))) (sq amX .ret)))
def a0I:List Nat:=[]
def MG:aW:=⟨2,19,zH,[.tmp 4]⟩
def FB:Rg:=[iI 2 0]
def FC:Rg:=[iM 4 0,iN 5 4,iM 3 5]
def FD:Rg:=[iM 6 3,iC 7 .gtr 6 0,iM 8 7,gM 9 0 8 true,gM 10 3 8 true,gC 11 .sub 10 1 8 true,iG 12 (.bvE 1 (Tm 9) (Tm 11)) 8 true,gL 13 12 8 true,iG 14 (.bin .eql (Tm 13) (.const (.int .u32 0))) 8 true,iP 15 8 14]
def FF:Rg:=[iM 16 3,iC 17 .sub 16 1,iM 3 17]
def FA:aB:=(.seq (sq FD (.cond (Tm 15) .skip (.exit 0))) (.block 1 (.region FF)))
def qD:Rg:=[iM 18 3,iM 2 18]
def mL:aB:=(sq FB (sq FC (.seq (.block 0 (.loop FA)) (sq qD .ret))))
def aVD:List Nat:=[]
def rA:aW:=⟨1,19,mL,[.tmp 2]⟩
def alO:Rg:=[iT 2 false]
def alP:Rg:=[iM 3 0,iK 4 138 3,iC 5 .gtr 4 512,iM 2 5]
def zE:aB:=(sq alO (sq alP .ret))
def aZK:List Nat:=[]
def KY:aW:=⟨1,6,zE,[.tmp 2]⟩
def amB:Rg:=[iZ 2,iI 3 0]
def amC:Rg:=[iM 5 0,iK 6 138 5,iM 4 6]
def amD:Rg:=[iM 7 4,iC 8 .gtr 7 512]
def amE:Rg:=[iZ 2,iI 3 2]
def amF:Rg:=[iM 9 0,iM 10 4,iM 11 4,iA 12 (.slice 1 (Tm 9) none (some (Tm 10)) (some (Tm 11))),iM 2 12,iI 3 0]
def zG:aB:=(sq amB (sq amC (.seq (sq amD (.cond (Tm 8) (sq amE .ret) .skip)) (sq amF .ret))))
def aZP:List Nat:=[]
def LF:aW:=⟨1,13,zG,[.tmp 2,.tmp 3]⟩
def azS:Rg:=[iZ 2]
def azT:Rg:=[iM 4 0,iA 5 (.conv .u32 (Tm 4)),iM 6 0,iA 7 (.bin .shr (Tm 6) (.const (.int .u64 32))),iA 8 (.conv .u32 (Tm 7)),iA 9 (.buO true 1 2 [(.int .u32 0)] [(0,(Tm 5)),(1,(Tm 8))]),iM 3 9]
def azU:Rg:=[iM 10 3,iM 11 3,iK 12 138 11,iA 13 (.slice 1 (Tm 10) none (some (Tm 12)) none),iM 2 13]
def FG:aB:=(sq azS (sq azT (sq azU .ret)))
def a5Q:List Nat:=[9]
def abE:aW:=⟨1,14,FG,[.tmp 2]⟩
def aAN:Rg:=[iZ 2]
def aAO:Rg:=[iM 3 0,iM 4 0,iK 5 138 4,iA 6 (.slice 1 (Tm 3) none (some (Tm 5)) none),iA 7 (.append 1 4 (.const .buJ) (Tm 6)),iM 2 7]
def FH:aB:=(sq aAN (sq aAO .ret))
def a5T:List Nat:=[]
def abH:aW:=⟨1,8,FH,[.tmp 2]⟩
def aMC:Rg:=[iI 4 0]
def aMD:Rg:=[iM 8 0,iK 9 138 8,iM 10 1,iK 11 138 10,iM 5 9,iM 6 11]
def aME:Rg:=[iM 13 5,iM 14 6,iB 15 .lss 13 14,iM 12 15]
def aMF:Rg:=[iI 4 (-1)]
def aMG:Rg:=[iM 17 5,iM 18 6,iB 19 .gtr 17 18,iM 16 19]
def aMH:Rg:=[iI 4 1]
def aMI:Rg:=[iM 20 5,iC 21 .sub 20 1,iM 7 21]
def aMJ:Rg:=[iM 22 7,iC 23 .geq 22 0]
def aMK:Rd:=[(iM 27 0,false),(iM 28 7,false),(iX 29 1 27 28,false),(iL 30 29,false),(iM 31 1,false),(iM 32 7,false),(iX 33 1 31 32,false),(iL 34 33,false),(iB 35 .lss 30 34,false),(iM 26 35,false)]
def aML:Rg:=[iI 4 (-1)]
def azH:Rd:=[(iM 37 0,false),(iM 38 7,false),(iX 39 1 37 38,false),(iL 40 39,false),(iM 41 1,false),(iM 42 7,false),(iX 43 1 41 42,false),(iL 44 43,false),(iB 45 .gtr 40 44,false),(iM 36 45,false)]
def azI:Rg:=[iI 4 1]
def azJ:Rg:=[iM 24 7,iC 25 .sub 24 1,iM 7 25]
def azG:aB:=(.seq (sq aMJ (.cond (Tm 23) .skip (.exit 1))) (.seq (.block 2 (.block 3 (dq aMK (.cond (Tm 26) (sq aML .ret) (dq azH (.cond (Tm 36) (sq azI .ret) .skip)))))) (.region azJ)))
def azK:Rg:=[iI 4 0]
def KT:aB:=(sq aMC (sq aMD (.seq (.block 0 (sq aME (.cond (Tm 12) (sq aMF .ret) (sq aMG (.cond (Tm 16) (sq aMH .ret) .skip))))) (.seq (sq aMI (.block 1 (.loop azG))) (sq azK .ret)))))
def bbV:List Nat:=[]
def azF:aW:=⟨2,46,KT,[.tmp 4]⟩
def aLW:Rg:=[iZ 4,iI 5 0]
def aLX:Rg:=[iM 9 0,iK 10 137 9,iM 11 10,gM 12 1 11 false,gK 13 137 12 11 false,iQ 14 11 13]
def ahF:Rg:=[iZ 4,iI 5 2]
def aLY:Rd:=[(iM 15 0,true),(iM 16 0,false),(iK 17 138 16,true),(iA 18 (.slice 1 (Tm 15) none (some (Tm 17)) none),true),(iM 19 1,true),(iM 20 1,true),(iK 21 138 20,true),(iA 22 (.slice 1 (Tm 19) none (some (Tm 21)) none),false),(iM 0 18,false),(iM 1 22,false)]
def aLZ:Rg:=[iM 23 0,iN 24 23,iM 25 1,iN 26 25,iB 27 .lss 24 26]
def aMA:Rg:=[iM 28 1,iM 29 0,iM 0 28,iM 1 29]
def ahG:Rg:=[iM 30 0,iN 31 30,iC 32 .add 31 1,iA 33 (.buT 1 4 [(.int .u32 0)] (Tm 32) (Tm 32)),iM 6 33]
def ahH:Rg:=[iA 7 (.mv (.const (.int .u64 0)))]
def ahI:Rg:=[iM 34 0,iN 35 34,iI 36 0]
def aMB:Rg:=[iB 37 .lss 36 35]
def ayQ:Rg:=[iM 38 36,iM 8 38]
def ayR:Rg:=[iM 39 7,iM 40 0,iM 41 8,iX 42 1 40 41,iL 43 42,iA 44 (.conv .u64 (Tm 43)),iB 45 .add 39 44,iM 7 45]
def ayS:Rg:=[iM 46 8,iM 47 1,iN 48 47,iB 49 .lss 46 48]
def ayT:Rg:=[iM 50 7,iM 51 1,iM 52 8,iX 53 1 51 52,iL 54 53,iA 55 (.conv .u64 (Tm 54)),iB 56 .add 50 55,iM 7 56]
def UR:Rg:=[iM 57 6,iM 58 8,iM 59 7,iA 60 (.conv .u32 (Tm 59)),iX 61 1 57 58,iS 1 61 60]
def US:Rg:=[iM 62 7,iA 63 (.bin .shr (Tm 62) (.const (.int .u64 32))),iM 7 63]
def UT:Rg:=[iC 64 .add 36 1,iM 36 64]
def UQ:aB:=(sq aMB (.seq (.cond (Tm 37) .skip (.exit 0)) (.seq (.block 1 (sq ayQ (sq ayR (.seq (sq ayS (.cond (Tm 49) (.region ayT) .skip)) (sq UR (.region US)))))) (.region UT))))
def UU:Rg:=[iM 65 6,iM 66 0,iN 67 66,iM 68 7,iA 69 (.conv .u32 (Tm 68)),iX 70 1 65 67,iS 1 70 69]
def UV:Rg:=[iM 71 6,iK 72 141 71,iE 73 72 0,iE 74 72 1,iM 4 73,iM 5 74]
def KR:aB:=(sq aLW (.seq (sq aLX (.cond (Tm 14) (sq ahF .ret) .skip)) (dq aLY (.seq (sq aLZ (.cond (Tm 27) (.region aMA) .skip)) (sq ahG (sq ahH (.seq (sq ahI (.block 0 (.loop UQ))) (sq UU (sq UV .ret)))))))))
def bbS:List Nat:=[]
def ayP:aW:=⟨2,75,KR,[.tmp 4,.tmp 5]⟩
def aNE:Rg:=[iZ 4,iI 5 0]
def aNF:Rg:=[iM 11 0,iK 12 137 11,iM 13 12,gM 14 1 13 false,gK 15 137 14 13 false,iQ 16 13 15,iM 10 16]
def ahT:Rg:=[iZ 4,iI 5 2]
def aNG:Rg:=[iM 18 0,iM 19 1,iK2 20 129 18 19,iC 21 .lss 20 0,iM 17 21]
def aNH:Rg:=[iZ 4,iI 5 4]
def aNI:Rd:=[(iM 22 0,true),(iM 23 0,false),(iK 24 138 23,true),(iA 25 (.slice 1 (Tm 22) none (some (Tm 24)) none),true),(iM 26 1,true),(iM 27 1,true),(iK 28 138 27,true),(iA 29 (.slice 1 (Tm 26) none (some (Tm 28)) none),false),(iM 0 25,false),(iM 1 29,false)]
def ahU:Rg:=[iM 30 0,iN 31 30,iA 32 (.buT 1 4 [(.int .u32 0)] (Tm 31) (Tm 31)),iM 6 32]
def ahV:Rg:=[iA 7 (.mv (.const (.int .u64 0)))]
def ahW:Rg:=[iM 33 0,iN 34 33,iI 35 0]
def aNJ:Rg:=[iB 36 .lss 35 34]
def aAG:Rg:=[iM 37 35,iM 8 37]
def aAH:Rg:=[iM 38 0,iM 39 8,iX 40 1 38 39,iL 41 40,iA 42 (.conv .u64 (Tm 41)),iM 43 7,iB 44 .sub 42 43,iM 9 44]
def aAI:Rg:=[iM 45 8,iM 46 1,iN 47 46,iB 48 .lss 45 47]
def aAJ:Rg:=[iM 49 9,iM 50 1,iM 51 8,iX 52 1 50 51,iL 53 52,iA 54 (.conv .u64 (Tm 53)),iB 55 .sub 49 54,iM 9 55]
def VC:Rg:=[iM 56 6,iM 57 8,iM 58 9,iA 59 (.conv .u32 (Tm 58)),iX 60 1 56 57,iS 1 60 59]
def VD:Rg:=[iM 61 9,iA 62 (.bin .shr (Tm 61) (.const (.int .u64 63))),iM 7 62]
def VE:Rg:=[iC 63 .add 35 1,iM 35 63]
def VB:aB:=(sq aNJ (.seq (.cond (Tm 36) .skip (.exit 1)) (.seq (.block 2 (sq aAG (sq aAH (.seq (sq aAI (.cond (Tm 48) (.region aAJ) .skip)) (sq VC (.region VD)))))) (.region VE))))
def VG:Rg:=[iM 64 6,iK 65 141 64,iE 66 65 0,iE 67 65 1,iM 4 66,iM 5 67]
def LG:aB:=(sq aNE (.seq (.block 0 (sq aNF (.cond (Tm 10) (sq ahT .ret) (sq aNG (.cond (Tm 17) (sq aNH .ret) .skip))))) (dq aNI (sq ahU (sq ahV (.seq (sq ahW (.block 1 (.loop VB))) (sq VG .ret)))))))
def bcD:List Nat:=[]
def aAF:aW:=⟨2,68,LG,[.tmp 4,.tmp 5]⟩
def aNA:Rg:=[iZ 4,iI 5 0]
def aNB:Rg:=[iM 12 0,iK 13 137 12,iM 14 13,gM 15 1 14 false,gK 16 137 15 14 false,iQ 17 14 16]
def ahM:Rg:=[iZ 4,iI 5 2]
def aNC:Rd:=[(iM 18 0,true),(iM 19 0,false),(iK 20 138 19,true),(iA 21 (.slice 1 (Tm 18) none (some (Tm 20)) none),true),(iM 22 1,true),(iM 23 1,true),(iK 24 138 23,true),(iA 25 (.slice 1 (Tm 22) none (some (Tm 24)) none),false),(iM 0 21,false),(iM 1 25,false)]
def ahN:Rg:=[iM 26 0,iN 27 26,iM 28 1,iN 29 28,iB 30 .add 27 29,iA 31 (.buT 1 4 [(.int .u32 0)] (Tm 30) (Tm 30)),iM 6 31]
def ahO:Rg:=[iM 32 0,iN 33 32,iI 34 0]
def aND:Rg:=[iB 35 .lss 34 33]
def ahP:Rg:=[iM 36 34,iX 37 1 32 34,iL 38 37,iM 7 36,iM 8 38]
def ahQ:Rg:=[iA 9 (.mv (.const (.int .u64 0)))]
def ahR:Rg:=[iM 39 1,iN 40 39,iI 41 0]
def azW:Rg:=[iB 42 .lss 41 40]
def azX:Rg:=[iM 43 41,iX 44 1 39 41,iL 45 44,iM 10 43,iM 11 45]
def azY:Rg:=[iM 46 9,iM 47 8,iA 48 (.conv .u64 (Tm 47)),iM 49 11,iA 50 (.conv .u64 (Tm 49)),iB 51 .mul 48 50,iM 52 6,iM 53 7,iM 54 10,iB 55 .add 53 54,iX 56 1 52 55,iL 57 56,iA 58 (.conv .u64 (Tm 57)),iB 59 .add 51 58,iB 60 .add 46 59,iM 9 60]
def azZ:Rg:=[iM 61 6,iM 62 7,iM 63 10,iB 64 .add 62 63,iM 65 9,iA 66 (.conv .u32 (Tm 65)),iX 67 1 61 64,iS 1 67 66]
def aAA:Rg:=[iM 68 9,iA 69 (.bin .shr (Tm 68) (.const (.int .u64 32))),iM 9 69]
def aAB:Rg:=[iC 70 .add 41 1,iM 41 70]
def UX:aB:=(sq azW (.seq (.cond (Tm 42) .skip (.exit 2)) (.seq (.block 3 (sq azX (sq azY (sq azZ (.region aAA))))) (.region aAB))))
def UZ:Rg:=[iM 71 6,iM 72 7,iM 73 1,iN 74 73,iB 75 .add 72 74,iM 76 9,iA 77 (.conv .u32 (Tm 76)),iX 78 1 71 75,iS 1 78 77]
def aAC:Rg:=[iC 79 .add 34 1,iM 34 79]
def UY:aB:=(sq aND (.seq (.cond (Tm 35) .skip (.exit 0)) (.seq (.block 1 (sq ahP (sq ahQ (.seq (sq ahR (.block 2 (.loop UX))) (.region UZ))))) (.region aAC))))
def VA:Rg:=[iM 80 6,iK 81 141 80,iE 82 81 0,iE 83 81 1,iM 4 82,iM 5 83]
def KZ:aB:=(sq aNA (.seq (sq aNB (.cond (Tm 17) (sq ahM .ret) .skip)) (dq aNC (sq ahN (.seq (sq ahO (.block 0 (.loop UY))) (sq VA .ret))))))
def bcB:List Nat:=[]
def azV:aW:=⟨2,84,KZ,[.tmp 4,.tmp 5]⟩
def ayW:Rg:=[iI 2 0]
def ayX:Rg:=[iM 6 0,iK 7 138 6,iM 3 7]
def ayY:Rg:=[iM 8 3,iC 9 .eql 8 0]
def ayZ:Rg:=[iI 2 0]
def azA:Rg:=[iM 10 3,iC 11 .sub 10 1,iC 12 .mul 11 32,iM 4 12]
def azB:Rg:=[iM 13 0,iM 14 3,iC 15 .sub 14 1,iX 16 1 13 15,iL 17 16,iM 5 17]
def azC:Rg:=[iM 18 5,iA 19 (.bin .gtr (Tm 18) (.const (.int .u32 0)))]
def azD:Rg:=[iM 22 4,iC 23 .add 22 1,iM 4 23]
def azE:Rg:=[iM 20 5,iA 21 (.bin .shr (Tm 20) (.const (.int .u64 1))),iM 5 21]
def ayV:aB:=(.seq (sq azC (.cond (Tm 19) .skip (.exit 0))) (.seq (.block 1 (.region azD)) (.region azE)))
def alN:Rg:=[iM 24 4,iM 2 24]
def EZ:aB:=(sq ayW (sq ayX (.seq (sq ayY (.cond (Tm 9) (sq ayZ .ret) .skip)) (sq azA (.seq (sq azB (.block 0 (.loop ayV))) (sq alN .ret))))))
def a5O:List Nat:=[]
def aaS:aW:=⟨1,25,EZ,[.tmp 2]⟩
def aMT:Rg:=[iZ 4,iI 5 0]
def aMU:Rg:=[iM 8 0,iK 9 137 8,iM 10 9,gM 11 1 10 false,gK 12 137 11 10 false,iQ 13 10 12]
def ahL:Rg:=[iZ 4,iI 5 2]
def aMV:Rg:=[iM 14 0,iK 15 135 14,iM 16 1,iK 17 135 16,iM 0 15,iM 1 17]
def aMW:Rg:=[iM 18 1,iN 19 18,iC 20 .gtr 19 0]
def aMX:Rg:=[iM 22 0,iM 23 1,iK2 24 136 22 23,iM 21 24,iE 25 21 0,iE 26 21 1,iM 6 25,iM 7 26]
def aMY:Rg:=[iM 27 1,iM 28 7,iM 0 27,iM 1 28]
def aMS:aB:=(.seq (sq aMW (.cond (Tm 20) .skip (.exit 0))) (.block 1 (sq aMX (.region aMY))))
def aMZ:Rg:=[iM 29 0,iM 4 29,iI 5 0]
def KX:aB:=(sq aMT (.seq (sq aMU (.cond (Tm 13) (sq ahL .ret) .skip)) (sq aMV (.seq (.block 0 (.loop aMS)) (sq aMZ .ret)))))
def bbZ:List Nat:=[]
def azP:aW:=⟨2,30,KX,[.tmp 4,.tmp 5]⟩
def aMM:Rg:=[iZ 4,iZ 5,iI 6 0]
def aMN:Rg:=[iM 10 0,iK 11 137 10,iM 12 11,gM 13 1 12 false,gK 14 137 13 12 false,iQ 15 12 14,iM 9 15]
def ahJ:Rg:=[iZ 4,iZ 5,iI 6 2]
def aMO:Rg:=[iM 17 1,iK 18 138 17,iC 19 .eql 18 0,iM 16 19]
def aMP:Rg:=[iZ 4,iZ 5,iI 6 3]
def aMQ:Rd:=[(iM 21 0,true),(iM 22 0,false),(iK 23 138 22,true),(iA 24 (.slice 1 (Tm 21) none (some (Tm 23)) none),true),(iM 25 1,true),(iM 26 1,true),(iK 27 138 26,true),(iA 28 (.slice 1 (Tm 25) none (some (Tm 27)) none),false),(iK2 29 136 24 28,true),(iM 20 29,false),(iE 30 20 0,false),(iE 31 20 1,false),(iM 7 30,false),(iM 8 31,false)]
def aMR:Rg:=[iM 32 7,iM 33 8,iM 4 32,iM 5 33,iI 6 0]
def KV:aB:=(sq aMM (.seq (.block 0 (sq aMN (.cond (Tm 9) (sq ahJ .ret) (sq aMO (.cond (Tm 16) (sq aMP .ret) .skip))))) (dq aMQ (sq aMR .ret))))
def bbX:List Nat:=[]
def azL:aW:=⟨2,34,KV,[.tmp 4,.tmp 5,.tmp 6]⟩
def alS:Rg:=[iZ 4,iA 5 (.mv (.const (.int .u32 0)))]
def alT:Rg:=[iM 9 0,iN 10 9,iA 11 (.buT 1 4 [(.int .u32 0)] (Tm 10) (Tm 10)),iM 6 11]
def alU:Rg:=[iA 7 (.mv (.const (.int .u64 0)))]
def alV:Rg:=[iM 12 0,iN 13 12,iC 14 .sub 13 1,iM 8 14]
def alW:Rg:=[iM 15 8,iC 16 .geq 15 0]
def alX:Rg:=[iM 19 7,iA 20 (.bin .shl (Tm 19) (.const (.int .u64 32))),iM 21 0,iM 22 8,iX 23 1 21 22,iL 24 23,iA 25 (.conv .u64 (Tm 24)),iB 26 .or 20 25,iM 7 26]
def alY:Rg:=[iM 27 6,iM 28 8,iM 29 7,iM 30 1,iA 31 (.conv .u64 (Tm 30)),iB 32 .quo 29 31,iA 33 (.conv .u32 (Tm 32)),iX 34 1 27 28,iS 1 34 33]
def alZ:Rg:=[iM 35 7,iM 36 1,iA 37 (.conv .u64 (Tm 36)),iB 38 .rem 35 37,iM 7 38]
def amA:Rg:=[iM 17 8,iC 18 .sub 17 1,iM 8 18]
def alR:aB:=(.seq (sq alW (.cond (Tm 16) .skip (.exit 0))) (.seq (.block 1 (sq alX (sq alY (.region alZ)))) (.region amA)))
def abF:Rg:=[iM 39 6,iM 40 6,iK 41 138 40,iA 42 (.slice 1 (Tm 39) none (some (Tm 41)) none),iM 43 7,iA 44 (.conv .u32 (Tm 43)),iM 4 42,iM 5 44]
def zF:aB:=(sq alS (sq alT (sq alU (.seq (sq alV (.block 0 (.loop alR))) (sq abF .ret)))))
def aZN:List Nat:=[]
def LE:aW:=⟨2,45,zF,[.tmp 4,.tmp 5]⟩
def aZR:Rg:=[iZ 4]
def aZS:Rg:=[iM 9 0,iN 10 9,iC 11 .add 10 1,iA 12 (.buT 1 4 [(.int .u32 0)] (Tm 11) (Tm 11)),iM 5 12]
def aZT:Rg:=[iA 6 (.mv (.const (.int .u64 0)))]
def aZU:Rg:=[iM 13 0,iN 14 13,iI 15 0]
def aZV:Rg:=[iB 16 .lss 15 14]
def aZW:Rg:=[iM 17 15,iX 18 1 13 15,iL 19 18,iM 7 17,iM 8 19]
def aZX:Rg:=[iM 20 6,iM 21 8,iA 22 (.conv .u64 (Tm 21)),iM 23 1,iB 24 .shl 22 23,iB 25 .or 20 24,iM 6 25]
def aZY:Rg:=[iM 26 5,iM 27 7,iM 28 6,iA 29 (.conv .u32 (Tm 28)),iX 30 1 26 27,iS 1 30 29]
def aZZ:Rg:=[iM 31 6,iA 32 (.bin .shr (Tm 31) (.const (.int .u64 32))),iM 6 32]
def a0A:Rg:=[iC 33 .add 15 1,iM 15 33]
def aNK:aB:=(sq aZV (.seq (.cond (Tm 16) .skip (.exit 0)) (.seq (.block 1 (sq aZW (sq aZX (sq aZY (.region aZZ))))) (.region a0A))))
def aNL:Rg:=[iM 34 5,iM 35 0,iN 36 35,iM 37 6,iA 38 (.conv .u32 (Tm 37)),iX 39 1 34 36,iS 1 39 38]
def aNM:Rg:=[iM 40 5,iM 4 40]
def VH:aB:=(sq aZR (sq aZS (sq aZT (.seq (sq aZU (.block 0 (.loop aNK))) (sq aNL (sq aNM .ret))))))
def bgE:List Nat:=[]
def nup:aW:=⟨2,41,VH,[.tmp 4]⟩
def aaU:Rg:=[iZ 4,iZ 5]
def aaV:Rg:=[iM 21 0,iM 22 1,iK2 23 129 21 22,iC 24 .lss 23 0]
def aaW:Rg:=[iM 25 0,iK 26 135 25,iZ 4,iM 5 26]
def aaX:Rg:=[iM 27 1,iN 28 27,iC 29 .eql 28 1]
def aaY:Rg:=[iM 31 0,iM 32 1,iA 33 (.bvE 1 (Tm 32) (Ci 0)),iL 34 33,iK2 35 140 31 34,iM 30 35,iE 36 30 0,iE 37 30 1,iM 6 36,iM 7 37]
def aaZ:Rg:=[iM 38 6,iM 39 7,iA 40 (.conv .u64 (Tm 39)),iK 41 132 40,iM 4 38,iM 5 41]
def abA:Rg:=[iA 8 (.mv (.const (.int .u64 0)))]
def abB:Rg:=[iM 42 1,iM 43 1,iN 44 43,iC 45 .sub 44 1,iX 46 1 42 45,iL 47 46,iM 48 8,iB 49 .shl 47 48,iA 50 (.bin .lss (Tm 49) (.const (.int .u32 2147483648)))]
def abC:Rg:=[iM 51 8,iA 52 (.bin .add (Tm 51) (.const (.int .u64 1))),iM 8 52]
def aaT:aB:=(.seq (sq abB (.cond (Tm 50) .skip (.exit 0))) (.block 1 (.region abC)))
def QY:Rd:=[(iM 53 0,false),(iM 54 8,false),(iK2 55 143 53 54,true),(iM 56 1,true),(iM 57 8,true),(iK2 58 143 56 57,true),(iM 59 1,true),(iN 60 59,true),(iA 61 (.slice 1 (Tm 58) none (some (Tm 60)) none),false),(iM 9 55,false),(iM 10 61,false)]
def QZ:Rg:=[iM 62 10,iN 63 62,iM 11 63]
def RA:Rg:=[iM 64 9,iN 65 64,iM 66 11,iB 67 .sub 65 66,iA 68 (.buT 1 4 [(.int .u32 0)] (Tm 67) (Tm 67)),iM 12 68]
def RB:Rd:=[(iM 69 10,false),(iM 70 11,false),(iC 71 .sub 70 1,false),(iX 72 1 69 71,false),(iL 73 72,false),(iA 74 (.conv .u64 (Tm 73)),false),(iM 75 10,false),(iM 76 11,false),(iC 77 .sub 76 2,false),(iX 78 1 75 77,false),(iL 79 78,false),(iA 80 (.conv .u64 (Tm 79)),false),(iM 13 74,false),(iM 14 80,false)]
def RC:Rg:=[iM 81 12,iN 82 81,iC 83 .sub 82 1,iM 15 83]
def RD:Rg:=[iM 84 15,iC 85 .geq 84 0]
def yU:Rd:=[(iM 88 9,false),(iM 89 15,false),(iM 90 11,false),(iB 91 .add 89 90,false),(iX 92 1 88 91,false),(iL 93 92,false),(iA 94 (.conv .u64 (Tm 93)),false),(iA 95 (.bin .shl (Tm 94) (.const (.int .u64 32))),false),(iM 96 9,false),(iM 97 15,false),(iM 98 11,false),(iB 99 .add 97 98,false),(iC 100 .sub 99 1,false),(iX 101 1 96 100,false),(iL 102 101,false),(iA 103 (.conv .u64 (Tm 102)),false),(iB 104 .or 95 103,false),(iM 16 104,false)]
def yV:Rd:=[(iM 105 16,false),(iM 106 13,false),(iB 107 .quo 105 106,false),(iM 108 16,false),(iM 109 13,false),(iB 110 .rem 108 109,false),(iM 17 107,false),(iM 18 110,false)]
def RE:Rg:=[iM 111 17,iA 112 (.bin .geq (Tm 111) (.const (.int .u64 4294967296))),iM 113 112,gM 114 17 113 false,gM 115 14 113 false,gB 116 .mul 114 115 113 false,gM 117 18 113 false,iG 118 (.bin .shl (Tm 117) (.const (.int .u64 32))) 113 false,gM 119 9 113 false,gM 120 15 113 false,gM 121 11 113 false,gB 122 .add 120 121 113 false,gC 123 .sub 122 2 113 false,iG 124 (.bvE 1 (Tm 119) (Tm 123)) 113 false,gL 125 124 113 false,iG 126 (.conv .u64 (Tm 125)) 113 false,gB 127 .or 118 126 113 false,gB 128 .gtr 116 127 113 false,iQ 129 113 128]
def yW:Rg:=[iM 130 17,iA 131 (.bin .sub (Tm 130) (.const (.int .u64 1))),iM 17 131]
def yX:Rg:=[iM 132 18,iM 133 13,iB 134 .add 132 133,iM 18 134]
def yY:Rg:=[iM 135 18,iA 136 (.bin .geq (Tm 135) (.const (.int .u64 4294967296)))]
def rP:aB:=(.seq (sq RE (.cond (Tm 129) .skip (.exit 4))) (.block 5 (sq yW (sq yX (sq yY (.cond (Tm 136) (.exit 4) .skip))))))
def yZ:Rg:=[iM 137 9,iM 138 15,iM 139 15,iM 140 11,iB 141 .add 139 140,iC 142 .add 141 1,iA 143 (.slice 1 (Tm 137) (some (Tm 138)) (some (Tm 142)) none),iM 144 10,iM 145 17,iA 146 (.call 142 [(Tm 143),(Tm 144),(Tm 145)])]
def zA:Rg:=[iM 147 17,iA 148 (.bin .sub (Tm 147) (.const (.int .u64 1))),iM 17 148]
def zB:Rg:=[iM 149 9,iM 150 15,iM 151 15,iM 152 11,iB 153 .add 151 152,iC 154 .add 153 1,iA 155 (.slice 1 (Tm 149) (some (Tm 150)) (some (Tm 154)) none),iM 156 10,iK2 157 139 155 156]
def rQ:Rg:=[iM 158 12,iM 159 15,iM 160 17,iA 161 (.conv .u32 (Tm 160)),iX 162 1 158 159,iS 1 162 161]
def RG:Rg:=[iM 86 15,iC 87 .sub 86 1,iM 15 87]
def yS:aB:=(.seq (sq RD (.cond (Tm 85) .skip (.exit 2))) (.seq (.block 3 (dq yU (dq yV (.seq (.block 4 (.loop rP)) (.seq (sq yZ (.cond (Tm 146) (sq zA (.region zB)) .skip)) (.region rQ)))))) (.region RG)))
def zC:Rg:=[iM 163 11,iA 164 (.buT 1 4 [(.int .u32 0)] (Tm 163) (Tm 163)),iM 19 164]
def zD:Rg:=[iM 165 19,iN 166 165,iI 167 0]
def RH:Rg:=[iB 168 .lss 167 166]
def RI:Rg:=[iM 169 167,iM 20 169]
def RJ:Rd:=[(iM 170 19,false),(iM 171 20,false),(iM 172 9,false),(iM 173 20,false),(iC 174 .add 173 1,false),(iX 175 1 172 174,false),(iL 176 175,false),(iA 177 (.conv .u64 (Tm 176)),false),(iA 178 (.bin .shl (Tm 177) (.const (.int .u64 32))),false),(iM 179 9,false),(iM 180 20,false),(iX 181 1 179 180,false),(iL 182 181,false),(iA 183 (.conv .u64 (Tm 182)),false),(iB 184 .or 178 183,false),(iM 185 8,false),(iB 186 .shr 184 185,false),(iA 187 (.conv .u32 (Tm 186)),false),(iX 188 1 170 171,false),(iS 1 188 187,true)]
def RK:Rg:=[iC 189 .add 167 1,iM 167 189]
def yT:aB:=(sq RH (.seq (.cond (Tm 168) .skip (.exit 6)) (.seq (.block 7 (sq RI (.draw RJ))) (.region RK))))
def RL:Rd:=[(iM 190 12,true),(iM 191 12,false),(iK 192 138 191,true),(iA 193 (.slice 1 (Tm 190) none (some (Tm 192)) none),true),(iM 194 19,true),(iM 195 19,true),(iK 196 138 195,true),(iA 197 (.slice 1 (Tm 194) none (some (Tm 196)) none),false),(iM 4 193,false),(iM 5 197,false)]
def vO:aB:=(sq aaU (.seq (sq aaV (.cond (Tm 24) (sq aaW .ret) .skip)) (.seq (sq aaX (.cond (Tm 29) (sq aaY (sq aaZ .ret)) .skip)) (sq abA (.seq (.block 0 (.loop aaT)) (dq QY (sq QZ (sq RA (dq RB (.seq (sq RC (.block 2 (.loop yS))) (sq zC (.seq (sq zD (.block 6 (.loop yT))) (dq RL .ret)))))))))))))
def aUY:List Nat:=[]
def BH:aW:=⟨2,198,vO,[.tmp 4,.tmp 5]⟩
def LH:Rg:=[iT 6 false]
def LJ:Rg:=[iA 7 (.mv (.const (.int .u64 0))),iA 8 (.mv (.const (.int .u64 0)))]
def LK:Rg:=[iM 13 1,iN 14 13,iI 15 0]
def LL:Rg:=[iB 16 .lss 15 14]
def LM:Rg:=[iM 17 15,iX 18 1 13 15,iL 19 18,iM 9 17,iM 10 19]
def LN:Rg:=[iM 20 7,iM 21 2,iM 22 10,iA 23 (.conv .u64 (Tm 22)),iB 24 .mul 21 23,iB 25 .add 20 24,iM 7 25]
def LO:Rg:=[iM 26 0,iM 27 9,iX 28 1 26 27,iL 29 28,iA 30 (.conv .u64 (Tm 29)),iM 31 7,iA 32 (.bin .and (Tm 31) (.const (.int .u64 4294967295))),iB 33 .sub 30 32,iM 34 8,iB 35 .sub 33 34,iM 11 35]
def LP:Rg:=[iM 36 0,iM 37 9,iM 38 11,iA 39 (.conv .u32 (Tm 38)),iX 40 1 36 37,iS 1 40 39]
def LQ:Rg:=[iM 41 11,iA 42 (.bin .shr (Tm 41) (.const (.int .u64 63))),iM 8 42]
def LS:Rg:=[iM 43 7,iA 44 (.bin .shr (Tm 43) (.const (.int .u64 32))),iM 7 44]
def IQ:Rg:=[iC 45 .add 15 1,iM 15 45]
def IP:aB:=(sq LL (.seq (.cond (Tm 16) .skip (.exit 0)) (.seq (.block 1 (sq LM (sq LN (sq LO (sq LP (sq LQ (.region LS))))))) (.region IQ))))
def IR:Rg:=[iM 46 0,iM 47 1,iN 48 47,iX 49 1 46 48,iL 50 49,iA 51 (.conv .u64 (Tm 50)),iM 52 7,iB 53 .sub 51 52,iM 54 8,iB 55 .sub 53 54,iM 12 55]
def IS:Rg:=[iM 56 0,iM 57 1,iN 58 57,iM 59 12,iA 60 (.conv .u32 (Tm 59)),iX 61 1 56 58,iS 1 61 60]
def IT:Rg:=[iM 62 12,iA 63 (.bin .shr (Tm 62) (.const (.int .u64 63))),iA 64 (.bin .eql (Tm 63) (.const (.int .u64 1))),iM 6 64]
def rB:aB:=(sq LH (sq LJ (.seq (sq LK (.block 0 (.loop IP))) (sq IR (sq IS (sq IT .ret))))))
def aAM:List Nat:=[]
def sK:aW:=⟨3,65,rB,[.tmp 6]⟩
def RN:Rg:=[iA 4 (.mv (.const (.int .u64 0)))]
def RP:Rg:=[iM 7 1,iN 8 7,iI 9 0]
def RQ:Rg:=[iB 10 .lss 9 8]
def RR:Rg:=[iM 11 9,iX 12 1 7 9,iL 13 12,iM 5 11,iM 6 13]
def RS:Rg:=[iM 14 4,iM 15 0,iM 16 5,iX 17 1 15 16,iL 18 17,iA 19 (.conv .u64 (Tm 18)),iM 20 6,iA 21 (.conv .u64 (Tm 20)),iB 22 .add 19 21,iB 23 .add 14 22,iM 4 23]
def RT:Rg:=[iM 24 0,iM 25 5,iM 26 4,iA 27 (.conv .u32 (Tm 26)),iX 28 1 24 25,iS 1 28 27]
def RU:Rg:=[iM 29 4,iA 30 (.bin .shr (Tm 29) (.const (.int .u64 32))),iM 4 30]
def RV:Rg:=[iC 31 .add 9 1,iM 9 31]
def RM:aB:=(sq RQ (.seq (.cond (Tm 10) .skip (.exit 0)) (.seq (.block 1 (sq RR (sq RS (sq RT (.region RU))))) (.region RV))))
def RW:Rg:=[iM 32 0,iM 33 1,iN 34 33,iX 35 1 32 34,iL 36 35,iM 37 4,iA 38 (.conv .u32 (Tm 37)),iB 39 .add 36 38,iX 40 1 32 34,iS 1 40 39]
def sZ:aB:=(sq RN (.seq (sq RP (.block 0 (.loop RM))) (.region RW)))
def aHW:List Nat:=[]
def vP:aW:=⟨2,41,sZ,[]⟩
section
variable {C:Ctx} {K:cI} {F:PF} {H:PH}
theorem PH.kO (o:Nat) (x:cM):H.eM .nil (PH.nil.set o x)=H.set o x:=PH.ext fun q=>by
 rw[lK]; simp only[bL,agY]; split<;>simp_all
theorem PH.kP (o:Nat) (x y:cM):H.eM (PH.nil.set o x) (PH.nil.set o y)=H.set o y:=PH.ext fun q=>by
 rw[lK]; simp only[bL,agY]; split<;>simp_all
theorem fA {name:Nat} {vs:List PV} {H0:PH} {R:PV→PH→Prop} {args:List aO} {d:Option Nat} {K:PF→PH→Prop} (h:aE C name vs H0 R) (ha:aO.evs F args=some vs) (hle:H0.le H)
  (hk:∀ r H',R r H'→kG H H0 H'→K (F.put d r) (H.eM H0 H')):fQ C name args [] d K F H :=
 .inl ⟨vs,H0,R,by rw[ha]; simp,hle,h,hk⟩
theorem aU {res:List dQ} {R:PV→PH→Prop} {vs:List PV} {e:lS} (he:e=.normal∨e=.ret) (H0:PH) (h:dQ.evs F H res=some vs) (hle:H0.le H) (hR:R (aT vs) H0):aS res R e F H:=by
 have key:∃ vs,dQ.evs F H res=some vs∧∃ F1 H1 H2,iD (PF.nil.set 0 (aT vs)) H F1 H1∧H2.le H1∧∃ u,F1 0=some u∧R u H2 :=
  ⟨vs,h,_,H,H0,.refl _ _,hle,aT vs,by rw[mN,if_pos rfl],hR⟩
 rcases he with rfl | rfl<;>exact key
theorem aCI {t o s k:Nat} {rs:List (List PV)} {R:PV→PH→Prop} {e:lS} (he:e=.normal∨e=.ret) (h:F t=some (.osl o s 0 k)) (ho:H o=some (.rows s rs)) (hk:k≤rs.length) (hR:R (.sl s (rs.take k)) .nil) :
  aS [.tmp t] R e F H:=by
 have key:∃ vs,dQ.evs F H [.tmp t]=some vs∧∃ F1 H1 H2,iD (PF.nil.set 0 (aT vs)) H F1 H1∧H2.le H1∧∃ u,F1 0=some u∧R u H2:=by
  refine⟨[.osl o s 0 k],by rw[kF,nG,h,pC],_,_,.nil,.step o ho (.refl _ _),PH.nil_le,.sl s (rs.take k),?_,hR⟩
  have:0+k≤rs.length:=by omega
  simp only[PF.frz,mN,if_true,aT,bxS,PV.frz,PV.qT,PV.dX,true_and,if_pos this,bxP]
 rcases he with rfl | rfl<;>exact key
def bV (v:PV) (r:PV) (H:PH):Prop:=Co r v∧H=PH.nil
theorem aE.bgQ {name:Nat} {args:List PV} {H:PH} {v:PV} (h:aE C name args H (bV v)):aE C name args H (aC v) :=
 h.post fun r H' ⟨h1,h2⟩=>⟨v,h1,rfl,h2⟩
theorem aC.bgQ {v r:PV} {H:PH} (h:aC v r H):bV v r H:=by
 obtain⟨rfl,rfl⟩:=h
 exact⟨.refl _,rfl⟩
theorem wK {s b:Nat} {y:PV} {src:List (List PV)} {K:PV→PH→Prop} (hy:eK H s y=some src) (hr:roomFor 0 src.length b) (h0:src=[]→K .buJ H)
  (h1:src≠[]→∀ o,H o=none→K (.osl o s 0 src.length) (H.set o (.rows s src))):mR H s b .buJ y K:=⟨src,hy,hr,h0,h1⟩
theorem OI {o s b len:Nat} {rs:List (List PV)} {y:PV} {src:List (List PV)} {K:PV→PH→Prop} (hy:eK H s y=some src) (hr:roomFor len src.length b) (ho:H o=some (.rows s rs)) (hl:len≤rs.length)
  (h0:K (.osl o s 0 (len+src.length)) (H.set o (.rows s (rs.take len++src))))
  (h1:∀ o',H o'=none→K (.osl o' s 0 (len+src.length)) (H.set o' (.rows s (rs.take len++src)))):mR H s b (.osl o s 0 len) y K :=
 ⟨src,hy,rfl,rfl,hr,rs,ho,hl,h0,h1⟩
end
def bR (H:PH) (s:Nat) (v:PV) (rows:List (List PV)):Prop :=
 (rows=[]∧v=.buJ)∨∃ q rs,v=.osl q s 0 rows.length∧H q=some (.rows s rs)∧rows.length≤rs.length∧rs.take rows.length=rows
def Seen (s:Nat) (v:PV) (rows:List (List PV)):Prop:=(rows=[]∧v=.buJ)∨v=.sl s rows
section
variable {C:Ctx} {K:cI} {F:PF} {H:PH} {s b:Nat} {v y:PV} {rows src:List (List PV)}
theorem bR.nil:bR H s .buJ []:=.inl ⟨rfl,rfl⟩
theorem bR.ext {H':PH} (h:bR H s v rows) (hk:∀ o x,H o=some x→H' o=some x):bR H' s v rows:=by
 rcases h with h | ⟨q,rs,h0,h1,h2,h3⟩
 ·exact .inl h
 ·exact .inr ⟨q,rs,h0,hk q _ h1,h2,h3⟩
theorem fN {K:PV→PH→Prop} (h:bR H s v rows) (hy:eK H s y=some src) (hr:roomFor rows.length src.length b)
  (hk:∀ v' H',bR H' s v' (rows++src)→(∀ o x,H o=some x→(∀ l,v≠.osl o s 0 l)→H' o=some x)→K v' H'):mR H s b v y K:=by
 rcases h with ⟨rfl,rfl⟩ | ⟨q,rs,rfl,h1,h2,h3⟩
 ·refine⟨src,hy,hr,fun e=>?_,fun e o ho=>?_⟩
  ·subst e
   exact hk _ _ (.inl ⟨rfl,rfl⟩) fun o x ho _=>ho
  ·refine hk _ _ (.inr ⟨o,src,rfl,by simp only[bL,if_true],bwR _,by simp⟩) fun o' x ho' _=>?_
   have:o'≠o:=by rintro rfl; rw[ho] at ho'; cases ho'
   simp only[bL,if_neg this,ho']
 ·have hlen:(rows++src).length=rows.length+src.length:=bwW
  refine⟨src,hy,rfl,rfl,hr,rs,h1,h2,?_,fun o ho=>?_⟩
  ·rw[h3]
   refine hk _ _ (.inr ⟨q,rows++src,by rw[hlen],by simp only[bL,if_true],bwR _,bxM⟩) fun o' x ho' hne=>?_
   have:o'≠q:=by rintro rfl; exact hne _ rfl
   simp only[bL,if_neg this,ho']
  ·rw[h3]
   refine hk _ _ (.inr ⟨o,rows++src,by rw[hlen],by simp only[bL,if_true],bwR _,bxM⟩) fun o' x ho' hne=>?_
   have h6:o'≠o:=by rintro rfl; rw[ho] at ho'; cases ho'
   simp only[bL,if_neg h6,ho']
def Pure (u:PV):Prop:=∀ q s rs,PV.frz q s rs u=u
theorem bR.frz (h:bR H s v rows):∃ v1,Seen s v1 rows∧∀ F:PF,∃ F1 H1,iD F H F1 H1∧(∀ t,F t=some v→F1 t=some v1)∧∀ i u,F i=some u→Pure u→F1 i=some u:=by
 rcases h with ⟨rfl,rfl⟩ | ⟨q,rs,rfl,h1,h2,h3⟩
 ·exact⟨.buJ,.inl ⟨rfl,rfl⟩,fun F=>⟨F,H,.refl _ _,fun t h=>h,fun i u h _=>h⟩⟩
 ·refine⟨.sl s rows,.inr rfl,fun F=>⟨_,_,.step q h1 (.refl _ _),fun t ht=>?_,fun i u hi hp=>?_⟩⟩
  ·have:0+rows.length≤rs.length:=by omega
   simp only[PF.frz,ht,bxS,PV.frz,PV.qT,PV.dX,if_true,true_and,if_pos this,bxP,h3]
  ·simp only[PF.frz,hi,bxS]
   rw[hp]
theorem aVT {t:Nat} {e:lS} (he:e=.normal∨e=.ret) (h:bR H s v rows) (ht:F t=some v):aS [.tmp t] (bV (.sl s rows)) e F H:=by
 rcases h with ⟨rfl,rfl⟩ | ⟨q,rs,rfl,h1,h2,h3⟩
 ·exact aU (vs:=[.buJ]) he .nil (by rw[kF,nG,ht,pC]) PH.nil_le ⟨.nil s,rfl⟩
 ·exact aCI he ht h1 h2 ⟨by rw[h3]; exact .refl _,rfl⟩
end
end Go.PM
namespace Go.PM
open Go
section
variable {C:Ctx} {F:PF} {H:PH}
@[go_sem] theorem sE (o s:Nat) (rs:List (List PV)) (i:Nat):(F.frz o s rs) i=(F i).map (PV.frz o s rs):=(rfl)
theorem nJ {name t o s k:Nat} {rs:List (List PV)} {v:PV} {d:Option Nat} {K:PF→PH→Prop} (h:aE C name [.sl s (rs.take k)] .nil (aC v)) (ht:F t=some (.osl o s 0 k)) (ho:H o=some (.rows s rs)) (hk:k≤rs.length)
  (hK:K ((F.frz o s rs).put d v) (H.frz o s rs)):fQ C name [.tmp t] [] d K F H:=by
 refine .inr ⟨_,_,.step o ho (.refl _ _),[.sl s (rs.take k)],.nil,aC v,?_,PH.nil_le,h,?_⟩
 ·have:0+k≤rs.length:=by omega
  simp only[vD,PD,YT,sE,ht,bxS,PV.frz,PV.qT,PV.dX,if_true,true_and,if_pos this,bxP,byU]
 ·rintro r H' ⟨rfl,rfl⟩ -
  rw[PH.kZ]
  exact hK
end
end Go.PM
namespace Go.Na
def val:List Nat→Nat
 | []=>0
 | x::xs=>x+4294967296*val xs
def Lim (xs:List Nat):Prop:=∀ x∈xs,x<4294967296
def aF (n:Nat):List Nat:=if h:n=0 then [] else (n%4294967296)::aF (n/4294967296)
termination_by n
decreasing_by exact Nat.div_lt_self (byN h) (by decide)
def nl (n:Nat):Nat:=(aF n).length
theorem eQ:aF 0=[]:=by rw[aF]; simp
theorem oX {n:Nat} (h:n≠0):aF n=(n%4294967296)::aF (n/4294967296):=by rw[aF]; simp[h]
theorem lI {n:Nat} (h:n≠0) (hb:n<4294967296):aF n=[n]:=by
 rw[oX h,bxR hb,bzS hb,eQ]
theorem aQ (n:Nat):val (aF n)=n:=by
 induction n using Nat.strongRecOn with
 | _ n ih =>
  by_cases h:n=0
  ·subst h; rw[eQ]; rfl
  ·rw[oX h,val,ih _ (Nat.div_lt_self (byN h) (by decide))]
   exact Nat.mod_add_div n 4294967296
theorem aR (n:Nat):Lim (aF n):=by
 induction n using Nat.strongRecOn with
 | _ n ih =>
  by_cases h:n=0
  ·subst h; rw[eQ]; intro x hx; cases hx
  ·rw[oX h]
   intro x hx
   rw[bxF] at hx
   rcases hx with rfl | hx
   ·exact bxX _ (by decide)
   ·exact ih _ (Nat.div_lt_self (byN h) (by decide)) x hx
theorem uP:nl 0=0:=by rw[nl,eQ]; rfl
theorem aZI {n:Nat} (h:n≠0):nl n=nl (n/4294967296)+1:=by rw[nl,oX h]; rfl
theorem fY (n k:Nat):nl n≤k↔n<4294967296 ^ k:=by
 induction k generalizing n with
 | zero =>
  by_cases h:n=0
  ·subst h; simp[uP]
  ·rw[aZI h]; simp; omega
 | succ k ih =>
  by_cases h:n=0
  ·subst h; simp[uP,byY]
  ·rw[aZI h,Nat.succ_le_succ_iff,ih,byE,bzF (by decide)]
theorem fT {n:Nat}:nl n=0↔n=0:=by
 have:=fY n 0
 simp at this
 exact this
theorem eZ (xs ys:List Nat):val (xs++ys)=val xs+4294967296 ^ xs.length*val ys:=by
 induction xs with
 | nil=>simp[val]
 | cons x xs ih =>
  simp only[bzP,val,byQ,ih,byE]
  rw[bwX,byS,← bxH,bxK 4294967296 (4294967296 ^ xs.length)]
theorem eE {xs:List Nat} (h:Lim xs):val xs<4294967296 ^ xs.length:=by
 induction xs with
 | nil=>simp[val]
 | cons x xs ih =>
  have h1:=h x (by simp)
  have h2:=ih fun y hy=>h y (by simp[hy])
  simp only[val,byQ,byE]
  have:4294967296*(val xs+1)≤4294967296*4294967296 ^ xs.length:=byM _ h2
  rw[bwX,Nat.mul_one] at this
  rw[bxK (4294967296 ^ xs.length)]
  omega
theorem Lim.app {xs ys:List Nat} (h:Lim xs) (k:Lim ys):Lim (xs++ys):=fun x hx=>by
 rw[byA] at hx
 exact hx.elim (h x) (k x)
theorem Lim.take {xs:List Nat} (h:Lim xs) (n:Nat):Lim (xs.take n):=fun x hx=>h x (List.mem_of_mem_take hx)
theorem Lim.drop {xs:List Nat} (h:Lim xs) (n:Nat):Lim (xs.drop n):=fun x hx=>h x (List.mem_of_mem_drop hx)
theorem Lim.set {xs:List Nat} (h:Lim xs) (i:Nat) {v:Nat} (hv:v<4294967296):Lim (xs.set i v):=fun x hx=>by
 rcases List.mem_or_eq_of_mem_set hx with h1 | h1
 ·exact h x h1
 ·subst h1; exact hv
theorem sI (n:Nat):Lim (bwP n 0):=fun x hx=>by
 rw[List.mem_replicate] at hx; rw[hx.2]; decide
theorem pK (n:Nat):val (bwP n 0)=0:=by
 induction n with
 | zero=>rfl
 | succ n ih=>simp[List.replicate_succ,val,ih]
theorem aZA {xs:List Nat} (h:Lim xs) (hl:∀ x,xs.getLast?=some x→x≠0):aF (val xs)=xs:=by
 induction xs with
 | nil=>simp[val,eQ]
 | cons x xs ih =>
  have hx:=h x (by simp)
  have hxs:Lim xs:=fun y hy=>h y (by simp[hy])
  cases xs with
  | nil =>
   have:=hl x (by simp)
   simp only[val,Nat.mul_zero,byB]
   exact lI this hx
  | cons y ys =>
   have ih':=ih hxs fun z hz=>hl z (by rw[List.getLast?_cons_cons]; exact hz)
   have h0:val (y::ys)≠0:=fun e=>by rw[e,eQ] at ih'; cases ih'
   have hne:x+4294967296*val (y::ys)≠0:=by
    have:0<4294967296*val (y::ys):=Nat.mul_pos (by decide) (byN h0)
    omega
   show aF (x+4294967296*val (y::ys))=_
   rw[oX hne]
   have e1:(x+4294967296*val (y::ys))%4294967296=x:=by rw[Nat.add_mul_mod_self_left,bxR hx]
   have e2:(x+4294967296*val (y::ys))/4294967296=val (y::ys):=by rw[Nat.add_mul_div_left _ _ (by decide),bzS hx,bxO]
   rw[e1,e2,ih']
theorem aFQ {xs:List Nat} {n:Nat} (h:∀ j x,n≤j→xs[j]?=some x→x=0):val (xs.take n)=val xs:=by
 have e:xs.drop n=bwP (xs.drop n).length 0:=by
  apply List.ext_getElem (by simp)
  intro i h1 h2
  rw[List.getElem_replicate,List.getElem_drop]
  exact h (n+i) _ Om (bxA _)
 conv=>rhs; rw[← byX n xs,eZ,e,pK]
 simp
theorem GL {xs:List Nat} (hx:Lim xs) {n:Nat} (hn:n≤xs.length) (h:∀ j x,n≤j→xs[j]?=some x→x=0) (h0:∀ x,0<n→xs[n-1]?=some x→x≠0):xs.take n=aF (val xs):=by
 rw[← aFQ h,aZA (hx.take n)]
 intro x hl
 rw[List.getLast?_eq_getElem?,bxE,byK hn] at hl
 rcases bzK n with e | e
 ·subst e; simp at hl
 ·rw[List.getElem?_take_of_lt Om] at hl
  exact h0 x e hl
theorem aPB {xs:List Nat} (hx:Lim xs) {n:Nat} (hn:n≤xs.length) (h:∀ j x,n≤j→xs[j]?=some x→x=0) (h0:∀ x,0<n→xs[n-1]?=some x→x≠0):nl (val xs)=n:=by
 rw[nl,← GL hx hn h h0,bxE]; omega
theorem eN {xs:List Nat} (h:Lim xs):nl (val xs)≤xs.length:=(fY _ _).2 (eE h)
theorem iV {xs : List Nat} (h : Lim xs) : xs.take (nl (val xs)) = aF (val xs) := by
  have hl := eN h
  have e : val (xs.take (nl (val xs)) ++ xs.drop (nl (val xs))) = val xs := by rw [byX]
  rw [eZ, bxE, byK hl] at e
  have h1 := eE (h.take (nl (val xs)))
  rw [bxE, byK hl] at h1
  have h2 := (fY (val xs) (nl (val xs))).1 (bwR _)
  have hd : val (xs.drop (nl (val xs))) = 0 := by
    rcases bzK (val (xs.drop (nl (val xs)))) with h | h
    · exact h
    · have := byM (4294967296 ^ nl (val xs)) h
      omega
  have hz : ∀ j x, nl (val xs) ≤ j → xs[j]? = some x → x = 0 := by
    have zero : ∀ ys : List Nat, val ys = 0 → ∀ y ∈ ys, y = 0 := by
      intro ys
      induction ys with
      | nil => intro _ y hy; cases hy
      | cons z zs ih =>
        intro hv y hy
        simp only [val] at hv
        rw [bxF] at hy
        rcases hy with rfl | hy
        · omega
        · exact ih (by have : 4294967296 * val zs = 0 := by omega
                       rcases Nat.mul_eq_zero.1 this with h | h
                       · cases h
                       · exact h) y hy
    intro j x hj hx
    refine zero _ hd x ?_
    rw [List.mem_iff_getElem?]
    exact ⟨j - nl (val xs), by rw [bzV, Nat.add_sub_cancel' hj]; exact hx⟩
  refine GL h hl hz fun x hpos hx e => ?_
  subst e
  have hz2 : ∀ j x, nl (val xs) - 1 ≤ j → xs[j]? = some x → x = 0 := fun j y hj hy => by
    rcases bxG j (nl (val xs)) with h3 | h3
    · have : j = nl (val xs) - 1 := by omega
      subst this; rw [hx] at hy; cases hy; rfl
    · exact hz j y h3 hy
  have h3 := aFQ hz2
  have h4 := eE (h.take (nl (val xs) - 1))
  rw [h3, bxE, byK Om] at h4
  have := (fY (val xs) (nl (val xs) - 1)).2 h4
  omega
theorem aDV {xs:List Nat} (h:Lim xs) {n:Nat} (hn:nl (val xs)=n+1):∃ x,xs[n]?=some x∧x≠0:=by
 have hl:=eN h
 refine⟨xs[n]'Om,bxA _,fun e=>?_⟩
 have e1:=iV h
 have hv:=aQ (val xs)
 rw[← e1,hn,byH Om,e,eZ] at hv
 simp only[val,Nat.mul_zero,byB] at hv
 have h4:=eE (h.take n)
 rw[hv,bxE,byK Om] at h4
 have:=(fY (val xs) n).2 h4
 omega
theorem pE (xs:List Nat) {k:Nat} (h:k<xs.length):val xs=val (xs.take k)+4294967296 ^ k*(xs[k]+4294967296*val (xs.drop (k+1))):=by
 conv=>lhs; rw[← byX k xs,eZ,bxE,byK Om,byG h]
 rfl
theorem XE {xs ys:List Nat} (hx:Lim xs) {k:Nat} (h1:k<xs.length) (h2:k<ys.length) (hd:xs.drop (k+1)=ys.drop (k+1)) (h:xs[k]<ys[k]):val xs<val ys:=by
 rw[pE xs h1,pE ys h2,hd]
 have h3:=eE (hx.take k)
 rw[bxE,byK Om] at h3
 have h4:4294967296 ^ k*(xs[k]+4294967296*val (ys.drop (k+1))+1)≤4294967296 ^ k*(ys[k]+4294967296*val (ys.drop (k+1))):=byM _ Om
 rw[bwX _ _ 1,Nat.mul_one] at h4
 omega
def cW (a b:Nat):Int:=if a<b then -1 else if b<a then 1 else 0
theorem akA {xs ys:List Nat} {k:Nat} (h1:k<xs.length) (h2:k<ys.length) (hd:xs.drop (k+1)=ys.drop (k+1)) (h:xs[k]=ys[k]):xs.drop k=ys.drop k:=by
 rw[byG h1,byG h2,hd,h]
theorem eU {a b:Nat} (h:a≤b):nl a≤nl b:=(fY a _).2 (Nat.lt_of_le_of_lt h ((fY b _).1 (bwR _)))
theorem arU {xs:List Nat} (h:Lim xs) {j:Nat} (hj:j<nl (val xs)):∃ (h1:j<xs.length) (h2:j<(aF (val xs)).length),xs[j]=(aF (val xs))[j]:=by
 have hl:=eN h
 refine⟨by omega,hj,?_⟩
 have e:=iV h
 have:(xs.take (nl (val xs)))[j]?=(aF (val xs))[j]?:=by rw[e]
 rw[List.getElem?_take_of_lt hj,bxA Om,bxA hj] at this
 exact byZ.inj this
def bZ (n:Nat):Nat:=if h:n=0 then 0 else bZ (n/2)+1
termination_by n
decreasing_by exact Nat.div_lt_self (byN h) (by decide)
theorem gU:bZ 0=0:=by rw[bZ]; simp
theorem mI {n:Nat} (h:n≠0):bZ n=bZ (n/2)+1:=by rw[bZ]; simp[h]
theorem jS (n k:Nat):bZ n≤k↔n<2 ^ k:=by
 induction k generalizing n with
 | zero =>
  by_cases h:n=0
  ·subst h; simp[gU]
  ·rw[mI h]; simp; omega
 | succ k ih =>
  by_cases h:n=0
  ·subst h; simp[gU,byY]
  ·rw[mI h,Nat.succ_le_succ_iff,ih,byE,bzF (by decide)]
theorem iH {n:Nat}:bZ n=0↔n=0:=by
 have:=jS n 0
 simp at this
 exact this
theorem asG {hi lo k:Nat} (hl:lo<2 ^ k) (hh:hi≠0):bZ (lo+2 ^ k*hi)=k+bZ hi:=by
 apply Nat.le_antisymm
 ·rw[jS,Nat.pow_add]
  have h1:=(jS hi _).1 (bwR _)
  have:2 ^ k*(hi+1)≤2 ^ k*2 ^ bZ hi:=byM _ h1
  rw[bwX,Nat.mul_one] at this
  omega
 ·obtain⟨b,hb⟩:∃ b,bZ hi=b+1:=⟨bZ hi-1,by have:=mt iH.1 hh; omega⟩
  rw[hb]
  rcases bxG (bZ (lo+2 ^ k*hi)) (k+(b+1)) with h | h
  ·have h1:=(jS (lo+2 ^ k*hi) (k+b)).1 Om
   rw[Nat.pow_add] at h1
   have h2:¬ hi<2 ^ b:=fun h=>by have:=(jS hi b).2 h; omega
   have:2 ^ k*2 ^ b≤2 ^ k*hi:=byM _ Om
   omega
  ·exact h
theorem jT (n k:Nat):bZ n≤32*k↔nl n≤k:=by
 rw[jS,fY,Nat.pow_mul]
end Go.Na
namespace Go.PM
theorem Lq {F F':PF} (h:F.le F':=by (repeat' (first|exact PF.nil_le|refine PF.aH ?_ ?_))<;>first|(simp only[go_sem,γ,δ,ε,ζ,η,θ,ι,κ,μ,ν,ξ,ο,ρ,σ,τ,υ,reduceIte,reduceCtorEq]<;>rfl)|rfl|assumption):F.le F':=h
end Go.PM
namespace Go.PM
open Go Go.Na
abbrev aG (xs:List Nat):List (List PV):=xs.map fun (n:Nat)=>[PV.int .u32 (n:Int)]
abbrev aD (xs:List Nat):PV:=.sl 1 (xs.map fun (n:Nat)=>[PV.int .u32 (n:Int)])
theorem bO (xs:List Nat):(aG xs).length=xs.length:=by simp
theorem bG (xs:List Nat) {i:Nat} (h:i<xs.length):(aG xs)[i]?=some [.int .u32 (xs[i]:Nat)]:=by simp[h]
theorem alM (xs:List Nat) (k:Nat):aD (xs.take k)=.sl 1 ((xs.map fun (n:Nat)=>[PV.int .u32 (n:Int)]).take k):=by rw[aD,List.map_take]
theorem bY (n:Nat):IntKind.u32.wrap (n:Int)=((n%4294967296:Nat):Int):=by
 have e:IntKind.u32.wrap (n:Int)=(n:Int)%4294967296:=by simp[IntKind.wrap,IntKind.bits,IntKind.signed]
 rw[e]; rfl
theorem sR {k:Nat} (h:k≤9223372036854775807) (h0:0<k):IntKind.i64.wrap ((k:Int)-1)=((k-1:Nat):Int):=by
 rw[wrap_i64 Om Om]; omega
def aVA (xs:List Nat) (n:Nat):PF:=((PF.nil.set 0 (aD xs)).set 3 (.int .i64 n))
theorem aVC {C:Ctx} (xs:List Nat) (hx:Lim xs) (hl:xs.length≤35184372087808):mL.wp C (aS rA.res (aC (.int .i64 (nl (val xs):Nat)))) (PF.args [aD xs]) .nil:=by
 simp only[go_sem,γ,reduceCtorEq,mL,FB,FC,rA]
 refine wp_loop (α:=Nat) (aVA xs) (fun _=>.nil) (fun n=>n≤xs.length∧∀ j x,n≤j→xs[j]?=some x→x=0) (fun n=>n) xs.length ⟨bwR _,fun j x h e=>by rw[bxY h] at e; cases e⟩ ?_ PH.nil_le ?_
 ·unfold aVA
  exact Lq
 rintro n ⟨hn,hz⟩
 have out:(∀ x,0<n→xs[n-1]?=some x→x≠0)→nl (val xs)=n:=fun h=>aPB hx hn hz h
 simp only[go_sem,γ,reduceCtorEq,FA,FD,aVA]
 by_cases h0:(n:Int)>0
 ·have hp:0<n:=by omega
  have hi:=bG xs (Om:n-1<xs.length)
  simp only[go_sem,γ,reduceCtorEq,h0,sR (Om:n≤9223372036854775807) hp,hi]
  by_cases hz0:xs[n-1]=0
  ·simp only[go_sem,γ,reduceCtorEq,bX (Om:((xs[n-1]:Nat):Int)=0),FF,sR (Om:n≤9223372036854775807) hp]
   refine aJ (n-1) ⟨by omega,fun j x hj he=>?_⟩ Om ?_ PH.nil_le
   ·rcases bxG j n with h | h
    ·have:j=n-1:=by omega
     subst this
     rw[bxA Om] at he
     cases he; exact hz0
    ·exact hz j x h he
   ·exact Lq
  ·simp only[go_sem,γ,reduceCtorEq,bD (Om:((xs[n-1]:Nat):Int)≠0),qD]
   refine aI (.inr rfl) rfl ?_
   rw[out fun x _ he=>by rw[bxA Om] at he; cases he; exact hz0]
   rfl
 ·simp only[go_sem,γ,reduceCtorEq,h0,qD]
  refine aI (.inr rfl) rfl ?_
  rw[out fun x h=>by omega]
  rfl
theorem aZJ {C:Ctx} (xs:List Nat) (hlen:aE C 138 [aD xs] .nil (aC (.int .i64 (nl (val xs):Nat)))):zE.wp C (aS KY.res (aC (.bool (decide (nl (val xs)>512))))) (PF.args [aD xs]) .nil:=by
 simp only[go_sem,reduceCtorEq,zE,alO,alP,KY]
 refine aA hlen rfl ?_
 simp only[go_sem,γ]
 refine aI (.inr rfl) rfl ?_
 simp only[aT,PV.bool.injEq,decide_eq_decide]
 omega
def szL (n:Nat):List Nat:=if nl n>512 then [] else aF n
def szE (n:Nat):Int:=if nl n>512 then 2 else 0
def szV (n:Nat):PV:=.tup [aD (szL n),.int .i64 (szE n)]
theorem aZO {C:Ctx} (xs:List Nat) (hx:Lim xs) (hlen:aE C 138 [aD xs] .nil (aC (.int .i64 (nl (val xs):Nat)))):zG.wp C (aS LF.res (bV (szV (val xs)))) (PF.args [aD xs]) .nil:=by
 simp only[go_sem,reduceCtorEq,zG,amB,amC,LF]
 refine aA hlen rfl ?_
 simp only[go_sem,γ,amD]
 by_cases h:nl (val xs)>512
 ·have h':((nl (val xs):Nat):Int)>512:=by omega
  simp only[go_sem,h',amE]
  refine aU (vs:=[.buJ,.int .i64 2]) (.inr rfl) .nil rfl PH.nil_le ⟨?_,rfl⟩
  rw[szV,szL,szE,if_pos h,if_pos h]
  refine .tup rfl fun j p q hp hq=>?_
  match j with
  | 0=>simp at hp hq; subst hp; subst hq; exact .nil 1
  | 1=>simp at hp hq; subst hp; subst hq; exact .refl _
  | j+2=>simp at hp
 ·have h':¬ ((nl (val xs):Nat):Int)>512:=by omega
  have hl:=eN hx
  have hc:((nl (val xs):Nat):Int)≤(xs.length:Nat):=by omega
  simp only[go_sem,ν,γ,reduceCtorEq,h',amF,hc,or_true,bxP]
  refine aU (.inr rfl) .nil rfl PH.nil_le ⟨?_,rfl⟩
  rw[szV,szL,szE,if_neg h,if_neg h,← iV hx,alM]
  exact .refl _
theorem a5P {C:Ctx} (v:Nat) (hv:v<18446744073709551616) (hlen:∀ xs,Lim xs→xs.length≤35184372087808→aE C 138 [aD xs] .nil (aC (.int .i64 (nl (val xs):Nat)))) :
  FG.wp C (aS abE.res (aC (aD (aF v)))) (PF.args [.int .u64 v]) .nil:=by
 have e1:IntKind.u32.wrap ((v:Nat):Int)=((v%4294967296:Nat):Int):=bY v
 have e2:Int.fdiv ((v:Nat):Int) 4294967296=((v/4294967296:Nat):Int):=by
  rw[Int.fdiv_eq_ediv_of_nonneg _ (by decide)]; rfl
 have hd:v/4294967296<4294967296:=by omega
 have e3:IntKind.u32.wrap ((v/4294967296:Nat):Int)=((v/4294967296:Nat):Int):=by rw[bY,bxR hd]
 have hL:Lim [v%4294967296,v/4294967296]:=by
  intro x hx
  simp only[bxF,List.mem_nil_iff,or_false] at hx
  rcases hx with rfl | rfl
  ·exact bxX _ (by decide)
  ·exact hd
 have bvC:val [v%4294967296,v/4294967296]=v:=by simp only[val,Nat.mul_zero,byB]; exact Nat.mod_add_div v 4294967296
 have hs:∀ a b:Int,PV.bin .shr (.int .u64 a) (.int .u64 b)=shift .shr .u64 a b:=fun _ _=>rfl
 have hsh:shift .shr .u64 (v:Int) 32=some (.int .u64 ((v/4294967296:Nat):Int)):=by
  unfold shift
  rw[if_neg (by decide)]
  simp only
  have:min (Int.toNat 32) IntKind.u64.bits=32:=by decide
  rw[this]
  rw[show (2:Int) ^ 32=4294967296 by decide,e2]
 simp only[go_sem,υ,δ,γ,η,θ,ζ,reduceCtorEq,FG,azS,azT,abE,e1,hsh,e3]
 have hb:(2:Nat)*1≤16777216:=by decide
 simp only[go_sem,γ,azU]
 refine aA (hlen [v%4294967296,v/4294967296] hL (by simp)) rfl ?_
 have hl:=eN hL
 rw[bvC] at hl ⊢
 have hc:((nl v:Nat):Int)≤((2:Nat):Int):=by simp at hl; omega
 simp only[go_sem,ν,δ,γ,reduceCtorEq,hc,or_true,bxP]
 refine aI (.inr rfl) rfl ?_
 have:=iV hL
 rw[bvC] at this
 rw[← this,alM]
 rfl
theorem a5S {C:Ctx} (xs:List Nat) (hx:Lim xs) (hl:xs.length≤35184372087808) (hlen:aE C 138 [aD xs] .nil (aC (.int .i64 (nl (val xs):Nat)))) :
  FH.wp C (aS abH.res (bV (aD (aF (val xs))))) (PF.args [aD xs]) .nil:=by
 simp only[go_sem,reduceCtorEq,FH,aAN,aAO,abH]
 refine aA hlen rfl ?_
 have hn:=eN hx
 have hc:((nl (val xs):Nat):Int)≤(xs.length:Nat):=by omega
 simp only[go_sem,ν,γ,reduceCtorEq,hc,or_true,bxP]
 refine fN (rows:=[]) (src:=aG (aF (val xs))) .nil ?_ ?_ fun v H' ho _=>?_
 ·simp only[go_sem]
  rw[← iV hx,← List.map_take]
 ·unfold roomFor
  rw[bO]
  have:(aF (val xs)).length=nl (val xs):=rfl
  simp only[byV,maxLen]
  omega
 ·exact aVT (.inr rfl) (by simpa using ho) rfl
end Go.PM
theorem Sq {p:Prop} (h:p:=by simp only[go_sem,γ,δ,ε,ζ,η,θ,ι,κ,μ,ν,ξ,ο,ρ,σ,τ,υ,reduceIte,reduceCtorEq]):p:=h
theorem Ev {p:Prop} (h:p:=by simp only[go_sem,γ,δ,ε,ζ,η,θ,ι,κ,μ,ν,ξ,ο,ρ,σ,τ,υ,reduceIte,reduceCtorEq]<;>rfl):p:=h
namespace Go.PM
open Go Go.Na
def aUU (xs ys:List Nat) (i:Int):PF:=(((PF.nil.set 0 (aD xs)).set 1 (aD ys)).set 7 (.int .i64 i))
theorem bbU {C:Ctx} (xs ys:List Nat) (hx:Lim xs) (hy:Lim ys) (lx:xs.length≤35184372087808) (ly:ys.length≤35184372087808) (hlx:aE C 138 [aD xs] .nil (aC (.int .i64 (nl (val xs):Nat)))) (hly:aE C 138 [aD ys] .nil (aC (.int .i64 (nl (val ys):Nat)))) :
  KT.wp C (aS azF.res (aC (.int .i64 (cW (val xs) (val ys))))) (PF.args [aD xs,aD ys]) .nil:=by
 simp only[go_sem,reduceCtorEq,KT,aMC,aMD,azF]
 refine aA hlx Ev ?_
 simp only[go_sem,γ]
 refine aA hly Ev ?_
 simp only[go_sem,γ,aME]
 have bx:=eN hx
 have by':=eN hy
 by_cases c1:nl (val xs)<nl (val ys)
 ·have c1':((nl (val xs):Nat):Int)<(nl (val ys):Nat):=by omega
  simp only[go_sem,ο,c1',aMF]
  refine aI (.inr rfl) Ev ?_
  have:val xs<val ys:=by
   rcases bxG (val xs) (val ys) with h | h
   ·exact h
   ·have:=eU h; omega
  simp[aT,cW,this]
 have c1':¬ ((nl (val xs):Nat):Int)<(nl (val ys):Nat):=by omega
 simp only[go_sem,γ,c1',aMG]
 by_cases c2:nl (val xs)>nl (val ys)
 ·have c2':((nl (val xs):Nat):Int)>(nl (val ys):Nat):=by omega
  simp only[go_sem,c2',aMH]
  refine aI (.inr rfl) Ev ?_
  have:val ys<val xs:=by
   rcases bxG (val ys) (val xs) with h | h
   ·exact h
   ·have:=eU h; omega
  have h2:¬ val xs<val ys:=by omega
  simp[aT,cW,this,h2]
 have c2':¬ ((nl (val xs):Nat):Int)>(nl (val ys):Nat):=by omega
 have hn:nl (val xs)=nl (val ys):=by omega
 simp only[go_sem,γ,c2',aMI]
 have ex:=aQ (val xs)
 have ey:=aQ (val ys)
 have LX:=aR (val xs)
 have LY:=aR (val ys)
 refine wp_loop (α:=Nat) (fun k=>aUU xs ys ((k:Int)-1)) (fun _=>.nil) (fun k=>k≤nl (val xs)∧(aF (val xs)).drop k=(aF (val ys)).drop k) (fun k=>k) (nl (val xs)) ⟨bwR _,?_⟩ ?_ PH.nil_le ?_
 ·rw[bzU (by rw[nl]; exact bwR _),bzU (by rw[hn,nl]; exact bwR _)]
 ·unfold aUU
  (repeat' (first|exact PF.nil_le|refine PF.aH ?_ ?_))<;>first|(simp only[go_sem,γ,reduceCtorEq,wrap_i64 (show -9223372036854775808≤((nl (val xs):Nat):Int)-1 by omega) (show ((nl (val xs):Nat):Int)-1≤9223372036854775807 by omega)]<;>rfl)|rfl
 rintro k ⟨hk,hd⟩
 simp only[go_sem,γ,reduceCtorEq,azG,aMJ,aUU]
 by_cases h0:0<k
 ·obtain⟨m,rfl⟩:∃ m,k=m+1:=⟨k-1,by omega⟩
  have hz:((m+1:Nat):Int)-1=(m:Int):=by omega
  have hge:(m:Int)≥0:=by omega
  obtain⟨x1,x2,x3⟩:=arU hx (Om:m<nl (val xs))
  obtain⟨y1,y2,y3⟩:=arU hy (Om:m<nl (val ys))
  simp only[go_sem,hz,hge]
  refine bM .nil dV PH.nil_le ?_
  simp only[go_sem,γ,reduceCtorEq,aMK,bG xs x1,bG ys y1]
  by_cases c3:xs[m]<ys[m]
  ·simp only[go_sem,ο,show ((xs[m]:Nat):Int)<(ys[m]:Nat) by omega,aML]
   refine aI (.inr rfl) Ev ?_
   have:=XE LX x2 y2 hd (by rw[← x3,← y3]; exact c3)
   rw[ex,ey] at this
   simp[aT,cW,this]
  ·simp only[go_sem,show ¬ ((xs[m]:Nat):Int)<(ys[m]:Nat) by omega]
   refine bM .nil dV PH.nil_le ?_
   simp only[go_sem,γ,reduceCtorEq,azH,bG xs x1,bG ys y1]
   by_cases c4:xs[m]>ys[m]
   ·simp only[go_sem,show ((xs[m]:Nat):Int)>(ys[m]:Nat) by omega,azI]
    refine aI (.inr rfl) Ev ?_
    have:=XE LY y2 x2 hd.symm (by rw[← x3,← y3]; exact c4)
    rw[ex,ey] at this
    have h2:¬ val xs<val ys:=by omega
    simp[aT,cW,this,h2]
   ·simp only[go_sem,γ,reduceCtorEq,show ¬ ((xs[m]:Nat):Int)>(ys[m]:Nat) by omega,azJ]
    refine aJ m ⟨by omega,akA x2 y2 hd (by rw[← x3,← y3]; omega)⟩ Om ?_ PH.nil_le
    (repeat' (first|exact PF.nil_le|refine PF.aH ?_ ?_))<;>first|(simp only[go_sem,γ,reduceCtorEq,wrap_i64 (Om:-9223372036854775808≤(m:Int)-1) (Om:(m:Int)-1≤9223372036854775807)]<;>rfl)|rfl
 ·have:k=0:=by omega
  subst this
  have hz:¬ ((0:Nat):Int)-1≥0:=by decide
  simp only[go_sem,hz,azK]
  refine aI (.inr rfl) Ev ?_
  rw[bxP,bxP] at hd
  have:val xs=val ys:=by rw[← ex,← ey,hd]
  simp[aT,cW,this]
def ayU (k:Nat) (v:Nat):PF:=((PF.nil.set 4 (.int .i64 k)).set 5 (.int .u32 v))
theorem a5N {C:Ctx} (xs:List Nat) (hx:Lim xs) (lx:xs.length≤35184372087808) (hlx:aE C 138 [aD xs] .nil (aC (.int .i64 (nl (val xs):Nat)))) :
  EZ.wp C (aS aaS.res (aC (.int .i64 (bZ (val xs):Nat)))) (PF.args [aD xs]) .nil:=by
 simp only[go_sem,reduceCtorEq,EZ,ayW,ayX,aaS]
 refine aA hlx Ev ?_
 simp only[go_sem,γ,ayY]
 have bx:=eN hx
 by_cases c1:nl (val xs)=0
 ·simp only[go_sem,bX (show ((nl (val xs):Nat):Int)=0 by omega),ayZ]
  refine aI (.inr rfl) Ev ?_
  have:val xs=0:=fT.1 c1
  simp[aT,this,gU]
 obtain⟨n,hn⟩:∃ n,nl (val xs)=n+1:=⟨nl (val xs)-1,by omega⟩
 obtain⟨t,ht,ht0⟩:=aDV hx hn
 have htl:t<4294967296:=hx t (bzC ht)
 have hnl:n<xs.length:=by omega
 have hv:val xs=val (xs.take n)+4294967296 ^ n*t:=by
  have e:=iV hx
  have:=aQ (val xs)
  have hg:xs[n]=t:=by rw[bxA hnl] at ht; exact byZ.inj ht
  rw[← e,hn,byH hnl,hg,eZ,bxE,byK Om] at this
  simp only[val,Nat.mul_zero,byB] at this
  exact this.symm
 have hb:bZ (val xs)=32*n+bZ t:=by
  have h3:=eE (hx.take n)
  rw[bxE,byK Om] at h3
  rw[hv,show (4294967296:Nat) ^ n=2 ^ (32*n) by rw[Nat.pow_mul]] at *
  exact asG h3 ht0
 have buW:(aG xs)[n]?=some [.int .u32 (t:Nat)]:=by
  rw[bG xs hnl]
  rw[bxA hnl] at ht
  rw[byZ.inj ht]
 have e1:IntKind.i64.wrap (((nl (val xs):Nat):Int)-1)=(n:Int):=by rw[wrap_i64 Om Om]; omega
 have e2:IntKind.i64.wrap ((n:Int)*32)=((32*n:Nat):Int):=by rw[wrap_i64 Om Om]; omega
 simp only[go_sem,γ,reduceCtorEq,bD (show ((nl (val xs):Nat):Int)≠0 by omega),azA,azB,e1,e2,buW]
 refine wp_loop (α:=Nat × Nat) (fun a=>ayU a.1 a.2) (fun _=>.nil) (fun a=>a.1+bZ a.2=32*n+bZ t∧a.2<4294967296) (fun a=>a.2) (32*n,t) ⟨rfl,htl⟩ ?_ PH.nil_le ?_
 ·unfold ayU
  exact Lq
 rintro⟨k,v⟩ ⟨hk,hlt⟩
 simp only at hk hlt
 have hk32:bZ t≤32:=(jS t 32).2 htl
 simp only[go_sem,γ,ayV,azC,ayU]
 by_cases c2:(v:Int)>0
 ·have hv0:v≠0:=by omega
  have hsh:PV.bin .shr (.int .u32 (v:Int)) (.int .u64 1)=some (.int .u32 ((v/2:Nat):Int)):=by
   show shift .shr .u32 (v:Int) 1=_
   unfold shift
   rw[if_neg (by decide)]
   simp only
   have:min (Int.toNat 1) IntKind.u32.bits=1:=by decide
   rw[this,show (2:Int) ^ 1=2 by decide,Int.fdiv_eq_ediv_of_nonneg _ (by decide)]
   rfl
  have hsh':shift .shr .u32 (v:Int) 1=some (.int .u32 ((v/2:Nat):Int)):=hsh
  simp only[go_sem,γ,c2,azD,azE,hsh,hsh',wZz k]
  refine aJ (k+1,v/2) ⟨?_,?_⟩ (Nat.div_lt_self Om (by decide)) ?_ PH.nil_le
  ·have:=mI hv0
   simp only; omega
  ·simp only; omega
  ·exact Lq
 ·have:v=0:=by omega
  subst this
  simp only[go_sem,γ,c2,alN]
  refine aI (.inr rfl) Ev ?_
  rw[gU] at hk
  simp only[aT,PV.int.injEq,true_and]
  omega
structure oC (C:Ctx):Prop where
 length:∀ xs,Lim xs→xs.length≤35184372087808→aE C 138 [aD xs] .nil (aC (.int .i64 (nl (val xs):Nat)))
 large:∀ xs,Lim xs→xs.length≤35184372087808→aE C 137 [aD xs] .nil (aC (.bool (decide (nl (val xs)>512))))
 sized:∀ xs,Lim xs→xs.length≤35184372087808→aE C 141 [aD xs] .nil (aC (szV (val xs)))
 trim:∀ xs,Lim xs→xs.length≤35184372087808→aE C 135 [aD xs] .nil (aC (aD (aF (val xs))))
 make:∀ v:Nat,v<18446744073709551616→aE C 132 [.int .u64 v] .nil (aC (aD (aF v)))
 cmp:∀ xs ys,Lim xs→Lim ys→xs.length≤35184372087808→ys.length≤35184372087808→aE C 129 [aD xs,aD ys] .nil (aC (.int .i64 (cW (val xs) (val ys))))
def gG:PV→List Nat
 | .sl _ rows=>rows.map fun r=>match r with | [.int _ n]=>n.toNat | _=>0
 | _=>[]
theorem dP (xs:List Nat):gG (aD xs)=xs:=by
 simp[gG,List.map_map,Function.comp_def]
def aUT:Spec:=fun name vs=>match name,vs with
 | 138,[x]=>some ([],fun _=>aC (.int .i64 (nl (val (gG x)):Nat)))
 | _,_=>none
theorem lJ (xs:List Nat):aUT 138 [aD xs]=some ([],fun _=>aC (.int .i64 (nl (val xs):Nat))):=by
 show some _=_; rw[dP]
theorem uR (P:List Nat) (k v:Nat):(P++bwP (k+1) 0).set P.length v=(P++[v])++bwP k 0:=by
 rw[bzZ _ _ (bwR _),Nat.sub_self,List.replicate_succ,List.set_cons_zero,bxU]
 rfl
theorem eO (L:List Nat) (i v:Nat):(aG L).set i [.int .u32 (v:Int)]=aG (L.set i v):=by
 unfold aG; rw[List.map_set]
theorem gR (P:List Nat) (v:Nat):val (P++[v])=val P+4294967296 ^ P.length*v:=by
 rw[eZ]; simp[val]
theorem bS (xs:List Nat) {i:Nat} (h:i<xs.length):val (xs.take (i+1))=val (xs.take i)+4294967296 ^ i*xs[i]:=by
 rw[byH h,gR,bxE,byK Om]
theorem tU {v:Nat}:shift .shr .u64 (v:Int) 32=some (.int .u64 ((v/4294967296:Nat):Int)):=by
 unfold shift
 rw[if_neg (by decide)]
 simp only
 have:min (Int.toNat 32) IntKind.u64.bits=32:=by decide
 rw[this,show (2:Int) ^ 32=4294967296 by decide,Int.fdiv_eq_ediv_of_nonneg _ (by decide)]
 rfl
theorem eG {a b:Nat} (h:a+b<18446744073709551616):IntKind.u64.wrap ((a:Int)+(b:Int))=((a+b:Nat):Int):=by
 rw[wrap_u64 Om Om]; omega
theorem bB {a:Nat} (h:a<18446744073709551616):IntKind.u64.wrap (a:Int)=(a:Int):=wrap_u64 Om Om
def aaR (a b:List Nat) (o i c:Nat):PF:=(((((((PF.nil.set 0 (aD a)).set 1 (aD b)).set 6 (.osl o 1 0 (a.length+1))).set 7 (.int .u64 c)).set 35 (.int .i64 (a.length:Nat))).set 34 (aD a)).set 36 (.int .i64 i))
theorem alL {C:Ctx} (L:oC C) (a b:List Nat) (ha:Lim a) (hb:Lim b) (hl:b.length≤a.length) (h1:a.length≤1000) (F:PF) (f0:F 0=some (aD a)) (f1:F 1=some (aD b)) :
  aB.wp C (.seq (.region ahG) (.seq (.region ahH) (.seq (.seq (.region ahI) (.block 0 (.loop UQ))) (.seq (.region UU) (.seq (.region UV) .ret))))) (aS [.tmp 4,.tmp 5] (bV (szV (val a+val b)))) F .nil:=by
 have hlen:IntKind.i64.wrap ((a.length:Int)+1)=((a.length+1:Nat):Int):=cY Om
 have hm1:((a.length+1:Nat):Int)*((4:Nat):Int)≤140737488355328:=by omega
 have hm2:((a.length+1:Nat):Int)≤9223372036854775807:=by omega
 have hz:bwP (a.length+1) [PV.int .u32 0]=aG ([]++bwP (a.length+1) 0):=by
  simp[aG]
 simp only[go_sem,γ,ahG,f0,hlen,hm1,hm2,hz]
 refine aP fun o ho=>?_
 simp only[go_sem,γ,reduceCtorEq,ahH,ahI,f0]
 refine wp_loop (α:=List Nat × Nat × Nat) (fun s=>aaR a b s.2.2 s.1.length s.2.1) (fun s=>PH.nil.set s.2.2 (.rows 1 (aG (s.1++bwP (a.length+1-s.1.length) 0))))
  (fun s=>s.1.length≤a.length∧Lim s.1∧s.2.1≤1∧val s.1+4294967296 ^ s.1.length*s.2.1=val (a.take s.1.length)+val (b.take s.1.length)) (fun s=>a.length-s.1.length) ([],0,o) ⟨by simp,by simp[Lim],by simp,by simp[val]⟩ ?_ ?_ ?_
 ·unfold aaR
  exact Lq
 ·exact PH.aH PH.nil_le (by simp only[go_sem,byV])
 rintro⟨P,c,q⟩ ⟨hP,bvG,hc,bvC⟩
 simp only at hP bvG hc bvC
 simp only[go_sem,γ,reduceCtorEq,UQ,aMB,aaR]
 by_cases c1:P.length<a.length
 ·have c1':(P.length:Int)<(a.length:Nat):=by omega
  have hai:=ha _ (bwS c1)
  obtain⟨k,hk⟩:∃ k,a.length+1-P.length=k+1:=⟨a.length-P.length,by omega⟩
  have hin:(aG (P++bwP (k+1) 0))[P.length]?=some [.int .u32 ((0:Nat):Int)]:=by
   rw[bG _ (by simp)]; simp
  have hlast:a.length+1-(P.length+1)=k:=by omega
  have c2':(P.length:Int)<((a.length+1:Nat):Int):=by omega
  have fin:∀ (t:Nat) (F':PF) (H':PH),t<2*4294967296→val P+4294967296 ^ P.length*t=val (a.take (P.length+1))+val (b.take (P.length+1)) →
    F' 0=some (aD a)→F' 1=some (aD b)→F' 6=some (.osl q 1 0 (a.length+1))→F' 7=some (.int .u64 (t:Nat))→F' 8=some (.int .i64 P.length)→F' 34=some (aD a)→F' 35=some (.int .i64 (a.length:Nat))→F' 36=some (.int .i64 P.length) →
    H' q=some (.rows 1 (aG (P++bwP (k+1) 0)))→∀ K:cI,(∀ P' c' F2 H2,P'.length=P.length+1→Lim P'→c'≤1→val P'+4294967296 ^ P'.length*c'=val (a.take (P.length+1))+val (b.take (P.length+1))→(aaR a b q P'.length c').le F2→H2 q=some (.rows 1 (aG (P'++bwP k 0)))→K .normal F2 H2) →
    aB.wp C (.seq (.region UR) (.region US)) (dR 1 (gW C (aB.wp C (.region UT)) K)) F' H':=by
   intro t F' H' ht hv g0 g1 g6 g7 g8 g34 g35 g36 gH K hK
   have buW:(aG (P++bwP (k+1) 0)).set P.length [.int .u32 ((t%4294967296:Nat):Int)]=aG ((P++[t%4294967296])++bwP k 0):=by
    rw[eO,uR]
   simp only[go_sem,γ,UR,g6,g8,g7,bY,c2',gH,hin,buW,US,tU,UT,g36,cY (Om:P.length<9223372036854775807)]
   refine hK (P++[t%4294967296]) (t/4294967296) _ _ (by simp) (bvG.app fun x hx=>by simp at hx; subst hx; exact bxX _ (by decide)) Om ?_ ?_ Sq
   ·rw[gR,bwW,bxD,byE,bxH,byS,← bwX,Nat.mod_add_div]
    exact hv
   ·unfold aaR
    rw[bwW,bxD]
    refine PF.aH (PF.aH (PF.aH (PF.aH (PF.aH (PF.aH (PF.aH PF.nil_le ?_) ?_) ?_) ?_) ?_) ?_) ?_<;>simp only[go_sem,γ,reduceCtorEq,g0,g1,g6,g34,g35]
  have hta:=bS a c1
  have ea:IntKind.u64.wrap ((a[P.length]:Nat):Int)=((a[P.length]:Nat):Int):=bB Om
  have es:IntKind.u64.wrap ((c:Nat)+((a[P.length]:Nat):Int))=((c+a[P.length]:Nat):Int):=eG Om
  simp only[go_sem,γ,reduceCtorEq,c1',ayQ,ayR,bG a c1,ea,es,ayS]
  by_cases c3:P.length<b.length
  ·have c3':(P.length:Int)<(b.length:Nat):=by omega
   have hbi:=hb _ (bwS c3)
   have htb:=bS b c3
   have eb:IntKind.u64.wrap ((b[P.length]:Nat):Int)=((b[P.length]:Nat):Int):=bB Om
   have es2:IntKind.u64.wrap (((c+a[P.length]:Nat):Int)+((b[P.length]:Nat):Int))=((c+a[P.length]+b[P.length]:Nat):Int):=eG Om
   simp only[go_sem,γ,reduceCtorEq,c3',ayT,bG b c3,eb,es2]
   refine fin (c+a[P.length]+b[P.length]) _ _ Om ?_ ?_ ?_ ?_ ?_ ?_ ?_ ?_ ?_ ?_ _ ?_
   ·rw[hta,htb,bwX,bwX]; omega
   any_goals simp only[go_sem,γ,reduceCtorEq,hk]
   intro P' c' F2 H2 e1 e2 e3 e4 e5 e6
   rw[← e1] at e4
   refine aJ (P',c',q) ⟨by simp only; omega,e2,e3,e4⟩ (by simp only; omega) e5 (PH.aH PH.nil_le ?_)
   simp only
   rw[e1,hlast]; exact e6
  ·have c3':¬ (P.length:Int)<(b.length:Nat):=by omega
   have htb:val (b.take (P.length+1))=val (b.take P.length):=by rw[bxC Om,bxC Om]
   simp only[go_sem,c3']
   refine fin (c+a[P.length]) _ _ Om ?_ ?_ ?_ ?_ ?_ ?_ ?_ ?_ ?_ ?_ _ ?_
   ·rw[hta,htb,bwX]; omega
   any_goals simp only[go_sem,γ,reduceCtorEq,hk]
   intro P' c' F2 H2 e1 e2 e3 e4 e5 e6
   rw[← e1] at e4
   refine aJ (P',c',q) ⟨by simp only; omega,e2,e3,e4⟩ (by simp only; omega) e5 (PH.aH PH.nil_le ?_)
   simp only
   rw[e1,hlast]; exact e6
 ·have e:P.length=a.length:=by omega
  have c1':¬ (P.length:Int)<(a.length:Nat):=by omega
  have hk:bwP (a.length+1-P.length) 0=[0]:=by rw[show a.length+1-P.length=1 by omega]; rfl
  have hin:(aG (P++[0]))[a.length]?=some [.int .u32 ((0:Nat):Int)]:=by
   rw[bG _ (by simp; omega)]
   simp[e]
  have buW:(aG (P++[0])).set a.length [.int .u32 ((c%4294967296:Nat):Int)]=aG (P++[c]):=by
   have:=uR P 0 (c%4294967296)
   simp only[List.replicate_zero,byU,bxO,List.replicate_one] at this
   rw[← e,eO,this,bxR Om]
  have c2':(a.length:Int)<((a.length+1:Nat):Int):=by omega
  have hV:val (P++[c])=val a+val b:=by
   rw[gR,bvC,e,bxM,bxC hl]
  have hLc:Lim (P++[c]):=bvG.app fun x hx=>by simp at hx; omega
  simp only[go_sem,γ,reduceCtorEq,c1',UU,bY,hk,hin,c2',buW,UV]
  have hs:=L.sized _ hLc (by simp; omega)
  rw[hV] at hs
  refine nJ (o:=q) (s:=1) (k:=a.length+1) (rs:=aG (P++[c])) (v:=szV (val a+val b)) ?_ rfl Sq (by rw[bO]; simp; omega) ?_
  ·rw[bxC (by rw[bO]; simp; omega)]; exact hs
  ·simp only[go_sem,γ,reduceCtorEq,szV]
   exact aU (.inr rfl) .nil rfl PH.nil_le ⟨.refl _,rfl⟩
def opV (big:Bool) (n:Nat):PV:=if big then .tup [aD [],.int .i64 2] else szV n
def dK (a b:Nat):Bool:=decide (nl a>512)||decide (nl b>512)
theorem dU {res:List dQ} {F:PF} {H:PH} {e:Int} (h:dQ.evs F H res=some [.buJ,.int .i64 e]):aS res (bV (.tup [aD [],.int .i64 e])) .ret F H:=by
 refine aU (.inr rfl) .nil h PH.nil_le ⟨?_,rfl⟩
 refine .tup rfl fun j p q hp hq=>?_
 match j with
 | 0=>simp at hp hq; subst hp; subst hq; exact .nil 1
 | 1=>simp at hp hq; subst hp; subst hq; exact .refl _
 | j+2=>simp at hp
theorem aV (n:Nat):(aF n).length=nl n:=rfl
theorem gJ {xs:List Nat} (h:Lim xs):(xs.map fun (n:Nat)=>[PV.int .u32 (n:Int)]).take (nl (val xs))=(aF (val xs)).map fun (n:Nat)=>[PV.int .u32 (n:Int)]:=by
 rw[← List.map_take,iV h]
theorem bbR {C:Ctx} (L:oC C) (a b:List Nat) (ha:Lim a) (hb:Lim b) (la:a.length≤35184372087808) (lb:b.length≤35184372087808) :
  KR.wp C (aS ayP.res (bV (opV (dK (val a) (val b)) (val a+val b)))) (PF.args [aD a,aD b]) .nil:=by
 simp only[go_sem,reduceCtorEq,KR,aLW,aLX,ayP]
 refine aA (L.large a ha la) rfl ?_
 by_cases c1:nl (val a)>512
 ·simp only[go_sem,γ,c1,ahF]
  rw[show opV (dK (val a) (val b)) (val a+val b)=.tup [aD [],.int .i64 2] by simp[opV,dK,c1]]
  exact dU rfl
 simp only[go_sem,γ,c1]
 refine aA (L.large b hb lb) rfl ?_
 by_cases c2:nl (val b)>512
 ·simp only[go_sem,γ,reduceCtorEq,c2,ahF]
  rw[show opV (dK (val a) (val b)) (val a+val b)=.tup [aD [],.int .i64 2] by simp[opV,dK,c2]]
  exact dU rfl
 have e:opV (dK (val a) (val b)) (val a+val b)=szV (val a+val b):=by simp[opV,dK,c1,c2]
 rw[e]
 simp only[go_sem,γ,reduceCtorEq,c2]
 refine bM .nil aUT PH.nil_le ?_
 simp only[go_sem,reduceCtorEq,aLY]
 have h1:=eN ha
 have h2:=eN hb
 have h1':((nl (val a):Nat):Int)≤(a.length:Nat):=by omega
 have h2':((nl (val b):Nat):Int)≤(b.length:Nat):=by omega
 refine bF (lJ a) (L.length a ha la) rfl PH.nil_le ?_
 simp only[go_sem,ν,γ,reduceCtorEq,h1',or_true,bxP,gJ ha]
 refine bF (lJ b) (L.length b hb lb) rfl PH.nil_le ?_
 simp only[go_sem,ν,γ,reduceCtorEq,h2',or_true,bxP,gJ hb,aLZ,aV]
 have va:=aQ (val a)
 have vb:=aQ (val b)
 by_cases c3:nl (val a)<nl (val b)
 ·have c3':((nl (val a):Nat):Int)<(nl (val b):Nat):=by omega
  simp only[go_sem,γ,reduceCtorEq,c3',aMA]
  have:=alL L (aF (val b)) (aF (val a)) (aR _) (aR _) (by rw[aV,aV]; omega) (by rw[aV]; omega)
  rw[va,vb,Nat.add_comm] at this
  exact this _ rfl rfl
 ·have c3':¬ ((nl (val a):Nat):Int)<(nl (val b):Nat):=by omega
  simp only[go_sem,c3']
  have:=alL L (aF (val a)) (aF (val b)) (aR _) (aR _) (by rw[aV,aV]; omega) (by rw[aV]; omega)
  rw[va,vb] at this
  exact this _ rfl rfl
theorem eV (n:Int):IntKind.u64.wrap n=n%18446744073709551616:=by simp[IntKind.wrap,IntKind.bits,IntKind.signed]
theorem SV (n:Int):IntKind.u32.wrap n=n%4294967296:=by simp[IntKind.wrap,IntKind.bits,IntKind.signed]
theorem aWC {v:Int}:shift .shr .u64 v 63=some (.int .u64 (v/9223372036854775808)):=by
 unfold shift
 rw[if_neg (by decide)]
 simp only
 have:min (Int.toNat 63) IntKind.u64.bits=63:=by decide
 rw[this,show (2:Int) ^ 63=9223372036854775808 by decide,Int.fdiv_eq_ediv_of_nonneg _ (by decide)]
def ND (a bor b:Nat):Nat:=(a+4294967296-bor-b)%4294967296
def VR (a bor b:Nat):Nat:=if a<bor+b then 1 else 0
theorem aDL {a bor b:Nat} (ha:a<4294967296) (hb:b<4294967296) (hc:bor≤1) (v:Int) (hv:v=((a:Int)-bor-b)%18446744073709551616) :
  IntKind.u32.wrap v=((ND a bor b:Nat):Int)∧v/9223372036854775808=((VR a bor b:Nat):Int)∧a+4294967296*VR a bor b=ND a bor b+b+bor∧ND a bor b<4294967296:=by
 rw[SV]
 unfold ND VR
 split<;>omega
def abG (a b:List Nat) (o i c:Nat):PF:=(((((((PF.nil.set 0 (aD a)).set 1 (aD b)).set 6 (.osl o 1 0 a.length)).set 7 (.int .u64 c)).set 33 (aD a)).set 34 (.int .i64 (a.length:Nat))).set 35 (.int .i64 i))
theorem aZQ {C:Ctx} (L:oC C) (a b:List Nat) (ha:Lim a) (hb:Lim b) (hle:val b≤val a) (hl:b.length≤a.length) (h1:a.length≤1000) (F:PF) (f0:F 0=some (aD a)) (f1:F 1=some (aD b)) :
  aB.wp C (.seq (.region ahU) (.seq (.region ahV) (.seq (.seq (.region ahW) (.block 1 (.loop VB))) (.seq (.region VG) .ret)))) (aS [.tmp 4,.tmp 5] (bV (szV (val a-val b)))) F .nil:=by
 have hm1:((a.length:Nat):Int)*((4:Nat):Int)≤140737488355328:=by omega
 have hm2:((a.length:Nat):Int)≤9223372036854775807:=by omega
 have hz:bwP a.length [PV.int .u32 0]=aG ([]++bwP a.length 0):=by
  simp[aG]
 simp only[go_sem,γ,ahU,f0,hm1,hm2,hz]
 refine aP fun o ho=>?_
 simp only[go_sem,γ,reduceCtorEq,ahV,ahW,f0]
 refine wp_loop (α:=List Nat × Nat × Nat) (fun s=>abG a b s.2.2 s.1.length s.2.1) (fun s=>PH.nil.set s.2.2 (.rows 1 (aG (s.1++bwP (a.length-s.1.length) 0))))
  (fun s=>s.1.length≤a.length∧Lim s.1∧s.2.1≤1∧val (a.take s.1.length)+4294967296 ^ s.1.length*s.2.1=val s.1+val (b.take s.1.length)) (fun s=>a.length-s.1.length) ([],0,o) ⟨by simp,by simp[Lim],by simp,by simp[val]⟩ ?_ ?_ ?_
 ·unfold abG
  exact Lq
 ·exact PH.aH PH.nil_le (by simp only[go_sem,byV])
 rintro⟨P,c,q⟩ ⟨hP,bvG,hc,bvC⟩
 simp only at hP bvG hc bvC
 simp only[go_sem,γ,reduceCtorEq,VB,aNJ,abG]
 by_cases c1:P.length<a.length
 ·have c1':(P.length:Int)<(a.length:Nat):=by omega
  have hai:=ha _ (bwS c1)
  obtain⟨k,hk⟩:∃ k,a.length-P.length=k+1:=⟨a.length-P.length-1,by omega⟩
  have hin:(aG (P++bwP (k+1) 0))[P.length]?=some [.int .u32 ((0:Nat):Int)]:=by
   rw[bG _ (by simp)]; simp
  have hlast:a.length-(P.length+1)=k:=by omega
  have hta:=bS a c1
  have fin:∀ (t:Nat) (v:Int) (F':PF) (H':PH),t<4294967296→v=((a[P.length]:Int)-c-t)%18446744073709551616→val (b.take (P.length+1))=val (b.take P.length)+4294967296 ^ P.length*t →
    F' 0=some (aD a)→F' 1=some (aD b)→F' 6=some (.osl q 1 0 a.length)→F' 9=some (.int .u64 v)→F' 8=some (.int .i64 P.length)→F' 33=some (aD a)→F' 34=some (.int .i64 (a.length:Nat))→F' 35=some (.int .i64 P.length) →
    H' q=some (.rows 1 (aG (P++bwP (k+1) 0)))→∀ K:cI,(∀ P' c' F2 H2,P'.length=P.length+1→Lim P'→c'≤1→val (a.take (P.length+1))+4294967296 ^ P'.length*c'=val P'+val (b.take (P.length+1))→(abG a b q P'.length c').le F2→H2 q=some (.rows 1 (aG (P'++bwP k 0)))→K .normal F2 H2) →
    aB.wp C (.seq (.region VC) (.region VD)) (dR 2 (gW C (aB.wp C (.region VE)) K)) F' H':=by
   intro t v F' H' ht hv htb g0 g1 g6 g9 g8 g33 g34 g35 gH K hK
   obtain⟨e1,e2,e3,e4⟩:=aDL hai ht hc v hv
   have buW:(aG (P++bwP (k+1) 0)).set P.length [.int .u32 ((ND a[P.length] c t:Nat):Int)]=aG ((P++[ND a[P.length] c t])++bwP k 0):=by
    rw[eO,uR]
   simp only[go_sem,γ,VC,g6,g8,g9,e1,c1',gH,hin,buW,VD,aWC,e2,VE,g35,cY (Om:P.length<9223372036854775807)]
   refine hK (P++[ND a[P.length] c t]) (VR a[P.length] c t) _ _ (by simp) (bvG.app fun x hx=>by simp at hx; subst hx; exact e4) (by unfold VR; split<;>omega) ?_ ?_ Sq
   ·rw[gR,bwW,bxD,byE,bxH,hta,htb,byS,← bwX,e3,bwX,bwX]
    omega
   ·unfold abG
    rw[bwW,bxD]
    refine PF.aH (PF.aH (PF.aH (PF.aH (PF.aH (PF.aH (PF.aH PF.nil_le ?_) ?_) ?_) ?_) ?_) ?_) ?_<;>simp only[go_sem,γ,reduceCtorEq,g0,g1,g6,g33,g34]
  have ea:IntKind.u64.wrap ((a[P.length]:Nat):Int)=((a[P.length]:Nat):Int):=bB Om
  simp only[go_sem,γ,reduceCtorEq,c1',aAG,aAH,bG a c1,ea,aAI]
  by_cases c3:P.length<b.length
  ·have c3':(P.length:Int)<(b.length:Nat):=by omega
   have hbi:=hb _ (bwS c3)
   have htb:=bS b c3
   have eb:IntKind.u64.wrap ((b[P.length]:Nat):Int)=((b[P.length]:Nat):Int):=bB Om
   simp only[go_sem,γ,reduceCtorEq,c3',aAJ,bG b c3,eb]
   refine fin b[P.length] (IntKind.u64.wrap (IntKind.u64.wrap ((a[P.length]:Int)-(c:Int))-(b[P.length]:Int))) _ _ hbi (by rw[eV,eV]; omega) htb ?_ ?_ ?_ ?_ ?_ ?_ ?_ ?_ ?_ _ ?_
   any_goals simp only[go_sem,γ,reduceCtorEq,hk]
   intro P' c' F2 H2 e1 e2 e3 e4 e5 e6
   rw[← e1] at e4
   refine aJ (P',c',q) ⟨by simp only; omega,e2,e3,e4⟩ (by simp only; omega) e5 (PH.aH PH.nil_le ?_)
   simp only
   rw[e1,hlast]; exact e6
  ·have c3':¬ (P.length:Int)<(b.length:Nat):=by omega
   have htb:val (b.take (P.length+1))=val (b.take P.length)+4294967296 ^ P.length*0:=by rw[bxC Om,bxC Om]; simp
   simp only[go_sem,c3']
   refine fin 0 (IntKind.u64.wrap ((a[P.length]:Int)-(c:Int))) _ _ (by decide) (by rw[eV]; omega) htb ?_ ?_ ?_ ?_ ?_ ?_ ?_ ?_ ?_ _ ?_
   any_goals simp only[go_sem,γ,reduceCtorEq,hk]
   intro P' c' F2 H2 e1 e2 e3 e4 e5 e6
   rw[← e1] at e4
   refine aJ (P',c',q) ⟨by simp only; omega,e2,e3,e4⟩ (by simp only; omega) e5 (PH.aH PH.nil_le ?_)
   simp only
   rw[e1,hlast]; exact e6
 ·have e:P.length=a.length:=by omega
  have c1':¬ (P.length:Int)<(a.length:Nat):=by omega
  have hk:bwP (a.length-P.length) 0=[]:=by rw[show a.length-P.length=0 by omega]; rfl
  have hV:val P=val a-val b:=by
   rw[e,bxM,bxC hl] at bvC
   have hlt:=eE bvG
   rw[e] at hlt
   rcases bzK c with h | h
   ·subst h; omega
   ·have:c=1:=by omega
    subst this; omega
  simp only[go_sem,γ,reduceCtorEq,c1',hk,byU,VG]
  have hs:=L.sized _ bvG Om
  rw[hV] at hs
  refine nJ (o:=q) (s:=1) (k:=a.length) (rs:=aG P) (v:=szV (val a-val b)) ?_ rfl Sq (by rw[bO]; omega) ?_
  ·rw[bxC (by rw[bO]; omega)]; exact hs
  ·simp only[go_sem,γ,reduceCtorEq,szV]
   exact aU (.inr rfl) .nil rfl PH.nil_le ⟨.refl _,rfl⟩
def oQ (a b:Nat):PV:=if dK a b then .tup [aD [],.int .i64 2] else if a<b then .tup [aD [],.int .i64 4] else szV (a-b)
theorem bcC {C:Ctx} (L:oC C) (a b:List Nat) (ha:Lim a) (hb:Lim b) (la:a.length≤35184372087808) (lb:b.length≤35184372087808) :
  LG.wp C (aS aAF.res (bV (oQ (val a) (val b)))) (PF.args [aD a,aD b]) .nil:=by
 simp only[go_sem,reduceCtorEq,LG,aNE,aNF,aAF]
 refine aA (L.large a ha la) rfl ?_
 by_cases c1:nl (val a)>512
 ·simp only[go_sem,γ,c1,ahT]
  rw[show oQ (val a) (val b)=.tup [aD [],.int .i64 2] by simp[oQ,dK,c1]]
  exact dU rfl
 simp only[go_sem,γ,c1]
 refine aA (L.large b hb lb) rfl ?_
 by_cases c2:nl (val b)>512
 ·simp only[go_sem,γ,reduceCtorEq,c2,ahT]
  rw[show oQ (val a) (val b)=.tup [aD [],.int .i64 2] by simp[oQ,dK,c2]]
  exact dU rfl
 simp only[go_sem,γ,reduceCtorEq,c2,aNG]
 refine aA (L.cmp a b ha hb la lb) rfl ?_
 by_cases c3:val a<val b
 ·have hc:cW (val a) (val b)<0:=by simp[cW,c3]
  simp only[go_sem,γ,hc,aNH]
  rw[show oQ (val a) (val b)=.tup [aD [],.int .i64 4] by simp[oQ,dK,c1,c2,c3]]
  exact dU rfl
 have hc:¬ cW (val a) (val b)<0:=by
  unfold cW
  rw[if_neg c3]
  split<;>decide
 rw[show oQ (val a) (val b)=szV (val a-val b) by simp[oQ,dK,c1,c2,c3]]
 simp only[go_sem,γ,hc]
 refine bM .nil aUT PH.nil_le ?_
 simp only[go_sem,reduceCtorEq,aNI]
 have h1:=eN ha
 have h2:=eN hb
 have h1':((nl (val a):Nat):Int)≤(a.length:Nat):=by omega
 have h2':((nl (val b):Nat):Int)≤(b.length:Nat):=by omega
 refine bF (lJ a) (L.length a ha la) rfl PH.nil_le ?_
 simp only[go_sem,ν,γ,reduceCtorEq,h1',or_true,bxP,gJ ha]
 refine bF (lJ b) (L.length b hb lb) rfl PH.nil_le ?_
 simp only[go_sem,ν,γ,reduceCtorEq,h2',or_true,bxP,gJ hb]
 have va:=aQ (val a)
 have vb:=aQ (val b)
 have hm:=eU (Om:val b≤val a)
 have:=aZQ L (aF (val a)) (aF (val b)) (aR _) (aR _) Om (by rw[aV,aV]; omega) (by rw[aV]; omega)
 rw[va,vb] at this
 exact this _ rfl rfl
end Go.PM
namespace Go.Na
def dE:Nat→Nat→List Nat
 | 0,_=>[]
 | k+1,n=>(n%4294967296)::dE k (n/4294967296)
theorem jJ:∀ k n,(dE k n).length=k
 | 0,_=>rfl
 | k+1,n=>by simp[dE,jJ k]
theorem DK {xs:List Nat} (h:Lim xs):dE xs.length (val xs)=xs:=by
 induction xs with
 | nil=>rfl
 | cons x xs ih =>
  have hx:=h x (by simp)
  have e1:(x+4294967296*val xs)%4294967296=x:=by omega
  have e2:(x+4294967296*val xs)/4294967296=val xs:=by omega
  simp only[byQ,dE,val]
  rw[e1,e2,ih fun y hy=>h y (by simp[hy])]
theorem kC:∀ k n,Lim (dE k n)
 | 0,_=>fun x hx=>by cases hx
 | k+1,n=>fun x hx=>by
  simp only[dE,bxF] at hx
  rcases hx with rfl | hx
  ·exact bxX _ (by decide)
  ·exact kC k _ x hx
theorem wE:∀ k n,val (dE k n)=n%4294967296 ^ k
 | 0,n=>by simp[dE,val,Nat.mod_one]
 | k+1,n=>by
  simp only[dE,val,wE k]
  rw[byE,bxK (4294967296 ^ k) 4294967296,Nat.mod_mul]
theorem lL {k n:Nat} (h:n<4294967296 ^ k):val (dE k n)=n:=by rw[wE,bxR h]
end Go.Na
namespace Go.PM
open Go Go.Na
theorem biM {a b:Nat} (ha:a<18446744073709551616) (hb:b<18446744073709551616):(BitVec.ofInt 64 (a:Int) ||| BitVec.ofInt 64 (b:Int)).toNat=a ||| b:=by
 rw[BitVec.ofInt_natCast,BitVec.ofInt_natCast,BitVec.toNat_or,BitVec.toNat_ofNat,BitVec.toNat_ofNat,bxR (by simpa using ha),bxR (by simpa using hb)]
theorem aAT {c x s:Nat} (hc:c<2 ^ s) (h:c+2 ^ s*x<18446744073709551616):c ||| (2 ^ s*x)=c+2 ^ s*x:=by
 rw[Nat.or_comm,← Nat.two_pow_add_eq_or_of_lt hc,Nat.add_comm]
theorem orI {a b n:Nat} (ha:a<18446744073709551616) (hb:b<18446744073709551616) (h:a ||| b=n) (hn:n<18446744073709551616):jI .or .u64 (a:Int) (b:Int)=some (.int .u64 (n:Int)):=by
 show some (PV.int .u64 (IntKind.u64.wrap (((BitVec.ofInt 64 (a:Int) ||| BitVec.ofInt 64 (b:Int)).toNat:Nat):Int)))=_
 rw[biM ha hb,h,bB hn]
theorem GC {x s:Nat} (hs:s≤64) (h:x*2 ^ s<18446744073709551616):shift .shl .u64 (x:Int) (s:Int)=some (.int .u64 ((2 ^ s*x:Nat):Int)):=by
 unfold shift
 rw[if_neg Om]
 simp only
 have:min (Int.toNat (s:Int)) IntKind.u64.bits=s:=by
  rw[show IntKind.u64.bits=64 from rfl]; omega
 rw[this,show (x:Int)*2 ^ s=((x*2 ^ s:Nat):Int) by simp,bB h,bxK]
def a5U (a:List Nat) (s o i c:Nat):PF:=(((((((PF.nil.set 0 (aD a)).set 1 (.int .u64 s)).set 5 (.osl o 1 0 (a.length+1))).set 6 (.int .u64 c)).set 13 (aD a)).set 14 (.int .i64 (a.length:Nat))).set 15 (.int .i64 i))
def upR (a:List Nat) (s:Nat) (r:PV) (H:PH):Prop:=∃ o,r=.osl o 1 0 (a.length+1)∧H=PH.nil.set o (.rows 1 (aG (dE (a.length+1) (val a*2 ^ s))))
theorem bgD {C:Ctx} (a:List Nat) (s:Nat) (ha:Lim a) (hs:s<32) (h1:a.length≤1000):VH.wp C (aS nup.res (upR a s)) (PF.args [aD a,.int .u64 s]) .nil:=by
 have hlen:IntKind.i64.wrap ((a.length:Int)+1)=((a.length+1:Nat):Int):=cY Om
 have hm1:((a.length+1:Nat):Int)*((4:Nat):Int)≤140737488355328:=by omega
 have hm2:((a.length+1:Nat):Int)≤9223372036854775807:=by omega
 have hz:bwP (a.length+1) [PV.int .u32 0]=aG ([]++bwP (a.length+1) 0):=by
  simp[aG]
 have h2s:2 ^ s≤2147483648:=Nat.pow_le_pow_right (show 0<2 by decide) (Om:s≤31)
 have h2s0:0<2 ^ s:=byY (by decide)
 simp only[go_sem,γ,reduceCtorEq,VH,aZR,aZS,nup,hlen,hm1,hm2,hz]
 refine aP fun o ho=>?_
 simp only[go_sem,γ,reduceCtorEq,aZT,aZU]
 refine wp_loop (α:=List Nat × Nat × Nat) (fun t=>a5U a s t.2.2 t.1.length t.2.1) (fun t=>PH.nil.set t.2.2 (.rows 1 (aG (t.1++bwP (a.length+1-t.1.length) 0))))
  (fun t=>t.1.length≤a.length∧Lim t.1∧t.2.1<2 ^ s∧val t.1+4294967296 ^ t.1.length*t.2.1=val (a.take t.1.length)*2 ^ s) (fun t=>a.length-t.1.length) ([],0,o) ⟨by simp,by simp[Lim],h2s0,by simp[val]⟩ ?_ ?_ ?_
 ·unfold a5U
  exact Lq
 ·exact PH.aH PH.nil_le (by simp only[go_sem,byV])
 rintro⟨P,c,q⟩ ⟨hP,bvG,hc,bvC⟩
 simp only at hP bvG hc bvC
 simp only[go_sem,γ,reduceCtorEq,aNK,aZV,a5U]
 by_cases c1:P.length<a.length
 ·have c1':(P.length:Int)<(a.length:Nat):=by omega
  have hai:=ha _ (bwS c1)
  obtain⟨k,hk⟩:∃ k,a.length+1-P.length=k+1:=⟨a.length-P.length,by omega⟩
  have hin:(aG (P++bwP (k+1) 0))[P.length]?=some [.int .u32 ((0:Nat):Int)]:=by
   rw[bG _ (by simp)]; simp
  have hlast:a.length+1-(P.length+1)=k:=by omega
  have c2':(P.length:Int)<((a.length+1:Nat):Int):=by omega
  have hta:=bS a c1
  generalize hx:a[P.length]=x at *
  have hxs:x*2 ^ s≤4294967295*2147483648:=Nat.mul_le_mul Om h2s
  have ex:IntKind.u64.wrap ((x:Nat):Int)=((x:Nat):Int):=bB Om
  have hxs':2 ^ s*x=x*2 ^ s:=bxK _ _
  have esh:shift .shl .u64 (x:Int) (s:Int)=some (.int .u64 ((2 ^ s*x:Nat):Int)):=GC Om Om
  have eor:=orI (a:=c) (b:=2 ^ s*x) (n:=c+2 ^ s*x) Om Om (aAT hc Om) Om
  have hdig:(c+2 ^ s*x)/4294967296<2 ^ s:=by
   rw[bzF (by decide)]
   have:2 ^ s*(x+1)≤2 ^ s*4294967296:=byM _ Om
   rw[bwX,Nat.mul_one] at this
   omega
  have buW:(aG (P++bwP (k+1) 0)).set P.length [.int .u32 (((c+2 ^ s*x)%4294967296:Nat):Int)]=aG ((P++[(c+2 ^ s*x)%4294967296])++bwP k 0):=by
   rw[eO,uR]
  have hax:(aG a)[P.length]?=some [.int .u32 ((x:Nat):Int)]:=by rw[bG a c1,hx]
  simp only[go_sem,γ,reduceCtorEq,c1',aZW,aZX,hax,ex,esh,eor,aZY,bY,hk,c2',hin,buW,aZZ,tU,a0A,cY (Om:P.length<9223372036854775807)]
  refine aJ (P++[(c+2 ^ s*x)%4294967296],(c+2 ^ s*x)/4294967296,q) ⟨by simp; omega,bvG.app fun y hy=>by simp at hy; subst hy; exact bxX _ (by decide),hdig,?_⟩ (by simp; omega) ?_ (PH.aH PH.nil_le ?_)
  ·simp only
   rw[gR,bwW,bxD,byE,bxH,byS,← bwX,Nat.mod_add_div,hta,bwX,bxN,← byS,bvC,hxs',bxH]
  ·simp only
   rw[bwW,bxD]
   exact Lq
  ·simp only
   rw[bwW,bxD,hlast]
   simp only[go_sem]
 ·have e:P.length=a.length:=by omega
  have c1':¬ (P.length:Int)<(a.length:Nat):=by omega
  have hk:bwP (a.length+1-P.length) 0=[0]:=by rw[show a.length+1-P.length=1 by omega]; rfl
  have hin:(aG (P++[0]))[a.length]?=some [.int .u32 ((0:Nat):Int)]:=by
   rw[bG _ (by simp; omega)]
   simp[e]
  have buW:(aG (P++[0])).set a.length [.int .u32 ((c%4294967296:Nat):Int)]=aG (P++[c]):=by
   have:=uR P 0 (c%4294967296)
   simp only[List.replicate_zero,byU,bxO,List.replicate_one] at this
   rw[← e,eO,this,bxR Om]
  have c2':(a.length:Int)<((a.length+1:Nat):Int):=by omega
  have hV:val (P++[c])=val a*2 ^ s:=by
   rw[gR,bvC,e,bxM]
  have hLc:Lim (P++[c]):=bvG.app fun x hx=>by simp at hx; omega
  have hD:dE (a.length+1) (val a*2 ^ s)=P++[c]:=by
   have:=DK hLc
   rw[hV,bwW,bxD,e] at this
   exact this
  simp only[go_sem,γ,reduceCtorEq,c1',aNL,bY,hk,hin,c2',buW,aNM]
  exact aU (vs:=[.osl q 1 0 (a.length+1)]) (.inr rfl) (PH.nil.set q (.rows 1 (aG (P++[c])))) Ev (PH.aH PH.nil_le Sq) ⟨q,rfl,by rw[hD]⟩
def ahS (a:List Nat) (d o k r:Nat):PF:=(((((PF.nil.set 0 (aD a)).set 1 (.int .u32 d)).set 6 (.osl o 1 0 a.length)).set 7 (.int .u64 r)).set 8 (.int .i64 ((k:Int)-1)))
theorem aZM {C:Ctx} (L:oC C) (a:List Nat) (d:Nat) (ha:Lim a) (hd0:0<d) (hd:d<4294967296) (h1:a.length≤1000) :
  zF.wp C (aS LE.res (aC (.tup [aD (aF (val a/d)),.int .u32 ((val a%d:Nat):Int)]))) (PF.args [aD a,.int .u32 d]) .nil:=by
 have hm1:((a.length:Nat):Int)*((4:Nat):Int)≤140737488355328:=by omega
 have hm2:((a.length:Nat):Int)≤9223372036854775807:=by omega
 have hz:bwP a.length [PV.int .u32 0]=aG (bwP a.length 0++[]):=by
  simp[aG]
 simp only[go_sem,γ,reduceCtorEq,zF,alS,alT,LE,hm1,hm2,hz]
 refine aP fun o ho=>?_
 simp only[go_sem,γ,reduceCtorEq,alU,alV]
 refine wp_loop (α:=Nat × List Nat × Nat × Nat) (fun t=>ahS a d t.2.2.2 t.1 t.2.2.1) (fun t=>PH.nil.set t.2.2.2 (.rows 1 (aG (bwP t.1 0++t.2.1))))
  (fun t=>t.1+t.2.1.length=a.length∧Lim t.2.1∧t.2.2.1<d∧val t.2.1*d+t.2.2.1=val (a.drop t.1)) (fun t=>t.1) (a.length,[],0,o) ⟨by simp,by simp[Lim],hd0,by simp[val]⟩ ?_ ?_ ?_
 ·unfold ahS
  (repeat' (first|exact PF.nil_le|refine PF.aH ?_ ?_))<;>first|(simp only[go_sem,γ,reduceCtorEq,wrap_i64 (Om:-9223372036854775808≤((a.length:Nat):Int)-1) (Om:((a.length:Nat):Int)-1≤9223372036854775807)]<;>rfl)|rfl
 ·exact PH.aH PH.nil_le Sq
 rintro⟨k,S,r,q⟩ ⟨hk,bvG,hr,bvC⟩
 simp only at hk bvG hr bvC
 simp only[go_sem,γ,reduceCtorEq,alR,alW,ahS]
 by_cases h0:0<k
 ·obtain⟨m,rfl⟩:∃ m,k=m+1:=⟨k-1,by omega⟩
  have hzz:((m+1:Nat):Int)-1=(m:Int):=by omega
  have hge:(m:Int)≥0:=by omega
  have hml:m<a.length:=by omega
  have hlt:(m:Int)<(a.length:Nat):=by omega
  have hai:=ha _ (bwS hml)
  have hdrop:val (a.drop m)=a[m]+4294967296*val (a.drop (m+1)):=by rw[byG hml]; rfl
  generalize hx:a[m]=x at *
  have hax:(aG a)[m]?=some [.int .u32 ((x:Nat):Int)]:=by rw[bG a hml,hx]
  have ex:IntKind.u64.wrap ((x:Nat):Int)=((x:Nat):Int):=bB Om
  have ed:IntKind.u64.wrap ((d:Nat):Int)=((d:Nat):Int):=bB Om
  have esh:shift .shl .u64 (r:Int) 32=some (.int .u64 ((2 ^ 32*r:Nat):Int)):=GC (s:=32) Om Om
  have e32:(2:Nat) ^ 32=4294967296:=by decide
  have eor:=orI (a:=2 ^ 32*r) (b:=x) (n:=2 ^ 32*r+x) Om Om (Nat.two_pow_add_eq_or_of_lt Om r).symm Om
  rw[e32] at esh eor
  have hq:(4294967296*r+x)/d<4294967296:=by
   rw[bzF hd0]
   have:4294967296*(r+1)≤4294967296*d:=byM _ hr
   omega
  have hdd:¬ ((d:Nat):Int)=0:=by omega
  have equo:IntKind.u64.wrap (Int.tdiv ((4294967296*r+x:Nat):Int) ((d:Nat):Int))=(((4294967296*r+x)/d:Nat):Int):=by
   rw[show Int.tdiv ((4294967296*r+x:Nat):Int) ((d:Nat):Int)=(((4294967296*r+x)/d:Nat):Int) from rfl]
   exact bB Om
  have erem:Int.tmod ((4294967296*r+x:Nat):Int) ((d:Nat):Int)=(((4294967296*r+x)%d:Nat):Int):=rfl
  have ec:IntKind.u32.wrap (((4294967296*r+x)/d:Nat):Int)=(((4294967296*r+x)/d:Nat):Int):=by rw[bY,bxR hq]
  have bwI:bwP (m+1) 0++S=bwP m 0++(0::S):=by
   rw[List.replicate_succ',bxU]; rfl
  have hin:(aG (bwP m 0++(0::S)))[m]?=some [.int .u32 ((0:Nat):Int)]:=by
   rw[bG _ (by simp)]; simp
  have buW:(aG (bwP m 0++(0::S))).set m [.int .u32 (((4294967296*r+x)/d:Nat):Int)]=aG (bwP m 0++(((4294967296*r+x)/d)::S)):=by
   rw[eO,bzZ _ _ (by simp)]; simp
  simp only[go_sem,γ,reduceCtorEq,hzz,hge,alX,esh,hax,ex,eor,alY,ed,hdd,equo,ec,hlt,bwI,hin,buW,alZ,erem,amA]
  refine aJ (m,((4294967296*r+x)/d)::S,(4294967296*r+x)%d,q) ⟨by simp only[byQ]; omega,fun y hy=>?_,bxX _ hd0,?_⟩ (by simp only; omega) ?_ (PH.aH PH.nil_le Sq)
  ·rw[bxF] at hy
   rcases hy with rfl | hy
   ·exact hq
   ·exact bvG y hy
  ·simp only[val]
   rw[hdrop,← bvC,bxN,bwX,bxH]
   have:=bzR (4294967296*r+x) d
   rw[bxK d] at this
   omega
  ·(repeat' (first|exact PF.nil_le|refine PF.aH ?_ ?_))<;>first|(simp only[go_sem,γ,reduceCtorEq,wrap_i64 (Om:-9223372036854775808≤(m:Int)-1) (Om:(m:Int)-1≤9223372036854775807)]<;>rfl)|rfl
 ·have:k=0:=by omega
  subst this
  have hzz:¬ ((0:Nat):Int)-1≥0:=by decide
  rw[bxP] at bvC
  have hS:S.length=a.length:=by omega
  have hq:val S=val a/d:=by
   rw[← bvC,bxK,Nat.mul_add_div hd0,bzS hr,byB]
  have hrm:r=val a%d:=by rw[← bvC,bxK,Nat.mul_add_mod,bxR hr]
  have hn0:bwP 0 0++S=S:=by simp
  simp only[go_sem,υ,γ,reduceCtorEq,hzz,abF,byW]
  have hl:=L.length S bvG Om
  have hnl:=eN bvG
  have hc:((nl (val S):Nat):Int)≤(S.length:Nat):=by omega
  refine nJ (o:=q) (s:=1) (k:=a.length) (rs:=aG S) (v:=.int .i64 (nl (val S):Nat)) ?_ Sq Sq (by rw[bO]; omega) ?_
  ·rw[bxC (by rw[bO]; omega)]; exact hl
  ·have hfz:PV.frz q 1 (aG S) (.osl q 1 0 a.length)=aD S:=by
    have:0+a.length≤(aG S).length:=by rw[bO]; omega
    simp only[PV.frz,PV.qT,PV.dX,if_true,true_and,if_pos this,bxP]
    rw[bxC (by rw[bO]; omega)]
   have hfi:∀ n:Int,∀ k,PV.frz q 1 (aG S) (.int k n)=.int k n:=fun _ _=>rfl
   have er:IntKind.u32.wrap ((r:Nat):Int)=((r:Nat):Int):=by rw[bY,bxR Om]
   simp only[go_sem,ν,γ,reduceCtorEq,hfz,hfi,hc,or_true,bxP,gJ bvG,er]
   refine aU (vs:=[aD (aF (val S)),.int .u32 ((r:Nat):Int)]) (.inr rfl) .nil Ev PH.nil_le ⟨?_,rfl⟩
   simp only[aT,← hq,← hrm]
end Go.PM
namespace Go.Na
theorem BU {L:List Nat} {i:Nat} (h:i<L.length) (v:Nat):val (L.set i v)+4294967296 ^ i*L[i]=val L+4294967296 ^ i*v:=by
 have h':i<(L.set i v).length:=by rw[byR]; exact h
 rw[pE L h,pE (L.set i v) h',List.getElem_set_self,List.take_set_of_le (bwR _),List.drop_set_of_lt Om,bwX,bwX]
 omega
theorem aeS {L:List Nat} {i:Nat} (h:∀ (j x:Nat),i≤j→L[j]?=some x→x=0) (k v:Nat) (hk:k<i):∀ (j x:Nat),i≤j→(L.set k v)[j]?=some x→x=0:=fun j x hj hx=>by
 rw[List.getElem?_set_ne Om] at hx
 exact h j x hj hx
end Go.Na
namespace Go.PM
open Go Go.Na
def jC (a b:List Nat) (o i:Nat):PF:=((((((PF.nil.set 0 (aD a)).set 1 (aD b)).set 6 (.osl o 1 0 (a.length+b.length))).set 32 (aD a)).set 33 (.int .i64 (a.length:Nat))).set 34 (.int .i64 i))
def aVE (a b:List Nat) (o i x c j:Nat):PF:=((((((((((((PF.nil.set 0 (aD a)).set 1 (aD b)).set 6 (.osl o 1 0 (a.length+b.length))).set 32 (aD a)).set 33 (.int .i64 (a.length:Nat))).set 34 (.int .i64 i)).set 7 (.int .i64 i)).set 8 (.int .u32 x)).set 9 (.int .u64 c)).set 39 (aD b)).set 40 (.int .i64 (b.length:Nat))).set 41 (.int .i64 j))
structure AQ (a b L:List Nat) (i:Nat):Prop where
 len:L.length=a.length+b.length
 lim:Lim L
 v:val L=val (a.take i)*val b
 z:∀ j x,i+b.length≤j→L[j]?=some x→x=0
theorem aLV {x y:Nat} (hx:x<4294967296) (hy:y<4294967296):IntKind.u64.wrap ((x:Int)*(y:Int))=((x*y:Nat):Int):=by
 have:x*y≤4294967295*4294967295:=Nat.mul_le_mul Om Om
 rw[show (x:Int)*(y:Int)=((x*y:Nat):Int) by simp]
 exact bB Om
theorem fD {a b:Nat} (h:a+b≤9223372036854775807):IntKind.i64.wrap ((a:Int)+(b:Int))=((a+b:Nat):Int):=by
 rw[wrap_i64 Om Om]; omega
theorem a5R {C:Ctx} (a b:List Nat) (ha:Lim a) (hb:Lim b) (h1:a.length≤1000) (h2:b.length≤1000) (L:List Nat) (i:Nat) (hi:i<a.length) (hI:AQ a b L i) (q:Nat) (K:cI) (F:PF) (H:PH) (hF:(jC a b q i).le F) (hH:H q=some (.rows 1 (aG L)))
  (hK:∀ L' F' H',AQ a b L' (i+1)→(jC a b q i).le F'→H' q=some (.rows 1 (aG L'))→K .normal F' H') :
  aB.wp C (.block 1 (.seq (.region ahP) (.seq (.region ahQ) (.seq (.seq (.region ahR) (.block 2 (.loop UX))) (.region UZ))))) K F H:=by
 have f0:=hF 0 _ (by unfold jC; simp only[go_sem,reduceCtorEq]; rfl)
 have f1:=hF 1 _ (by unfold jC; simp only[go_sem,γ,reduceCtorEq]; rfl)
 have f6:=hF 6 _ (by unfold jC; simp only[go_sem,γ,reduceCtorEq]; rfl)
 have f32:=hF 32 _ (by unfold jC; simp only[go_sem,γ,reduceCtorEq]; rfl)
 have f33:=hF 33 _ (by unfold jC; simp only[go_sem,γ,reduceCtorEq]; rfl)
 have f34:=hF 34 _ (by unfold jC; simp only[go_sem,γ,reduceCtorEq]; rfl)
 have hx:=ha _ (bwS hi)
 have hta:=bS a hi
 generalize hxe:a[i]=x at *
 have hax:(aG a)[i]?=some [.int .u32 ((x:Nat):Int)]:=by rw[bG a hi,hxe]
 simp only[go_sem,γ,ahP,ahQ,ahR,f32,f34,f1,hax]
 refine wp_loop (α:=List Nat × Nat × Nat) (fun t=>aVE a b q i x t.2.1 t.2.2) (fun t=>PH.nil.set q (.rows 1 (aG t.1)))
  (fun t=>t.2.2≤b.length∧t.1.length=a.length+b.length∧Lim t.1∧t.2.1<4294967296∧val t.1+4294967296 ^ (i+t.2.2)*t.2.1=val (a.take i)*val b+4294967296 ^ i*(x*val (b.take t.2.2))∧∀ j y,i+b.length≤j→t.1[j]?=some y→y=0) (fun t=>b.length-t.2.2) (L,0,0)
  ⟨by simp,hI.len,hI.lim,by simp,by simp[val,hI.v],hI.z⟩ ?_ (PH.aH PH.nil_le hH) ?_
 ·unfold aVE
  exact Lq
 rintro⟨M,c,j⟩ ⟨hj,hM,bvG,hc,bvC,hz⟩
 simp only at hj hM bvG hc bvC hz
 simp only[go_sem,γ,reduceCtorEq,UX,azW,aVE]
 by_cases c1:j<b.length
 ·have c1':(j:Int)<(b.length:Nat):=by omega
  have hy:=hb _ (bwS c1)
  have htb:=bS b c1
  generalize hye:b[j]=y at *
  have hby:(aG b)[j]?=some [.int .u32 ((y:Nat):Int)]:=by rw[bG b c1,hye]
  have hij:i+j<M.length:=by omega
  have hz0:=bvG _ (bwS hij)
  have bwG:=BU hij
  generalize hze:M[i+j]=z at *
  have hMz:(aG M)[i+j]?=some [.int .u32 ((z:Nat):Int)]:=by rw[bG M hij,hze]
  have ex:IntKind.u64.wrap ((x:Nat):Int)=((x:Nat):Int):=bB Om
  have ey:IntKind.u64.wrap ((y:Nat):Int)=((y:Nat):Int):=bB Om
  have ez:IntKind.u64.wrap ((z:Nat):Int)=((z:Nat):Int):=bB Om
  have em:=aLV hx hy
  have hxy:x*y≤4294967295*4294967295:=Nat.mul_le_mul Om Om
  have e1:IntKind.u64.wrap (((x*y:Nat):Int)+(z:Int))=((x*y+z:Nat):Int):=eG Om
  have e2:IntKind.u64.wrap ((c:Int)+((x*y+z:Nat):Int))=((c+(x*y+z):Nat):Int):=eG Om
  have eij:IntKind.i64.wrap ((i:Int)+(j:Int))=((i+j:Nat):Int):=fD Om
  have hlt:((i+j:Nat):Int)<((a.length+b.length:Nat):Int):=by omega
  generalize ht:c+(x*y+z)=t at *
  have htt:t<4294967296*4294967296:=by omega
  have buW:(aG M).set (i+j) [.int .u32 ((t%4294967296:Nat):Int)]=aG (M.set (i+j) (t%4294967296)):=eO M (i+j) _
  simp only[go_sem,γ,reduceCtorEq,c1',azX,hby,azY,ex,ey,em,eij,hlt,hMz,ez,e1,e2,azZ,bY,buW,aAA,tU,aAB,wZz j]
  refine aJ (M.set (i+j) (t%4294967296),t/4294967296,j+1) ⟨by simp only; omega,by simp only[byR]; exact hM,bvG.set _ (bxX _ (by decide)),by simp only; omega,?_,aeS hz _ _ Om⟩ (by simp only; omega) ?_ (PH.aH PH.nil_le Sq)
  ·simp only
   have h3:=bwG (t%4294967296)
   have h4:4294967296 ^ (i+(j+1))*(t/4294967296)+4294967296 ^ (i+j)*(t%4294967296)=4294967296 ^ (i+j)*t:=by
    rw[← byS,byE,bxH,← bwX,bzR]
   have h5:4294967296 ^ (i+j)*t=4294967296 ^ (i+j)*c+(4294967296 ^ (i+j)*(x*y)+4294967296 ^ (i+j)*z):=by rw[← ht,bwX,bwX]
   have h6:4294967296 ^ i*(x*val (b.take (j+1)))=4294967296 ^ i*(x*val (b.take j))+4294967296 ^ (i+j)*(x*y):=by
    rw[htb,bwX,bwX,Nat.pow_add]
    congr 1
    rw[Nat.mul_left_comm x,bxH]
   omega
  ·exact Lq
 ·have he:j=b.length:=by omega
  have c1':¬ (j:Int)<(b.length:Nat):=by omega
  subst he
  have hij:i+b.length<M.length:=by omega
  have hz0:M[i+b.length]=0:=hz _ _ (bwR _) (bxA hij)
  have bwG:=BU hij
  have hMz:(aG M)[i+b.length]?=some [.int .u32 ((0:Nat):Int)]:=by rw[bG M hij,hz0]
  have eij:IntKind.i64.wrap ((i:Int)+((b.length:Nat):Int))=((i+b.length:Nat):Int):=fD Om
  have hlt:((i+b.length:Nat):Int)<((a.length+b.length:Nat):Int):=by omega
  have buW:(aG M).set (i+b.length) [.int .u32 ((c%4294967296:Nat):Int)]=aG (M.set (i+b.length) c):=by
   rw[bxR hc]; exact eO M _ _
  simp only[go_sem,γ,reduceCtorEq,c1',UZ,eij,bY,hlt,hMz,buW]
  refine hK (M.set (i+b.length) c) _ _ ⟨by rw[byR]; exact hM,bvG.set _ hc,?_,fun j y hj hy=>?_⟩ (by unfold jC; exact Lq) Sq
  ·have h3:=bwG c
   rw[hz0,Nat.mul_zero,byB] at h3
   rw[h3,bvC,bxM,hta,bxN,bxH]
  ·rw[List.getElem?_set_ne Om] at hy
   exact hz j y Om hy
theorem aZL {C:Ctx} (L:oC C) (a b:List Nat) (ha:Lim a) (hb:Lim b) (h1:a.length≤1000) (h2:b.length≤1000) (F:PF) (f0:F 0=some (aD a)) (f1:F 1=some (aD b)) :
  aB.wp C (.seq (.region ahN) (.seq (.seq (.region ahO) (.block 0 (.loop UY))) (.seq (.region VA) .ret))) (aS [.tmp 4,.tmp 5] (bV (szV (val a*val b)))) F .nil:=by
 have hlen:IntKind.i64.wrap (((a.length:Nat):Int)+((b.length:Nat):Int))=((a.length+b.length:Nat):Int):=fD Om
 have hm1:((a.length+b.length:Nat):Int)*((4:Nat):Int)≤140737488355328:=by omega
 have hm2:((a.length+b.length:Nat):Int)≤9223372036854775807:=by omega
 have hz:bwP (a.length+b.length) [PV.int .u32 0]=aG (bwP (a.length+b.length) 0):=by
  simp[aG]
 simp only[go_sem,γ,ahN,f0,f1,hlen,hm1,hm2,hz]
 refine aP fun o ho=>?_
 simp only[go_sem,γ,reduceCtorEq,ahO,f0]
 refine wp_loop (α:=List Nat × Nat) (fun t=>jC a b o t.2) (fun t=>PH.nil.set o (.rows 1 (aG t.1))) (fun t=>t.2≤a.length∧AQ a b t.1 t.2) (fun t=>a.length-t.2) (bwP (a.length+b.length) 0,0)
  ⟨by simp,by simp,sI _,by simp[val,pK],fun j x _ hx=>by rw[List.getElem?_replicate] at hx; split at hx<;>simp_all⟩ ?_ (PH.aH PH.nil_le Sq) ?_
 ·unfold jC
  exact Lq
 rintro⟨M,i⟩ ⟨hi,hI⟩
 simp only at hi hI
 simp only[go_sem,γ,reduceCtorEq,UY,aND,jC]
 by_cases c1:i<a.length
 ·have c1':(i:Int)<(a.length:Nat):=by omega
  have key:=a5R (C:=C) a b ha hb h1 h2 M i c1 hI o
  simp only[go_sem] at key
  simp only[go_sem,c1']
  refine key _ _ _ (by unfold jC; exact Lq) Sq ?_
  intro L' F' H' hI' hF' hH'
  have g34:=hF' 34 _ (by unfold jC; simp only[go_sem,γ,reduceCtorEq]; rfl)
  have g0:=hF' 0 _ (by unfold jC; simp only[go_sem,reduceCtorEq]; rfl)
  have g1:=hF' 1 _ (by unfold jC; simp only[go_sem,γ,reduceCtorEq]; rfl)
  have g6:=hF' 6 _ (by unfold jC; simp only[go_sem,γ,reduceCtorEq]; rfl)
  have g32:=hF' 32 _ (by unfold jC; simp only[go_sem,γ,reduceCtorEq]; rfl)
  have g33:=hF' 33 _ (by unfold jC; simp only[go_sem,γ,reduceCtorEq]; rfl)
  simp only[go_sem,aAC,g34,wZz i]
  refine aJ (L',i+1) ⟨by simp only; omega,hI'⟩ (by simp only; omega) ?_ (PH.aH PH.nil_le hH')
  exact Lq
 ·have he:i=a.length:=by omega
  subst he
  have c1':¬ ((a.length:Nat):Int)<(a.length:Nat):=by omega
  have hV:val M=val a*val b:=by rw[hI.v,bxM]
  simp only[go_sem,γ,reduceCtorEq,VA]
  have hs:=L.sized _ hI.lim (by rw[hI.len]; omega)
  rw[hV] at hs
  refine nJ (o:=o) (s:=1) (k:=a.length+b.length) (rs:=aG M) (v:=szV (val a*val b)) ?_ rfl Sq (by rw[bO,hI.len]; exact bwR _) ?_
  ·rw[bxC (by rw[bO,hI.len]; exact bwR _)]; exact hs
  ·simp only[go_sem,γ,reduceCtorEq,szV]
   exact aU (.inr rfl) .nil rfl PH.nil_le ⟨.refl _,rfl⟩
theorem bcA {C:Ctx} (L:oC C) (a b:List Nat) (ha:Lim a) (hb:Lim b) (la:a.length≤35184372087808) (lb:b.length≤35184372087808) :
  KZ.wp C (aS azV.res (bV (opV (dK (val a) (val b)) (val a*val b)))) (PF.args [aD a,aD b]) .nil:=by
 simp only[go_sem,reduceCtorEq,KZ,aNA,aNB,azV]
 refine aA (L.large a ha la) rfl ?_
 by_cases c1:nl (val a)>512
 ·simp only[go_sem,γ,c1,ahM]
  rw[show opV (dK (val a) (val b)) (val a*val b)=.tup [aD [],.int .i64 2] by simp[opV,dK,c1]]
  exact dU rfl
 simp only[go_sem,γ,c1]
 refine aA (L.large b hb lb) rfl ?_
 by_cases c2:nl (val b)>512
 ·simp only[go_sem,γ,reduceCtorEq,c2,ahM]
  rw[show opV (dK (val a) (val b)) (val a*val b)=.tup [aD [],.int .i64 2] by simp[opV,dK,c2]]
  exact dU rfl
 have e:opV (dK (val a) (val b)) (val a*val b)=szV (val a*val b):=by simp[opV,dK,c1,c2]
 rw[e]
 simp only[go_sem,γ,reduceCtorEq,c2]
 refine bM .nil aUT PH.nil_le ?_
 simp only[go_sem,reduceCtorEq,aNC]
 have h1:=eN ha
 have h2:=eN hb
 have h1':((nl (val a):Nat):Int)≤(a.length:Nat):=by omega
 have h2':((nl (val b):Nat):Int)≤(b.length:Nat):=by omega
 refine bF (lJ a) (L.length a ha la) rfl PH.nil_le ?_
 simp only[go_sem,ν,γ,reduceCtorEq,h1',or_true,bxP,gJ ha]
 refine bF (lJ b) (L.length b hb lb) rfl PH.nil_le ?_
 simp only[go_sem,ν,γ,reduceCtorEq,h2',or_true,bxP,gJ hb]
 have va:=aQ (val a)
 have vb:=aQ (val b)
 have:=aZL L (aF (val a)) (aF (val b)) (aR _) (aR _) (by rw[aV]; omega) (by rw[aV]; omega)
 rw[va,vb] at this
 have:=fun F f0 f1=>this F f0 f1
 simp only[go_sem] at this
 exact this _ rfl rfl
open Go Go.Na
theorem abY {A P W Z:List Nat} {i:Nat} (hP:P.length=i) (hi:i<W.length):(aG (A++(P++W.drop i)++Z))[A.length+i]?=some [.int .u32 ((W[i]:Nat):Int)]:=by
 have hl:A.length+i<(A++(P++W.drop i)++Z).length:=by simp; omega
 rw[bG _ hl]
 congr 4
 rw[List.getElem_append_left (by simp; omega),List.getElem_append_right Om,List.getElem_append_right Om,List.getElem_drop]
 congr 1
 omega
theorem BO {A P W Z:List Nat} {i:Nat} (hP:P.length=i) (hi:i<W.length) (v:Nat):(aG (A++(P++W.drop i)++Z)).set (A.length+i) [.int .u32 (v:Int)]=aG (A++((P++[v])++W.drop (i+1))++Z):=by
 rw[eO]
 congr 1
 rw[List.set_append_left _ _ (by simp; omega),bzZ _ _ Om,bzZ _ _ Om,byG hi]
 rw[show A.length+i-A.length-P.length=0 by omega,List.set_cons_zero]
 simp
theorem a2Z {t:Nat} (h:t<18446744073709551616):jI .and .u64 (t:Int) 4294967295=some (.int .u64 ((t%4294967296:Nat):Int)):=by
 show some (PV.int .u64 (IntKind.u64.wrap (((BitVec.ofInt 64 (t:Int) &&& BitVec.ofInt 64 (4294967295:Int)).toNat:Nat):Int)))=_
 have e:BitVec.ofInt 64 (4294967295:Int)=BitVec.ofNat 64 4294967295:=by rfl
 rw[e,BitVec.ofInt_natCast,BitVec.toNat_and,BitVec.toNat_ofNat,BitVec.toNat_ofNat,bxR (by simpa using h)]
 have e2:(4294967295:Nat)%2 ^ 64=2 ^ 32-1:=by decide
 rw[e2,Nat.and_two_pow_sub_one_eq_mod]
 rw[bB (Nat.lt_of_lt_of_le (bxX _ (by decide)) (by decide))]
theorem a3E {c f x:Nat} (hc:c<4294967296) (hf:f≤4294967296) (hx:x<4294967296):c+f*x<18446744073709551616∧(c+f*x)/4294967296<4294967296∧f*x≤4294967296*4294967295:=by
 have:f*x≤4294967296*4294967295:=Nat.mul_le_mul hf Om
 refine⟨by omega,?_,this⟩
 omega
def aAK (v:List Nat) (j o i c b:Nat) (f:Nat):PF:=((((((((PF.nil.set 0 (.osl o 1 j (v.length+1))).set 1 (aD v)).set 2 (.int .u64 f)).set 7 (.int .u64 c)).set 8 (.int .u64 b)).set 13 (aD v)).set 14 (.int .i64 (v.length:Nat))).set 15 (.int .i64 i))
def GI (n w m:Nat):Nat:=if w<m then w+4294967296 ^ n-m else w-m
theorem aAL {C:Ctx} (A W Z v:List Nat) (f:Nat) (hW:Lim W) (hv:Lim v) (hl:W.length=v.length+1) (h1:A.length+v.length≤100000) (hf:f≤4294967296) (bvY:val v*f≤val W+4294967296 ^ (v.length+1)) (o:Nat) :
  rB.wp C (aS sK.res (fun r H'=>r=.bool (decide (val W<val v*f))∧H'=PH.nil.set o (.rows 1 (aG (A++dE (v.length+1) (GI (v.length+1) (val W) (val v*f))++Z)))))
   (PF.args [.osl o 1 A.length (v.length+1),aD v,.int .u64 f]) (PH.nil.set o (.rows 1 (aG (A++W++Z)))):=by
 simp only[go_sem,γ,rB,LH,LJ,LK,sK]
 refine wp_loop (α:=List Nat × Nat × Nat) (fun t=>aAK v A.length o t.1.length t.2.1 t.2.2 f) (fun t=>PH.nil.set o (.rows 1 (aG (A++(t.1++W.drop t.1.length)++Z))))
  (fun t=>t.1.length≤v.length∧Lim t.1∧t.2.1<4294967296∧t.2.2≤1∧val (W.take t.1.length)+4294967296 ^ t.1.length*t.2.2+4294967296 ^ t.1.length*t.2.1=val t.1+val (v.take t.1.length)*f) (fun t=>v.length-t.1.length) ([],0,0)
  ⟨by simp,by simp[Lim],by simp,by simp,by simp[val]⟩ ?_ (PH.aH PH.nil_le (by simp only[go_sem,byV,bxP,byW])) ?_
 ·unfold aAK
  exact Lq
 rintro⟨P,c,b⟩ ⟨hP,bvG,hc,hb,bvC⟩
 simp only at hP bvG hc hb bvC
 simp only[go_sem,γ,reduceCtorEq,IP,LL,aAK]
 by_cases c1:P.length<v.length
 ·have c1':(P.length:Int)<(v.length:Nat):=by omega
  have c2:P.length<W.length:=by omega
  have c2':(P.length:Int)<((v.length+1:Nat):Int):=by omega
  have hx:=hv _ (bwS c1)
  have hw:=hW _ (bwS c2)
  have htv:=bS v c1
  have htw:=bS W c2
  have hat:=abY (A:=A) (Z:=Z) (P:=P) rfl c2
  have bwG:=BO (A:=A) (Z:=Z) (P:=P) rfl c2
  generalize hxe:v[P.length]=x at *
  generalize hwe:W[P.length]=y at *
  have hvx:(aG v)[P.length]?=some [.int .u32 ((x:Nat):Int)]:=by rw[bG v c1,hxe]
  obtain⟨k1,k2,k3⟩:=a3E hc hf hx
  have ex:IntKind.u64.wrap ((x:Nat):Int)=((x:Nat):Int):=bB Om
  have ey:IntKind.u64.wrap ((y:Nat):Int)=((y:Nat):Int):=bB Om
  have em:IntKind.u64.wrap ((f:Int)*(x:Int))=((f*x:Nat):Int):=by
   rw[show (f:Int)*(x:Int)=((f*x:Nat):Int) by simp]
   exact bB Om
  have hlt64:c+f*x<18446744073709551616:=k1
  have ea:IntKind.u64.wrap ((c:Int)+((f*x:Nat):Int))=((c+f*x:Nat):Int):=eG hlt64
  have eand:=a2Z hlt64
  have hvt:val (v.take (P.length+1))*f=val (v.take P.length)*f+4294967296 ^ P.length*(f*x):=by rw[htv,bxN,bxH,bxK x f]
  generalize f*x=fx at *
  have hmod:(c+fx)%4294967296<4294967296:=bxX _ (by decide)
  obtain⟨s1,s2,s3,s4⟩:=aDL (a:=y) (bor:=b) (b:=(c+fx)%4294967296) hw hmod hb (IntKind.u64.wrap (IntKind.u64.wrap ((y:Int)-(((c+fx)%4294967296:Nat):Int))-(b:Int))) (by rw[eV,eV]; omega)
  generalize hd:ND y b ((c+fx)%4294967296)=d at *
  generalize hbb:VR y b ((c+fx)%4294967296)=b' at *
  have hb':b'≤1:=by rw[← hbb]; unfold VR; split<;>omega
  have hs:=bwG d
  simp only[go_sem,γ,reduceCtorEq,c1',LM,hvx,LN,ex,em,ea,LO,c2',hat,ey,eand,LP,s1,hs,LQ,aWC,s2,LS,tU,IQ,cY (Om:P.length<9223372036854775807)]
  refine aJ (P++[d],(c+fx)/4294967296,b') ⟨by simp; omega,bvG.app fun z hz=>by simp at hz; omega,k2,hb',?_⟩ (by simp; omega) ?_ (PH.aH PH.nil_le ?_)
  ·simp only
   rw[bwW,bxD,gR,htw,hvt,byE,bxH,bxH]
   have h4:4294967296 ^ P.length*y+4294967296 ^ P.length*(4294967296*b')=4294967296 ^ P.length*d+4294967296 ^ P.length*((c+fx)%4294967296)+4294967296 ^ P.length*b:=by
    rw[← bwX,s3,bwX,bwX]
   have h5:4294967296 ^ P.length*(4294967296*((c+fx)/4294967296))+4294967296 ^ P.length*((c+fx)%4294967296)=4294967296 ^ P.length*c+4294967296 ^ P.length*fx:=by
    rw[← bwX,bzR,bwX]
   omega
  ·simp only
   rw[bwW,bxD]
   exact Lq
  ·simp only
   rw[bwW,bxD]
   simp only[go_sem]
 ·have e:P.length=v.length:=by omega
  have c1':¬ (P.length:Int)<(v.length:Nat):=by omega
  have c2:v.length<W.length:=by omega
  have c2':((v.length:Nat):Int)<((v.length+1:Nat):Int):=by omega
  have hw:=hW _ (bwS c2)
  have htw:=bS W c2
  have hat:=abY (A:=A) (Z:=Z) (P:=P) e c2
  have bwG:=BO (A:=A) (Z:=Z) (P:=P) e c2
  have hWall:val (W.take (v.length+1))=val W:=by rw[bxC Om]
  generalize hwe:W[v.length]=y at *
  have ey:IntKind.u64.wrap ((y:Nat):Int)=((y:Nat):Int):=bB Om
  have hP':=eE bvG
  rw[e] at bvC hP'
  rw[bxM] at bvC
  rw[hWall] at htw
  have hpow:4294967296 ^ (v.length+1)=4294967296 ^ v.length*4294967296:=byE _ _
  have key:val W+4294967296 ^ v.length*(b+c)=val P+val v*f+4294967296 ^ v.length*y:=by rw[htw,bwX]; omega
  have hbc:b+c≤y+4294967296:=by
   rcases bxG (y+4294967296) (b+c) with h | h
   ·exfalso
    have:4294967296 ^ v.length*(y+4294967296+1)≤4294967296 ^ v.length*(b+c):=byM _ h
    rw[bwX,bwX,Nat.mul_one] at this
    omega
   ·exact h
  have hlast:∃ d k:Nat,d<4294967296∧k≤1∧y+4294967296*k=d+(b+c)∧IntKind.u32.wrap (IntKind.u64.wrap (IntKind.u64.wrap ((y:Int)-(c:Int))-(b:Int)))=(d:Int)∧((IntKind.u64.wrap (IntKind.u64.wrap ((y:Int)-(c:Int))-(b:Int))/9223372036854775808==1)=decide (k=1)):=by
   rw[SV,eV,eV]
   by_cases h:y<b+c
   ·refine⟨y+4294967296-(b+c),1,by omega,by omega,by omega,by omega,?_⟩
    simp only[decide_true]
    exact bX Om
   ·refine⟨y-(b+c),0,by omega,by omega,by omega,by omega,?_⟩
    exact bD Om
  obtain⟨d,k,hd,hk,hy,w1,w2⟩:=hlast
  have hs:=bwG d
  have hN:val (P++[d])+val v*f=val W+4294967296 ^ (v.length+1)*k:=by
   have:4294967296 ^ v.length*y+4294967296 ^ v.length*(4294967296*k)=4294967296 ^ v.length*d+4294967296 ^ v.length*(b+c):=by rw[← bwX,hy,bwX]
   rw[gR,e,hpow,bxH]
   omega
  have hLd:Lim (P++[d]):=bvG.app fun z hz=>by simp at hz; omega
  have hdl:=eE hLd
  rw[bwW,bxD,e] at hdl
  have hk1:decide (k=1)=decide (val W<val v*f):=by
   congr 1
   apply propext
   constructor
   ·intro h; subst h; omega
   ·intro h
    rcases bzK k with h0 | h0
    ·subst h0; omega
    ·omega
  have hval':GI (v.length+1) (val W) (val v*f)=val (P++[d]):=by
   unfold GI
   split
   ·rename_i h
    have:k=1:=by simpa [h] using hk1
    subst this; omega
   ·rename_i h
    have:k=0:=by
     have:¬ k=1:=by simpa [h] using hk1
     omega
    subst this; omega
  have hD:dE (v.length+1) (GI (v.length+1) (val W) (val v*f))=P++[d]:=by
   have:=DK hLd
   rw[bwW,bxD,e] at this
   rw[hval',this]
  have hdr:W.drop (v.length+1)=[]:=bzU Om
  simp only[go_sem,γ,reduceCtorEq,c1',IR,e,c2',hat,ey,IS,w1,hs,IT,aWC,w2,hk1]
  refine aU (vs:=[.bool (decide (val W<val v*f))]) (.inr rfl) (PH.nil.set o (.rows 1 (aG (A++(P++[d]++W.drop (v.length+1))++Z)))) rfl (PH.aH PH.nil_le Sq) ⟨rfl,?_⟩
  rw[hD,hdr,byU]
end Go.PM
namespace Go.Na
theorem aLS {xs ys:List Nat} (hx:Lim xs) (hy:Lim ys) (hl:xs.length=ys.length) (hv:val xs=val ys):xs=ys:=by
 rw[← DK hx,← DK hy,hl,hv]
theorem a9O {k n:Nat} {xs:List Nat} (hx:Lim xs) (hl:xs.length=k) (hv:val xs=n%4294967296 ^ k):dE k n=xs :=
 aLS (kC k n) hx (by rw[jJ,hl]) (by rw[wE,hv])
end Go.Na
namespace Go.PM
open Go Go.Na
def aAE (v:List Nat) (j o i c:Nat):PF:=((((((PF.nil.set 0 (.osl o 1 j (v.length+1))).set 1 (aD v)).set 4 (.int .u64 c)).set 7 (aD v)).set 8 (.int .i64 (v.length:Nat))).set 9 (.int .i64 i))
theorem aHV {C:Ctx} (A W Z v:List Nat) (hW:Lim W) (hv:Lim v) (hl:W.length=v.length+1) (h1:A.length+v.length≤100000) (o:Nat) :
  sZ.wp C (aS vP.res (fun r H'=>r=.tup []∧H'=PH.nil.set o (.rows 1 (aG (A++dE (v.length+1) (val W+val v)++Z)))))
   (PF.args [.osl o 1 A.length (v.length+1),aD v]) (PH.nil.set o (.rows 1 (aG (A++W++Z)))):=by
 simp only[go_sem,γ,sZ,RN,RP,vP]
 refine wp_loop (α:=List Nat × Nat) (fun t=>aAE v A.length o t.1.length t.2) (fun t=>PH.nil.set o (.rows 1 (aG (A++(t.1++W.drop t.1.length)++Z))))
  (fun t=>t.1.length≤v.length∧Lim t.1∧t.2≤1∧val (W.take t.1.length)+val (v.take t.1.length)=val t.1+4294967296 ^ t.1.length*t.2) (fun t=>v.length-t.1.length) ([],0)
  ⟨by simp,by simp[Lim],by simp,by simp[val]⟩ ?_ (PH.aH PH.nil_le (by simp only[go_sem,byV,bxP,byW])) ?_
 ·unfold aAE
  exact Lq
 rintro⟨P,c⟩ ⟨hP,bvG,hc,bvC⟩
 simp only at hP bvG hc bvC
 simp only[go_sem,γ,reduceCtorEq,RM,RQ,aAE]
 by_cases c1:P.length<v.length
 ·have c1':(P.length:Int)<(v.length:Nat):=by omega
  have c2:P.length<W.length:=by omega
  have c2':(P.length:Int)<((v.length+1:Nat):Int):=by omega
  have hx:=hv _ (bwS c1)
  have hw:=hW _ (bwS c2)
  have htv:=bS v c1
  have htw:=bS W c2
  have hat:=abY (A:=A) (Z:=Z) (P:=P) rfl c2
  have bwG:=BO (A:=A) (Z:=Z) (P:=P) rfl c2
  generalize hxe:v[P.length]=x at *
  generalize hwe:W[P.length]=y at *
  have hvx:(aG v)[P.length]?=some [.int .u32 ((x:Nat):Int)]:=by rw[bG v c1,hxe]
  have ex:IntKind.u64.wrap ((x:Nat):Int)=((x:Nat):Int):=bB Om
  have ey:IntKind.u64.wrap ((y:Nat):Int)=((y:Nat):Int):=bB Om
  have e1:IntKind.u64.wrap ((y:Int)+(x:Int))=((y+x:Nat):Int):=eG Om
  have e2:IntKind.u64.wrap ((c:Int)+((y+x:Nat):Int))=((c+(y+x):Nat):Int):=eG Om
  have hs:=bwG ((c+(y+x))%4294967296)
  simp only[go_sem,γ,reduceCtorEq,c1',RR,hvx,RS,c2',hat,ex,ey,e1,e2,RT,bY,hs,RU,tU,RV,cY (Om:P.length<9223372036854775807)]
  refine aJ (P++[(c+(y+x))%4294967296],(c+(y+x))/4294967296) ⟨by simp; omega,bvG.app fun z hz=>by simp at hz; subst hz; exact bxX _ (by decide),by simp only; omega,?_⟩ (by simp; omega) ?_ (PH.aH PH.nil_le ?_)
  ·simp only
   rw[bwW,bxD,gR,htw,htv,byE,bxH]
   have h5:4294967296 ^ P.length*(4294967296*((c+(y+x))/4294967296))+4294967296 ^ P.length*((c+(y+x))%4294967296)=4294967296 ^ P.length*c+(4294967296 ^ P.length*y+4294967296 ^ P.length*x):=by
    rw[← bwX,bzR,bwX,bwX]
   omega
  ·simp only
   rw[bwW,bxD]
   exact Lq
  ·simp only
   rw[bwW,bxD]
   simp only[go_sem]
 ·have e:P.length=v.length:=by omega
  have c1':¬ (P.length:Int)<(v.length:Nat):=by omega
  have c2:v.length<W.length:=by omega
  have c2':((v.length:Nat):Int)<((v.length+1:Nat):Int):=by omega
  have hw:=hW _ (bwS c2)
  have htw:=bS W c2
  have hat:=abY (A:=A) (Z:=Z) (P:=P) e c2
  have bwG:=BO (A:=A) (Z:=Z) (P:=P) e c2
  have hWall:val (W.take (v.length+1))=val W:=by rw[bxC Om]
  generalize hwe:W[v.length]=y at *
  have hP':=eE bvG
  rw[e] at bvC hP'
  rw[bxM] at bvC
  rw[hWall] at htw
  have ec:IntKind.u32.wrap ((c:Nat):Int)=((c:Nat):Int):=by rw[bY,bxR Om]
  have ey:IntKind.u32.wrap ((y:Int)+(c:Int))=(((y+c)%4294967296:Nat):Int):=by
   rw[show (y:Int)+(c:Int)=((y+c:Nat):Int) by omega,bY]
  have hs:=bwG ((y+c)%4294967296)
  have hLd:Lim (P++[(y+c)%4294967296]):=bvG.app fun z hz=>by simp at hz; subst hz; exact bxX _ (by decide)
  have hdl:=eE hLd
  rw[bwW,bxD,e] at hdl
  have hD:dE (v.length+1) (val W+val v)=P++[(y+c)%4294967296]:=by
   refine a9O hLd (by rw[bwW,bxD,e]) ?_
   have:val W+val v=val (P++[(y+c)%4294967296])+4294967296 ^ (v.length+1)*((y+c)/4294967296):=by
    rw[gR,e,byE,bxH,byS,← bwX,Nat.mod_add_div,bwX]
    omega
   rw[this,Nat.add_mul_mod_self_left,bxR hdl]
  have hdr:W.drop (v.length+1)=[]:=bzU Om
  simp only[go_sem,γ,reduceCtorEq,c1',RW,e,c2',hat,ec,ey,hs]
  refine aU (vs:=[]) (.inl rfl) (PH.nil.set o (.rows 1 (aG (A++(P++[(y+c)%4294967296]++W.drop (v.length+1))++Z)))) rfl (PH.aH PH.nil_le Sq) ⟨rfl,?_⟩
  rw[hD,hdr,byU]
def aVB (o n:Nat) (len:Nat):PF:=((PF.nil.set 0 (.osl o 1 0 len)).set 3 (.int .i64 n))
theorem aHU {C:Ctx} (xs:List Nat) (hx:Lim xs) (hl:xs.length≤35184372087808) (o:Nat):mL.wp C (aS rA.res (fun r H'=>r=.int .i64 (nl (val xs):Nat)∧H'=PH.nil.set o (.rows 1 (aG xs)))) (PF.args [.osl o 1 0 xs.length]) (PH.nil.set o (.rows 1 (aG xs))):=by
 simp only[go_sem,γ,reduceCtorEq,mL,FB,FC,rA]
 refine wp_loop (α:=Nat) (fun n=>aVB o n xs.length) (fun _=>PH.nil.set o (.rows 1 (aG xs))) (fun n=>n≤xs.length∧∀ j x,n≤j→xs[j]?=some x→x=0) (fun n=>n) xs.length ⟨bwR _,fun j x h e=>by rw[bxY h] at e; cases e⟩ ?_ PH.le_refl ?_
 ·unfold aVB
  exact Lq
 rintro n ⟨hn,hz⟩
 have out:(∀ x,0<n→xs[n-1]?=some x→x≠0)→nl (val xs)=n:=fun h=>aPB hx hn hz h
 simp only[go_sem,γ,reduceCtorEq,FA,FD,aVB]
 by_cases h0:(n:Int)>0
 ·have hp:0<n:=by omega
  have hi:=bG xs (Om:n-1<xs.length)
  have hlt:((n-1:Nat):Int)<(xs.length:Nat):=by omega
  simp only[go_sem,γ,reduceCtorEq,h0,sR (Om:n≤9223372036854775807) hp,hi,hlt]
  by_cases hz0:xs[n-1]=0
  ·simp only[go_sem,γ,reduceCtorEq,bX (Om:((xs[n-1]:Nat):Int)=0),FF,sR (Om:n≤9223372036854775807) hp]
   refine aJ (n-1) ⟨by omega,fun j x hj he=>?_⟩ Om ?_ PH.le_refl
   ·rcases bxG j n with h | h
    ·have:j=n-1:=by omega
     subst this
     rw[bxA Om] at he
     cases he; exact hz0
    ·exact hz j x h he
   ·exact Lq
  ·simp only[go_sem,γ,reduceCtorEq,bD (Om:((xs[n-1]:Nat):Int)≠0),qD]
   refine aU (.inr rfl) _ rfl PH.le_refl ⟨?_,rfl⟩
   rw[out fun x _ he=>by rw[bxA Om] at he; cases he; exact hz0]
   rfl
 ·simp only[go_sem,γ,reduceCtorEq,h0,qD]
  refine aU (.inr rfl) _ rfl PH.le_refl ⟨?_,rfl⟩
  rw[out fun x h=>by omega]
  rfl
end Go.PM
namespace Go.Na
structure Kn (V W top next Vr head u2 Wr p:Nat):Prop where
 hV:V=top*(4294967296*p)+next*p+Vr
 hW:W=head*(4294967296*p)+u2*p+Wr
 hVr:Vr<p
 hWr:Wr<p
 htop:2147483648≤top
 bvL:next<4294967296
 hu2:u2<4294967296
 hlt:W<V*4294967296
section
variable {V W top next Vr head u2 Wr p:Nat}
theorem Kn.low (K:Kn V W top next Vr head u2 Wr p):next*p+Vr<4294967296*p∧u2*p+Wr<4294967296*p:=by
 have h1:(next+1)*p≤4294967296*p:=bxQ _ K.bvL
 have h2:(u2+1)*p≤4294967296*p:=bxQ _ K.hu2
 rw[bxN,Nat.one_mul] at h1 h2
 have:=K.hVr
 have:=K.hWr
 omega
theorem Kn.arO (K:Kn V W top next Vr head u2 Wr p):0<V∧4294967296*p≤V∧0<p:=by
 have:=K.hVr
 have h:1*(4294967296*p)≤top*(4294967296*p):=bxQ _ (by have:=K.htop; omega)
 have:=K.hV
 omega
theorem Kn.bgH (K:Kn V W top next Vr head u2 Wr p):W/V<4294967296:=by
 rw[bzF K.arO.1,bxK]; exact K.hlt
theorem Kn.g0 (K:Kn V W top next Vr head u2 Wr p):W/V≤head/top:=by
 have ht:0<top:=by have:=K.htop; omega
 rw[Nat.le_div_iff_mul_le ht]
 have h1:W/V*V≤W:=Nat.div_mul_le_self W V
 have h2:W/V*(top*(4294967296*p))≤W/V*V:=byM _ (by have:=K.hV; omega)
 have h3:=K.low.2
 have h4:=K.hW
 have h5:(W/V*top)*(4294967296*p)<(head+1)*(4294967296*p):=by
  rw[bxH,bxN,Nat.one_mul]; omega
 have:=Nat.lt_of_mul_lt_mul_right h5
 omega
theorem Kn.g1 (K:Kn V W top next Vr head u2 Wr p) {g r:Nat} (hg:g*top+r=head) (hq:W/V≤g) (h:g≥4294967296∨g*next>r*4294967296+u2):1≤g∧W/V≤g-1:=by
 have hql:=K.bgH
 have hdiv:=Nat.div_mul_le_self W V
 generalize W/V=Q at *
 rcases h with h | h
 ·omega
 ·have hne:Q≠g:=by
   intro e
   have h1:g*V≤W:=by rw[← e]; exact hdiv
   have h2:g*V=g*top*(4294967296*p)+g*next*p+g*Vr:=by rw[K.hV,bwX,bwX,bxH,bxH]
   have h3:(r*4294967296+u2+1)*p≤g*next*p:=bxQ _ h
   rw[bxN,bxN,Nat.one_mul,bxH r] at h3
   have h4:g*top*(4294967296*p)+r*(4294967296*p)=head*(4294967296*p):=by rw[← bxN,hg]
   have:=K.hW
   have:=K.hWr
   omega
  omega
theorem Kn.g2 (K:Kn V W top next Vr head u2 Wr p) {g r:Nat} (hg:g*top+r=head) (hl:g≤4294967296) (h:g*next≤r*4294967296+u2):g≤W/V+1:=by
 rcases bzK g with e | e
 ·rw[e]; exact bwZ _
 have h2:g*V=g*top*(4294967296*p)+g*next*p+g*Vr:=by rw[K.hV,bwX,bwX,bxH,bxH]
 have h3:g*next*p≤(r*4294967296+u2)*p:=bxQ _ h
 rw[bxN,bxH r] at h3
 have h4:g*top*(4294967296*p)+r*(4294967296*p)=head*(4294967296*p):=by rw[← bxN,hg]
 have h5:g*Vr≤4294967296*Vr:=bxQ _ hl
 have h6:4294967296*(Vr+1)≤4294967296*p:=byM _ K.hVr
 have hV:=K.arO
 have hW:=K.hW
 have h7:(g-1)*V≤W:=by
  have:g*V=(g-1)*V+V:=by
   obtain⟨k,rfl⟩:∃ k,g=k+1:=⟨g-1,by omega⟩
   rw[bxN,Nat.one_mul]; rfl
  omega
 have:=(Nat.le_div_iff_mul_le hV.1).2 h7
 generalize W/V=Q at *
 clear h2 h3 h4 h5 h7
 omega
theorem Kn.g3 (K:Kn V W top next Vr head u2 Wr p) {g r:Nat} (hg:g*top+r=head) (hl:g≤4294967296) (hr:4294967296≤r):g≤W/V+1:=by
 have hlow:=K.low.1
 have hV:=K.arO
 have h2:g*V=g*top*(4294967296*p)+g*(next*p+Vr):=by rw[K.hV,byS,bwX,bxH]
 have h3:g*(next*p+Vr)≤4294967296*(4294967296*p):=Nat.mul_le_mul hl Om
 have h4:g*top*(4294967296*p)+r*(4294967296*p)=head*(4294967296*p):=by rw[← bxN,hg]
 have h5:4294967296*(4294967296*p)≤r*(4294967296*p):=bxQ _ hr
 have hW:=K.hW
 have h7:g*V≤W:=by omega
 have:=(Nat.le_div_iff_mul_le hV.1).2 h7
 generalize W/V=Q at *
 clear h2 h3 h4 h5 h7
 omega
theorem Kn.g4 (K:Kn V W top next Vr head u2 Wr p):head/top≤4294967296+1:=by
 have hlow:=K.low.1
 have hV:=K.arO
 have hW:=K.hW
 have hlt:=K.hlt
 have ht:=K.htop
 have h1:head<(top+1)*4294967296:=by
  have h2:V<(top+1)*(4294967296*p):=by rw[K.hV,bxN,Nat.one_mul]; omega
  have h3:V*4294967296≤(top+1)*(4294967296*p)*4294967296:=bxQ _ (Nat.le_of_lt h2)
  have h4:head*(4294967296*p)<(top+1)*4294967296*(4294967296*p):=by
   have:(top+1)*(4294967296*p)*4294967296=(top+1)*4294967296*(4294967296*p):=by rw[bxH,bxK (4294967296*p) 4294967296,← bxH]
   omega
  exact Nat.lt_of_mul_lt_mul_right h4
 have h5:head/top<4294967296+2:=by
  rw[bzF Om]
  omega
 omega
end
theorem sC:∀ (k n:Nat),dE (k+1) n=dE k n++[n/4294967296 ^ k%4294967296]
 | 0,n=>by simp[dE]
 | k+1,n=>by
  show (n%4294967296)::dE (k+1) (n/4294967296)=(n%4294967296)::dE k (n/4294967296)++[n/4294967296 ^ (k+1)%4294967296]
  rw[sC k (n/4294967296),Nat.div_div_eq_div_mul,byE,bxK 4294967296]
  rfl
theorem rK {xs:List Nat} (h:Lim xs):∀ {k:Nat},k≤xs.length→val (xs.drop k)=val xs/4294967296 ^ k:=by
 intro k hk
 have e:val xs=val (xs.take k)+4294967296 ^ k*val (xs.drop k):=by
  conv=>lhs; rw[← byX k xs,eZ,bxE,byK hk]
 have hl:=eE (h.take k)
 rw[bxE,byK hk] at hl
 rw[e,Nat.add_mul_div_left _ _ (byY (by decide)),bzS hl,bxO]
theorem SA {R s i u0 u1 X:Nat} (hs:s<32) (h:R/4294967296 ^ i=u0+4294967296*(u1+4294967296*X)):(R/2 ^ s)/4294967296 ^ i%4294967296=(4294967296*u1+u0)/2 ^ s%4294967296:=by
 rw[Nat.div_div_eq_div_mul,bxK (2 ^ s),← Nat.div_div_eq_div_mul,h]
 have hp:4294967296*4294967296=2 ^ s*(2 ^ (32-s)*4294967296):=by
  rw[← bxH,← Nat.pow_add,show s+(32-s)=32 by omega]
 have e:u0+4294967296*(u1+4294967296*X)=(4294967296*u1+u0)+2 ^ s*(2 ^ (32-s)*X*4294967296):=by
  have:4294967296*(4294967296*X)=2 ^ s*(2 ^ (32-s)*X*4294967296):=by
   rw[← bxH,hp,bxH,bxH,bxH,bxK 4294967296 X]
  rw[bwX,this]; omega
 rw[e,Nat.add_mul_div_left _ _ (byY (by decide)),Nat.add_mul_mod_self_right]
end Go.Na
namespace Go.PM
open Go Go.Na
theorem bcU {A W Z:List Nat} {i:Nat} (hi:i<W.length):(aG (A++W++Z))[A.length+i]?=some [.int .u32 ((W[i]:Nat):Int)]:=by
 have hl:A.length+i<(A++W++Z).length:=by simp; omega
 rw[bG _ hl]
 congr 4
 rw[List.getElem_append_left (by simp; omega),List.getElem_append_right Om]
 congr 1
 omega
def dF (u v:PV) (n:Nat) (q:PV) (top next j s:Nat):PF:=((((((((PF.nil.set 8 (.int .u64 s)).set 9 (u)).set 10 (v)).set 11 (.int .i64 n)).set 12 (q)).set 13 (.int .u64 top)).set 14 (.int .u64 next)).set 15 (.int .i64 j))
def dG (u v:PV) (n:Nat) (q:PV) (top next j s g r:Nat):PF:=((((((((((PF.nil.set 8 (.int .u64 s)).set 9 (u)).set 10 (v)).set 11 (.int .i64 n)).set 12 (q)).set 13 (.int .u64 top)).set 14 (.int .u64 next)).set 15 (.int .i64 j)).set 17 (.int .u64 g)).set 18 (.int .u64 r))
theorem aqK {C:Ctx} {V Wv top next Vr head u2 Wr p:Nat} (Kk:Kn V Wv top next Vr head u2 Wr p) (htop:top<4294967296) (o lu m j s:Nat) (v q:PV) (hjm:j+m+2<lu) (hlu:lu≤100000) (U:List Nat) (hU:(aG U)[j+m]?=some [.int .u32 (u2:Nat)]) (K:cI) (F:PF) (H:PH)
  (hF:(dG (.osl o 1 0 lu) v (m+2) q top next j s (head/top) (head%top)).le F) (hH:H o=some (.rows 1 (aG U)))
  (hK:∀ g r F',Wv/V≤g→g≤Wv/V+1→g≤4294967296→(dG (.osl o 1 0 lu) v (m+2) q top next j s g r).le F'→K .normal F' H) :
  aB.wp C (.block 4 (.loop rP)) K F H:=by
 have ht0:0<top:=by have:=Kk.htop; omega
 have hn:=Kk.bvL
 have hu2:=Kk.hu2
 simp only[go_sem]
 refine wp_loop (α:=Nat × Nat) (fun t=>dG (.osl o 1 0 lu) v (m+2) q top next j s t.1 t.2) (fun _=>H) (fun t=>t.1*top+t.2=head∧Wv/V≤t.1∧t.1≤4294967296+1∧t.2<4294967296) (fun t=>t.1) (head/top,head%top)
  ⟨by simp only; rw[bxK]; exact bzR head top,Kk.g0,Kk.g4,Nat.lt_trans (bxX _ ht0) htop⟩ hF PH.le_refl ?_
 rintro⟨g,r⟩ ⟨hg,hq,hgl,hr⟩
 simp only at hg hq hgl hr
 have e1:IntKind.i64.wrap ((j:Int)+((m+2:Nat):Int))=((j+(m+2):Nat):Int):=fD Om
 have e2:IntKind.i64.wrap (((j+(m+2):Nat):Int)-2)=((j+m:Nat):Int):=by rw[wrap_i64 Om Om]; omega
 have hlt:((j+m:Nat):Int)<(lu:Nat):=by omega
 have eu2:IntKind.u64.wrap ((u2:Nat):Int)=((u2:Nat):Int):=bB Om
 have esh:shift .shl .u64 (r:Int) 32=some (.int .u64 ((2 ^ 32*r:Nat):Int)):=GC (s:=32) Om Om
 have e32:(2:Nat) ^ 32=4294967296:=by decide
 have eor:=orI (a:=2 ^ 32*r) (b:=u2) (n:=2 ^ 32*r+u2) Om Om (Nat.two_pow_add_eq_or_of_lt Om r).symm Om
 rw[e32] at esh eor
 have more:(g≥4294967296∨g*next>r*4294967296+u2)→∀ F':PF,(dG (.osl o 1 0 lu) v (m+2) q top next j s g r).le F'→aB.wp C (.block 5 (.seq (.region yW) (.seq (.region yX) (.seq (.region yY) (.cond (.tmp 136) (.exit 4) .skip)))))
   (eA (fun t:Nat × Nat=>dG (.osl o 1 0 lu) v (m+2) q top next j s t.1 t.2) (fun _=>H) (fun t=>t.1*top+t.2=head∧Wv/V≤t.1∧t.1≤4294967296+1∧t.2<4294967296) (fun t=>t.1) g (dR 4 K)) F' H:=by
  intro hc F' hF'
  obtain⟨g1,g2⟩:=Kk.g1 hg hq hc
  have f8:=hF' 8 _ (by unfold dG; simp only[go_sem,γ]; rfl)
  have f9:=hF' 9 _ (by unfold dG; simp only[go_sem,γ]; rfl)
  have f10:=hF' 10 _ (by unfold dG; simp only[go_sem,γ]; rfl)
  have f11:=hF' 11 _ (by unfold dG; simp only[go_sem,γ]; rfl)
  have f12:=hF' 12 _ (by unfold dG; simp only[go_sem,γ]; rfl)
  have f13:=hF' 13 _ (by unfold dG; simp only[go_sem,γ]; rfl)
  have f14:=hF' 14 _ (by unfold dG; simp only[go_sem,γ]; rfl)
  have f15:=hF' 15 _ (by unfold dG; simp only[go_sem,γ]; rfl)
  have f17:=hF' 17 _ (by unfold dG; simp only[go_sem,γ]; rfl)
  have f18:=hF' 18 _ (by unfold dG; simp only[go_sem,γ]; rfl)
  have w1:IntKind.u64.wrap ((g:Int)-1)=((g-1:Nat):Int):=by rw[wrap_u64 Om Om]; omega
  have w2:IntKind.u64.wrap ((r:Int)+(top:Int))=((r+top:Nat):Int):=eG Om
  have hg':(g-1)*top+(r+top)=head:=by
   obtain⟨k,rfl⟩:∃ k,g=k+1:=⟨g-1,by omega⟩
   rw[bxN,Nat.one_mul] at hg
   simp only[Nat.add_sub_cancel]
   omega
  simp only[go_sem,δ,γ,yW,yX,yY,f17,f18,f13,w1,w2]
  by_cases c:r+top≥4294967296
  ·have c':((r+top:Nat):Int)≥4294967296:=by omega
   simp only[go_sem,γ,c']
   refine hK (g-1) (r+top) _ g2 (Kk.g3 hg' Om c) Om ?_
   unfold dG
   exact Lq
  ·have c':¬ ((r+top:Nat):Int)≥4294967296:=by omega
   simp only[go_sem,c']
   refine aJ (g-1,r+top) ⟨hg',g2,by simp only; omega,by simp only; omega⟩ (by simp only; omega) ?_ PH.le_refl
   unfold dG
   exact Lq
 simp only[go_sem,δ,γ,rP,RE,dG]
 by_cases c1:g≥4294967296
 ·have c1':(g:Int)≥4294967296:=by omega
  simp only[go_sem,γ,c1']
  have:=more (.inl c1)
  simp only[go_sem,δ,dG] at this
  refine this _ ?_
  exact Lq
 ·have c1':¬ (g:Int)≥4294967296:=by omega
  have hgn:g*next≤4294967295*4294967295:=Nat.mul_le_mul Om Om
  have em:IntKind.u64.wrap ((g:Int)*(next:Int))=((g*next:Nat):Int):=by
   rw[show (g:Int)*(next:Int)=((g*next:Nat):Int) by simp]
   exact bB Om
  simp only[go_sem,γ,reduceCtorEq,c1',em,esh,e1,e2,hlt,hH,hU,eu2,eor]
  by_cases c2:g*next>r*4294967296+u2
  ·have c2':((g*next:Nat):Int)>((4294967296*r+u2:Nat):Int):=by omega
   simp only[go_sem,c2']
   have:=more (.inr c2)
   simp only[go_sem,δ,dG] at this
   refine this _ ?_
   exact Lq
  ·have c2':¬ ((g*next:Nat):Int)>((4294967296*r+u2:Nat):Int):=by omega
   simp only[go_sem,c2']
   refine hK g r _ hq (Kk.g2 hg Om Om) Om ?_
   unfold dG
   exact Lq
end Go.PM
namespace Go.Na
theorem bjE {W v:List Nat} {m:Nat} (hW:Lim W) (hv:Lim v) (hlv:v.length=m+2) (hlW:W.length=m+3) (ht:2147483648≤v[m+1]) (hlt:val W<val v*4294967296) :
  Kn (val v) (val W) (v[m+1]) (v[m]) (val (v.take m)) (W[m+2]*4294967296+W[m+1]) (W[m]) (val (W.take m)) (4294967296 ^ m):=by
 have e1:val v=val (v.take m)+4294967296 ^ m*(v[m]+4294967296*v[m+1]):=by
  rw[pE v (Om:m<v.length)]
  congr 4
  have:v.drop (m+1)=[v[m+1]]:=by
   rw[byG Om,bzU Om]
  rw[this]; simp[val]
 have e2:val W=val (W.take m)+4294967296 ^ m*(W[m]+4294967296*(W[m+1]+4294967296*W[m+2])):=by
  rw[pE W (Om:m<W.length)]
  congr 4
  have:W.drop (m+1)=[W[m+1],W[m+2]]:=by
   rw[byG Om,byG Om,bzU Om]
  rw[this]; simp[val]
 have l1:=eE (hv.take m)
 have l2:=eE (hW.take m)
 rw[bxE,byK Om] at l1 l2
 refine⟨?_,?_,l1,l2,ht,hv _ (bwS _),hW _ (bwS _),hlt⟩
 ·rw[e1,bwX,bxK (4294967296 ^ m) (v[m]),← bxH (4294967296 ^ m),bxK (4294967296 ^ m*4294967296),bxK (4294967296 ^ m) 4294967296]
  omega
 ·rw[e2,bwX,bxK (4294967296 ^ m) (W[m]),← bxH (4294967296 ^ m),bxK (4294967296 ^ m*4294967296),bxK (4294967296 ^ m) 4294967296,bxK (W[m+2]),Nat.add_comm (4294967296*W[m+2])]
  omega
end Go.Na
namespace Go.PM
open Go Go.Na
structure aqR (C:Ctx):Prop where
 subtract:∀ (A W Z v:List Nat) (f o:Nat),Lim W→Lim v→W.length=v.length+1→A.length+v.length≤100000→f≤4294967296→val v*f≤val W+4294967296 ^ (v.length+1) →
  aE C 142 [.osl o 1 A.length (v.length+1),aD v,.int .u64 f] (PH.nil.set o (.rows 1 (aG (A++W++Z)))) (fun r H'=>r=.bool (decide (val W<val v*f))∧H'=PH.nil.set o (.rows 1 (aG (A++dE (v.length+1) (GI (v.length+1) (val W) (val v*f))++Z))))
 restore:∀ (A W Z v:List Nat) (o:Nat),Lim W→Lim v→W.length=v.length+1→A.length+v.length≤100000 →
  aE C 139 [.osl o 1 A.length (v.length+1),aD v] (PH.nil.set o (.rows 1 (aG (A++W++Z)))) (fun r H'=>r=.tup []∧H'=PH.nil.set o (.rows 1 (aG (A++dE (v.length+1) (val W+val v)++Z))))
theorem asT (k n:Nat):dE k (n%4294967296 ^ k)=dE k n :=
 aLS (kC _ _) (kC _ _) (by rw[jJ,jJ]) (by rw[wE,wE,Nat.mod_mod])
theorem aqJ {C:Ctx} (D:aqR C) (A W Z v Q:List Nat) (m o oq lu s:Nat) (hne:oq≠o) (hW:Lim W) (hv:Lim v) (hlv:v.length=m+2) (hlW:W.length=m+3) (ht:2147483648≤v[m+1]) (hlt:val W<val v*4294967296)
  (hlu:lu=A.length+(m+3)+Z.length) (bwE:lu≤10000) (hjq:A.length<Q.length) (K:cI) (F:PF) (H:PH) (hF:(dF (.osl o 1 0 lu) (aD v) (m+2) (.osl oq 1 0 Q.length) (v[m+1]) (v[m]) A.length s).le F)
  (hH:H o=some (.rows 1 (aG (A++W++Z)))) (hHq:H oq=some (.rows 1 (aG Q)))
  (hK:∀ F' H',(dF (.osl o 1 0 lu) (aD v) (m+2) (.osl oq 1 0 Q.length) (v[m+1]) (v[m]) A.length s).le F'→H' o=some (.rows 1 (aG (A++dE (m+3) (val W%val v)++Z)))→H' oq=some (.rows 1 (aG (Q.set A.length (val W/val v))))→K .normal F' H') :
  aB.wp C (.block 3 (.seq (.draw yU) (.seq (.draw yV) (.seq (.block 4 (.loop rP)) (.seq (.seq (.region yZ) (.cond (.tmp 146) (.seq (.region zA) (.region zB)) .skip)) (.region rQ)))))) K F H:=by
 have Kk:=bjE hW hv hlv hlW ht hlt
 have hgetU:∀ i (h:i<W.length),(aG (A++W++Z))[A.length+i]?=some [.int .u32 ((W[i]:Nat):Int)]:=fun i h=>bcU h
 have g0:=hgetU (m+2) Om
 have g1:=hgetU (m+1) Om
 have g2:=hgetU m Om
 have hq:=Kk.bgH
 have htop:v[m+1]<4294967296:=hv _ (bwS _)
 have hu0:=hW _ (bwS (Om:m+2<W.length))
 have hu1:=hW _ (bwS (Om:m+1<W.length))
 have hVpos:=Kk.arO.1
 generalize hte:v[m+1]=top at *
 generalize hnx:v[m]=next at *
 generalize hw0:W[m+2]=u0 at *
 generalize hw1:W[m+1]=u1 at *
 generalize hw2:W[m]=u2 at *
 have f8:=hF 8 _ (by unfold dF; simp only[go_sem,γ]; rfl)
 have f9:=hF 9 _ (by unfold dF; simp only[go_sem,γ]; rfl)
 have f10:=hF 10 _ (by unfold dF; simp only[go_sem,γ]; rfl)
 have f11:=hF 11 _ (by unfold dF; simp only[go_sem,γ]; rfl)
 have f12:=hF 12 _ (by unfold dF; simp only[go_sem,γ]; rfl)
 have f13:=hF 13 _ (by unfold dF; simp only[go_sem,γ]; rfl)
 have f14:=hF 14 _ (by unfold dF; simp only[go_sem,γ]; rfl)
 have f15:=hF 15 _ (by unfold dF; simp only[go_sem,γ]; rfl)
 have e1:IntKind.i64.wrap ((A.length:Int)+((m+2:Nat):Int))=((A.length+(m+2):Nat):Int):=fD Om
 have e2:IntKind.i64.wrap (((A.length+(m+2):Nat):Int)-1)=((A.length+(m+1):Nat):Int):=by rw[wrap_i64 Om Om]; omega
 have c0:((A.length+(m+2):Nat):Int)<(lu:Nat):=by omega
 have c1:((A.length+(m+1):Nat):Int)<(lu:Nat):=by omega
 have eu0:IntKind.u64.wrap ((u0:Nat):Int)=((u0:Nat):Int):=bB Om
 have eu1:IntKind.u64.wrap ((u1:Nat):Int)=((u1:Nat):Int):=bB Om
 have esh:shift .shl .u64 (u0:Int) 32=some (.int .u64 ((2 ^ 32*u0:Nat):Int)):=GC (s:=32) Om Om
 have e32:(2:Nat) ^ 32=4294967296:=by decide
 have eor:=orI (a:=2 ^ 32*u0) (b:=u1) (n:=2 ^ 32*u0+u1) Om Om (Nat.two_pow_add_eq_or_of_lt Om u0).symm Om
 rw[e32] at esh eor
 have hcm:4294967296*u0+u1=u0*4294967296+u1:=by omega
 rw[hcm] at eor
 simp only[go_sem]
 refine bM H dV PH.le_refl ?_
 simp only[go_sem,γ,reduceCtorEq,yU,f9,f15,f11,e1,e2,c0,c1,hH,g0,g1,eu0,eu1,esh,eor]
 refine bM H dV PH.le_refl ?_
 have ht0:0<top:=by omega
 have htz:¬ ((top:Nat):Int)=0:=by omega
 generalize hhd:u0*4294967296+u1=head at *
 have equo:IntKind.u64.wrap (Int.tdiv ((head:Nat):Int) ((top:Nat):Int))=((head/top:Nat):Int):=by
  rw[show Int.tdiv ((head:Nat):Int) ((top:Nat):Int)=((head/top:Nat):Int) from rfl]
  exact bB (by have:=Kk.g4; omega)
 have erem:Int.tmod ((head:Nat):Int) ((top:Nat):Int)=((head%top:Nat):Int):=rfl
 simp only[go_sem,γ,yV,f13,htz,equo,erem]
 have guess:=aqK (C:=C) Kk htop o lu m A.length s (aD v) (.osl oq 1 0 Q.length) Om Om (A++W++Z) g2
 simp only[go_sem] at guess
 refine guess _ _ H ?_ hH ?_
 ·unfold dG
  refine PF.aH (PF.aH (PF.aH (PF.aH (PF.aH (PF.aH (PF.aH (PF.aH (PF.aH (PF.aH PF.nil_le ?_) ?_) ?_) ?_) ?_) ?_) ?_) ?_) ?_) ?_<;>simp only[go_sem,γ,f8,f9,f10,f11,f12,f13,f14,f15]
 clear guess
 intro g r F' q1 q2 q3 hF'
 have h8:=hF' 8 _ (by unfold dG; simp only[go_sem,γ]; rfl)
 have h9:=hF' 9 _ (by unfold dG; simp only[go_sem,γ]; rfl)
 have h10:=hF' 10 _ (by unfold dG; simp only[go_sem,γ]; rfl)
 have h11:=hF' 11 _ (by unfold dG; simp only[go_sem,γ]; rfl)
 have h12:=hF' 12 _ (by unfold dG; simp only[go_sem,γ]; rfl)
 have h13:=hF' 13 _ (by unfold dG; simp only[go_sem,γ]; rfl)
 have h14:=hF' 14 _ (by unfold dG; simp only[go_sem,γ]; rfl)
 have h15:=hF' 15 _ (by unfold dG; simp only[go_sem,γ]; rfl)
 have h17:=hF' 17 _ (by unfold dG; simp only[go_sem,γ]; rfl)
 have e3:IntKind.i64.wrap (((A.length+(m+2):Nat):Int)+1)=((A.length+(m+3):Nat):Int):=by rw[wrap_i64 Om Om]; omega
 have c3:((A.length:Nat):Int)≤((A.length+(m+3):Nat):Int):=by omega
 have c4:((A.length+(m+3):Nat):Int)≤(lu:Nat):=by omega
 have e4:A.length+(m+3)-A.length=v.length+1:=by omega
 have hvl:v.length+1=m+3:=by omega
 have hdm:val v*(val W/val v)+val W%val v=val W:=bzR _ _
 have hWlt:=eE hW
 rw[hlW] at hWlt
 have hmodlt:val W%val v<val v:=bxX _ hVpos
 have hvlt:=eE hv
 rw[hlv] at hvlt
 have hpow:4294967296 ^ (m+3)=4294967296 ^ (m+2)*4294967296:=byE _ _
 generalize hQd:val W/val v=qd at *
 generalize hRd:val W%val v=rd at *
 have hfin:∀ (F2:PF) (H2:PH),F2 8=some (.int .u64 s)→F2 9=some (.osl o 1 0 lu)→F2 10=some (aD v)→F2 11=some (.int .i64 ((m+2:Nat):Int))→F2 12=some (.osl oq 1 0 Q.length)→F2 13=some (.int .u64 top)→F2 14=some (.int .u64 next)→F2 15=some (.int .i64 A.length)→F2 17=some (.int .u64 qd) →
   H2 o=some (.rows 1 (aG (A++dE (m+3) rd++Z)))→H2 oq=some (.rows 1 (aG Q))→aB.wp C (.region rQ) (dR 3 K) F2 H2:=by
  intro F2 H2 k8 k9 k10 k11 k12 k13 k14 k15 k17 kH kQ
  have hqr:(aG Q)[A.length]?=some [.int .u32 ((Q[A.length]:Nat):Int)]:=bG Q hjq
  have hlq:((A.length:Nat):Int)<(Q.length:Nat):=by omega
  have eq:IntKind.u32.wrap ((qd:Nat):Int)=((qd:Nat):Int):=by rw[bY,bxR hq]
  have buW:=eO Q A.length qd
  have bvO:¬ o=oq:=fun h=>hne h.symm
  simp only[go_sem,γ,rQ,k12,k15,k17,eq,hlq,kQ,hqr,buW]
  refine hK _ _ ?_ (by simp only[go_sem,bvO,kH]) Sq
  unfold dF
  refine PF.aH (PF.aH (PF.aH (PF.aH (PF.aH (PF.aH (PF.aH (PF.aH PF.nil_le ?_) ?_) ?_) ?_) ?_) ?_) ?_) ?_<;>simp only[go_sem,γ,k8,k9,k10,k11,k12,k13,k14,k15]
 have hle:(PH.nil.set o (.rows 1 (aG (A++W++Z)))).le H:=PH.aH PH.nil_le hH
 have bvY:val v*g≤val W+4294967296 ^ (v.length+1):=by
  have:val v*g≤val v*(qd+1):=byM _ q2
  rw[bwX,Nat.mul_one] at this
  rw[hvl,hpow]; omega
 simp only[go_sem,γ,reduceCtorEq,yZ,h9,h15,h11,e1,e3,c3,c4,e4,h10,h17]
 refine fA (D.subtract A W Z v g o hW hv Om Om q3 bvY) rfl hle ?_
 rintro rr H' ⟨rfl,rfl⟩ -
 rw[PH.kP]
 by_cases hgq:g=qd
 ·subst hgq
  have hneg:¬ val W<val v*g:=by omega
  have hN:GI (v.length+1) (val W) (val v*g)=rd:=by unfold GI; rw[if_neg hneg]; omega
  rw[hN,hvl]
  simp only[go_sem,γ,hneg]
  have:=hfin
  simp only[go_sem] at this
  refine this _ _ ?_ ?_ ?_ ?_ ?_ ?_ ?_ ?_ ?_ ?_ ?_<;>simp only[go_sem,γ,h8,h9,h10,h11,h12,h13,h14,h15,h17,hne,hHq]
 ·have hg1:g=qd+1:=by omega
  subst hg1
  rw[bwX,Nat.mul_one]
  have hneg:val W<val v*qd+val v:=by omega
  have hN:GI (v.length+1) (val W) (val v*qd+val v)=rd+4294967296 ^ (m+3)-val v:=by unfold GI; rw[if_pos hneg,hvl]; omega
  rw[hN]
  have w1:IntKind.u64.wrap (((qd+1:Nat):Int)-1)=((qd:Nat):Int):=by rw[wrap_u64 Om Om]; omega
  simp only[go_sem,γ,reduceCtorEq,hneg,zA,h17,w1,zB,h9,h15,h11,e1,e3,c3,c4,e4,h10]
  have hD':val (dE (v.length+1) (rd+4294967296 ^ (m+3)-val v))=rd+4294967296 ^ (m+3)-val v:=lL (by rw[hvl]; omega)
  refine fA (D.restore A (dE (v.length+1) (rd+4294967296 ^ (m+3)-val v)) Z v o (kC _ _) hv (jJ _ _) Om) rfl (PH.aH PH.nil_le Sq) ?_
  rintro rr H' ⟨rfl,rfl⟩ -
  rw[PH.kP,PH.set_set,hD']
  have hfinal:dE (v.length+1) (rd+4294967296 ^ (m+3)-val v+val v)=dE (m+3) rd:=by
   rw[hvl,← asT (m+3) (rd+4294967296 ^ (m+3)-val v+val v)]
   rw[show rd+4294967296 ^ (m+3)-val v+val v=rd+4294967296 ^ (m+3) by omega,Nat.add_mod_right,asT]
  rw[hfinal]
  simp only[go_sem]
  have:=hfin
  simp only[go_sem] at this
  refine this _ _ ?_ ?_ ?_ ?_ ?_ ?_ ?_ ?_ ?_ ?_ ?_<;>simp only[go_sem,γ,h8,h9,h10,h11,h12,h13,h14,h15,hne,hHq]
open Go
section
variable {C:Ctx} {K:cI} {F:PF} {H Hs:PH} {S:Spec}
theorem aIS {name:Nat} {vs:List PV} {R:PV→PH→Prop} {args:List aO} {st:Bool} {d:Option Nat} {K:PF→PH→Prop} (hS:S name vs=some ([],fun _=>R)) (h:aE C name vs .nil R) (ha:aO.evs F args=some vs)
  (hex:∀ G:PH,∃ r H',R r H'∧kG G .nil H') (hk:∀ r H',R r H'→kG H .nil H'→Hs.le (H.eM .nil H')∧K (F.put d r) (H.eM .nil H')):dOp C Hs S st (.call name args) d K F H:=by
 refine⟨vs,[],fun _=>R,ha,hS,fun o ho=>by simp at ho,by rw[FK]; exact h,fun G=>?_,fun r H' hr ha=>?_⟩
 ·obtain⟨r,H',h1,h2⟩:=hex G
  exact⟨r,H',h1,fun o x hx hn=>h2 o x hx (by simp[PH.nil])⟩
 ·rw[FK] at ha ⊢
  exact hk r H' hr ha
theorem PH.amJ (H0:PH) (h:H0.le H):H.eM H0 H0=H:=PH.ext fun q=>by
 rw[lK]
 cases e:H0 q with
 | none=>rfl
 | some x=>exact (h q x e).symm
theorem aAS {o:Nat} {x:cM} (h:H o=some x):H.only [o]=PH.nil.set o x:=PH.ext fun q=>by
 rw[oZ,bL]
 by_cases e:q=o
 ·subst e; simp[h]
 ·simp[e,agY]
theorem TH {name o:Nat} {x:cM} {vs:List PV} {v:PV} {R:PH→PV→PH→Prop} {args:List aO} {st:Bool} {d:Option Nat} {K:PF→PH→Prop} (hS:S name vs=some ([o],R)) (ho:H o=some x)
  (h:aE C name vs (PH.nil.set o x) (fun r H'=>r=v∧H'=PH.nil.set o x)) (hR1:R (PH.nil.set o x) v (PH.nil.set o x)) (hR2:∀ r H',R (PH.nil.set o x) r H'→r=v∧H'=PH.nil.set o x) (ha:aO.evs F args=some vs) (hle:Hs.le H) (hk:K (F.put d v) H) :
  dOp C Hs S st (.call name args) d K F H:=by
 have e:=aAS ho
 refine⟨vs,[o],_,ha,hS,fun q hq=>?_,?_,fun G=>⟨v,_,by rw[e]; exact hR1,fun q y hy hn=>?_⟩,fun r H' hr _=>?_⟩
 ·simp at hq; subst hq; exact⟨x,ho⟩
 ·rw[e]
  exact h.post fun r H' hr=>⟨r,.refl _,by rw[hr.1,hr.2]; exact hR1⟩
 ·rw[e] at hn; rw[hy] at hn; cases hn
 ·rw[e] at hr
  obtain⟨rfl,rfl⟩:=hR2 r H' hr
  rw[e,PH.amJ _ (by rw[← e]; exact ahY H [o])]
  exact⟨hle,hk⟩
theorem aIH {c:aB} {α:Type} (Fs:α→PF) (Hs:α→PH) (Pr:α→Prop) (m:α→Nat) (a0:α) (o:Nat) {s:Nat} {rs:List (List PV)} (ho:H o=some (.rows s rs)) (h0:Pr a0) (hF:(Fs a0).le (F.frz o s rs)) (hH:(Hs a0).le (H.frz o s rs))
  (hb:∀ a,Pr a→c.wp C (eA Fs Hs Pr m (m a) K) (Fs a) (Hs a)):aB.wp C (.loop c) K F H :=
 ⟨α,Fs,Hs,Pr,m,a0,_,_,.step o ho (.refl _ _),h0,hF,hH,hb⟩
@[go_sem] theorem PP (o s:Nat) (rs:List (List PV)) (q:Nat):(H.frz o s rs) q=if q=o then none else (H q).map (cM.frz o s rs):=(rfl)
theorem a0Q {t u o1 o2 s1 s2 k1 k2:Nat} {rs1 rs2:List (List PV)} {R:PV→PH→Prop} {e:lS} (he:e=.normal∨e=.ret) (hne:o1≠o2) (h1:F t=some (.osl o1 s1 0 k1)) (h2:F u=some (.osl o2 s2 0 k2)) (ho1:H o1=some (.rows s1 rs1)) (ho2:H o2=some (.rows s2 rs2))
  (hk1:k1≤rs1.length) (hk2:k2≤rs2.length) (hp2:rs2.map (fun r=>r.map (PV.dX o1 s1 rs1))=rs2) (hp1:(rs1.take k1)=rs1.take k1) (hR:R (.tup [.sl s1 (rs1.take k1),.sl s2 (rs2.take k2)]) .nil):aS [.tmp t,.tmp u] R e F H:=by
 have key:∃ vs,dQ.evs F H [.tmp t,.tmp u]=some vs∧∃ F1 H1 H2,iD (PF.nil.set 0 (aT vs)) H F1 H1∧H2.le H1∧∃ w,F1 0=some w∧R w H2:=by
  have bvO:o2≠o1:=fun h=>hne h.symm
  have e2:(H.frz o1 s1 rs1) o2=some (.rows s2 rs2):=by rw[PP,if_neg bvO,ho2]; simp only[bxS,cM.frz,hp2]
  refine⟨[.osl o1 s1 0 k1,.osl o2 s2 0 k2],by rw[kF,nG,h1,kF,nG,h2,pC],_,_,.nil,.step o1 ho1 (.step o2 e2 (.refl _ _)),PH.nil_le,_,?_,hR⟩
  have a1:0+k1≤rs1.length:=by omega
  have a2:0+k2≤rs2.length:=by omega
  simp only[PF.frz,mN,if_true,aT,bxS,PV.frz,PV.qT,PV.dX,bzB,List.map_nil,true_and,if_pos a1,if_pos a2,bxP,if_neg bvO]
 rcases he with rfl | rfl<;>exact key
end
end Go.PM
namespace Go.Na
structure mE (U0 V n lu lq:Nat) (k:Nat) (U Q:List Nat):Prop where
 lu':U.length=lu
 lq':Q.length=lq
 limU:Lim U
 limQ:Lim Q
 v:val U+val Q*V=U0
 r:val (U.drop k)<V
 z:∀ i x,i<k→Q[i]?=some x→x=0
theorem asU {U0 V n lu lq j:Nat} {U Q:List Nat} (h:mE U0 V n lu lq (j+1) U Q) (hV:V<4294967296 ^ n) (hj:j<lq) (hl:lu=lq+n) :
  val ((U.drop j).take (n+1))<V*4294967296∧mE U0 V n lu lq j (U.take j++dE (n+1) (val ((U.drop j).take (n+1))%V)++U.drop (j+(n+1))) (Q.set j (val ((U.drop j).take (n+1))/V)):=by
 have hlu:=h.lu'
 have hlq:=h.lq'
 have hVpos:0<V:=by have:=h.r; omega
 have hju:j<U.length:=by omega
 have e1:val (U.drop j)=U[j]+4294967296*val (U.drop (j+1)):=by rw[byG hju]; rfl
 have hUj:=h.limU _ (bwS hju)
 have hlt:val (U.drop j)<V*4294967296:=by have:=h.r; omega
 have hlW:((U.drop j).take (n+1)).length=n+1:=by rw[bxE,byI]; omega
 have e2:val (U.drop j)=val ((U.drop j).take (n+1))+4294967296 ^ (n+1)*val (U.drop (j+(n+1))):=by
  conv=>lhs; rw[← byX (n+1) (U.drop j),eZ,hlW,List.drop_drop]
 have hpow:4294967296 ^ (n+1)=4294967296 ^ n*4294967296:=byE _ _
 have hVB:V*4294967296≤4294967296 ^ n*4294967296:=bxQ _ (Nat.le_of_lt hV)
 have hZ:val (U.drop (j+(n+1)))=0:=by
  rcases bzK (val (U.drop (j+(n+1)))) with h0 | h0
  ·exact h0
  ·have:=byM (4294967296 ^ (n+1)) h0
   omega
 rw[hZ,Nat.mul_zero,byB] at e2
 generalize hW:val ((U.drop j).take (n+1))=W at *
 have e3:val U=val (U.take j)+4294967296 ^ j*W:=by
  conv=>lhs; rw[← byX j U,eZ,bxE,byK Om,e2]
 have hmod:W%V<V:=bxX _ hVpos
 have hdm:V*(W/V)+W%V=W:=bzR _ _
 have hqB:W/V<4294967296:=by rw[bzF hVpos,bxK]; omega
 have hD:val (dE (n+1) (W%V))=W%V:=lL Om
 have hQj:Q[j]=0:=h.z j _ Om (bxA Om)
 have bwG:=BU (Om:j<Q.length) (W/V)
 rw[hQj,Nat.mul_zero,byB] at bwG
 have buP:(U.take j).length=j:=by rw[bxE]; omega
 refine⟨by omega,?_,?_,?_,?_,?_,?_,?_⟩
 ·simp only[bwW,jJ,byI,bxE]; omega
 ·rw[byR]; exact hlq
 ·exact ((h.limU.take j).app (kC _ _)).app (h.limU.drop _)
 ·exact h.limQ.set _ hqB
 ·rw[bxU,eZ,eZ,buP,hD,jJ,hZ,Nat.mul_zero,byB,bwG]
  have:=h.v
  have h5:(val Q+4294967296 ^ j*(W/V))*V=val Q*V+4294967296 ^ j*(V*(W/V)):=by
   rw[bxN,bxH,bxK (W/V) V]
  have h6:4294967296 ^ j*W=4294967296 ^ j*(V*(W/V))+4294967296 ^ j*(W%V):=by rw[← bwX,hdm]
  omega
 ·rw[bxU,List.drop_append_of_le_length Om,bzU Om,byW,eZ,hD,hZ,Nat.mul_zero,byB]
  exact hmod
 ·intro i x hi hx
  rw[List.getElem?_set_ne Om] at hx
  exact h.z i x Om hx
end Go.Na
namespace Go.PM
open Go Go.Na
def dI (u v:PV) (n:Nat) (q:PV) (top next s:Nat) (j:Int):PF:=((((((((PF.nil.set 8 (.int .u64 s)).set 9 (u)).set 10 (v)).set 11 (.int .i64 n)).set 12 (q)).set 13 (.int .u64 top)).set 14 (.int .u64 next)).set 15 (.int .i64 j))
theorem oW (o s:Nat) (rs:List (List PV)) (L:List Nat):(aG L).map (fun r=>r.map (PV.dX o s rs))=aG L:=by
 unfold aG
 rw[List.map_map]
 rfl
theorem azN {C:Ctx} (D:aqR C) (U0 m lu lq o o2 oq s:Nat) (v vfull:List Nat) (h2:o2≠o) (h3:oq≠o) (h4:oq≠o2) (hv:Lim v) (hlv:v.length=m+2) (hvf:(aG vfull).take (m+2)=aG v) (hvl:m+2≤vfull.length) (ht:2147483648≤v[m+1])
  (hlu:lu=lq+(m+2)) (bwE:lu≤10000) (U:List Nat) (hI:mE U0 (val v) (m+2) lu lq lq U (bwP lq 0)) (K:cI) (F:PF) (H:PH)
  (hF:(dI (.osl o 1 0 lu) (.osl o2 1 0 (m+2)) (m+2) (.osl oq 1 0 lq) (v[m+1]) (v[m]) s ((lq:Int)-1)).le F) (hH:H o=some (.rows 1 (aG U))) (hHv:H o2=some (.rows 1 (aG vfull))) (hHq:H oq=some (.rows 1 (aG (bwP lq 0))))
  (hK:∀ U' Q' F',mE U0 (val v) (m+2) lu lq 0 U' Q'→(dI (.osl o 1 0 lu) (aD v) (m+2) (.osl oq 1 0 lq) (v[m+1]) (v[m]) s (-1)).le F'→K .normal F' ((PH.nil.set o (.rows 1 (aG U'))).set oq (.rows 1 (aG Q')))) :
  aB.wp C (.block 2 (.loop yS)) K F H:=by
 have f8:=hF 8 _ (by unfold dI; simp only[go_sem,γ]; rfl)
 have f9:=hF 9 _ (by unfold dI; simp only[go_sem,γ]; rfl)
 have f10:=hF 10 _ (by unfold dI; simp only[go_sem,γ]; rfl)
 have f11:=hF 11 _ (by unfold dI; simp only[go_sem,γ]; rfl)
 have f12:=hF 12 _ (by unfold dI; simp only[go_sem,γ]; rfl)
 have f13:=hF 13 _ (by unfold dI; simp only[go_sem,γ]; rfl)
 have f14:=hF 14 _ (by unfold dI; simp only[go_sem,γ]; rfl)
 have f15:=hF 15 _ (by unfold dI; simp only[go_sem,γ]; rfl)
 have hne2:¬ o=o2:=fun h=>h2 h.symm
 have hne4:¬ oq=o2:=h4
 have hne3:¬ o=oq:=fun h=>h3 h.symm
 have hfi:∀ (k:IntKind) (n:Int),PV.frz o2 1 (aG vfull) (.int k n)=.int k n:=fun _ _=>rfl
 have hfu:∀ l,PV.frz o2 1 (aG vfull) (.osl o 1 0 l)=.osl o 1 0 l:=fun l=>by simp only[PV.frz,PV.qT,PV.dX,if_neg hne2]
 have hfq:∀ l,PV.frz o2 1 (aG vfull) (.osl oq 1 0 l)=.osl oq 1 0 l:=fun l=>by simp only[PV.frz,PV.qT,PV.dX,if_neg hne4]
 have hfv:PV.frz o2 1 (aG vfull) (.osl o2 1 0 (m+2))=aD v:=by
  have:0+(m+2)≤(aG vfull).length:=by rw[bO]; omega
  simp only[PV.frz,PV.qT,PV.dX,if_true,true_and,if_pos this,bxP,hvf]
 simp only[go_sem]
 refine aIH (α:=Nat × List Nat × List Nat) (fun t=>dI (.osl o 1 0 lu) (aD v) (m+2) (.osl oq 1 0 lq) (v[m+1]) (v[m]) s ((t.1:Int)-1)) (fun t=>(PH.nil.set o (.rows 1 (aG t.2.1))).set oq (.rows 1 (aG t.2.2)))
  (fun t=>t.1≤lq∧mE U0 (val v) (m+2) lu lq t.1 t.2.1 t.2.2) (fun t=>t.1) (lq,U,bwP lq 0) o2 hHv ⟨bwR _,hI⟩ ?_ ?_ ?_
 ·unfold dI
  refine PF.aH (PF.aH (PF.aH (PF.aH (PF.aH (PF.aH (PF.aH (PF.aH PF.nil_le ?_) ?_) ?_) ?_) ?_) ?_) ?_) ?_<;>simp only[go_sem,f8,f9,f10,f11,f12,f13,f14,f15,hfi,hfu,hfq,hfv]
 ·refine PH.aH (PH.aH PH.nil_le ?_) ?_
  ·simp only[go_sem,hne2,hH,cM.frz,oW]
  ·simp only[go_sem,hne4,hHq,cM.frz,oW]
 rintro⟨k,U,Q⟩ ⟨hk,hI⟩
 simp only at hk hI
 simp only[go_sem,γ,yS,RD,dI]
 by_cases h0:0<k
 ·obtain⟨j,rfl⟩:∃ j,k=j+1:=⟨k-1,by omega⟩
  have hz:((j+1:Nat):Int)-1=(j:Int):=by omega
  have hge:(j:Int)≥0:=by omega
  have hVlt:val v<4294967296 ^ (m+2):=by have:=eE hv; rw[hlv] at this; exact this
  obtain⟨hlt,hI'⟩:=asU hI hVlt Om hlu
  have hUl:=hI.lu'
  have hQl:=hI.lq'
  have hA:(U.take j).length=j:=by rw[bxE]; omega
  have hWl:((U.drop j).take (m+3)).length=m+3:=by rw[bxE,byI]; omega
  have hsplit:U.take j++(U.drop j).take (m+3)++U.drop (j+(m+3))=U:=by
   rw[bxU,← List.drop_drop,byX,byX]
  have hZl:(U.drop (j+(m+3))).length=lu-(j+(m+3)):=by rw[byI,hUl]
  have key:=aqJ (C:=C) D (U.take j) ((U.drop j).take (m+3)) (U.drop (j+(m+3))) v Q m o oq lu s h3 ((hI.limU.drop _).take _) hv hlv hWl ht hlt (by rw[hA,hZl]; omega) bwE (by rw[hA]; omega)
  rw[hA,hsplit,hQl] at key
  have e15:IntKind.i64.wrap ((j:Int)-1)=(j:Int)-1:=wrap_i64 Om Om
  simp only[go_sem,hz,hge]
  simp only[go_sem] at key
  refine key _ _ _ ?_ (by simp only[go_sem,hne3]) Sq ?_
  ·unfold dF
   exact Lq
  ·intro F' H' hF' hH' hHq'
   have g8:=hF' 8 _ (by unfold dF; simp only[go_sem,γ]; rfl)
   have g9:=hF' 9 _ (by unfold dF; simp only[go_sem,γ]; rfl)
   have g10:=hF' 10 _ (by unfold dF; simp only[go_sem,γ]; rfl)
   have g11:=hF' 11 _ (by unfold dF; simp only[go_sem,γ]; rfl)
   have g12:=hF' 12 _ (by unfold dF; simp only[go_sem,γ]; rfl)
   have g13:=hF' 13 _ (by unfold dF; simp only[go_sem,γ]; rfl)
   have g14:=hF' 14 _ (by unfold dF; simp only[go_sem,γ]; rfl)
   have g15:=hF' 15 _ (by unfold dF; simp only[go_sem,γ]; rfl)
   simp only[go_sem,γ,RG,g15,e15]
   refine aJ (j,_,_) ⟨by simp only; omega,hI'⟩ (by simp only; omega) ?_ (PH.aH (PH.aH PH.nil_le hH') hHq')
   refine PF.aH (PF.aH (PF.aH (PF.aH (PF.aH (PF.aH (PF.aH (PF.aH PF.nil_le ?_) ?_) ?_) ?_) ?_) ?_) ?_) ?_<;>simp only[go_sem,γ,g8,g9,g10,g11,g12,g13,g14]
 ·have:k=0:=by omega
  subst this
  have hz:¬ ((0:Nat):Int)-1≥0:=by decide
  simp only[go_sem,hz]
  refine hK U Q _ hI ?_
  unfold dI
  (repeat' (first|exact PF.nil_le|refine PF.aH ?_ ?_))<;>first|(simp only[go_sem,ο,γ,show ((0:Nat):Int)-1=-1 from rfl]<;>rfl)|rfl
open Go Go.Na
def rFr (o lu oq lq or n s i:Nat):PF:=((((((PF.nil.set 8 (.int .u64 s)).set 9 (.osl o 1 0 lu)).set 12 (.osl oq 1 0 lq)).set 19 (.osl or 1 0 n)).set 166 (.int .i64 n)).set 167 (.int .i64 i))
theorem bgT {x s:Nat} (hs:s≤64):shift .shr .u64 (x:Int) (s:Int)=some (.int .u64 ((x/2 ^ s:Nat):Int)):=by
 unfold shift
 rw[if_neg Om]
 simp only
 have:min (Int.toNat (s:Int)) IntKind.u64.bits=s:=by
  rw[show IntKind.u64.bits=64 from rfl]; omega
 rw[this,Int.fdiv_eq_ediv_of_nonneg _ (by exact_mod_cast bwZ _)]
 norm_cast
theorem azO {C:Ctx} (o lu oq lq n s:Nat) (U Q:List Nat) (hs:s<32) (h3:oq≠o) (hU:Lim U) (hl:U.length=lu) (hn:n<lu) (bwE:lu≤10000) (K:cI) (F:PF)
  (f8:F 8=some (.int .u64 s)) (f9:F 9=some (.osl o 1 0 lu)) (f11:F 11=some (.int .i64 n)) (f12:F 12=some (.osl oq 1 0 lq))
  (hK:∀ or F' H',or≠o→or≠oq→(rFr o lu oq lq or n s n).le F'→H' oq=some (.rows 1 (aG Q))→H' or=some (.rows 1 (aG (dE n (val U/2 ^ s))))→K .normal F' H') :
  aB.wp C (.seq (.region zC) (.seq (.region zD) (.block 6 (.loop yT)))) K F ((PH.nil.set o (.rows 1 (aG U))).set oq (.rows 1 (aG Q))):=by
 have hm1:((n:Nat):Int)*((4:Nat):Int)≤140737488355328:=by omega
 have hm2:((n:Nat):Int)≤9223372036854775807:=by omega
 have hz:bwP n [PV.int .u32 0]=aG ([]++bwP n 0):=by
  simp[aG]
 simp only[go_sem,zC,f11,hm1,hm2,hz]
 refine aP fun or hor=>?_
 have n1:¬ or=oq:=(cS.1 hor).1
 have n2:¬ or=o:=(cS.1 (cS.1 hor).2).1
 have n1':¬ oq=or:=fun h=>n1 h.symm
 have n2':¬ o=or:=fun h=>n2 h.symm
 have n3:¬ oq=o:=h3
 have n3':¬ o=oq:=fun h=>n3 h.symm
 simp only[go_sem,γ,zD]
 refine wp_loop (α:=List Nat) (fun P=>rFr o lu oq lq or n s P.length) (fun P=>((PH.nil.set o (.rows 1 (aG U))).set oq (.rows 1 (aG Q))).set or (.rows 1 (aG (P++bwP (n-P.length) 0)))) (fun P=>P.length≤n∧P=dE P.length (val U/2 ^ s)) (fun P=>n-P.length) []
  ⟨by simp,rfl⟩ ?_ ?_ ?_
 ·unfold rFr
  exact Lq
 ·refine PH.aH (PH.aH (PH.aH PH.nil_le ?_) ?_) ?_<;>simp only[go_sem,n1,n1',n2,n2',n3,n3',byV]
 rintro P ⟨hP,hD⟩
 simp only[go_sem,γ,yT,RH,rFr]
 by_cases c1:P.length<n
 ·have c1':(P.length:Int)<(n:Nat):=by omega
  obtain⟨k,hk⟩:∃ k,n-P.length=k+1:=⟨n-P.length-1,by omega⟩
  have hin:(aG (P++bwP (k+1) 0))[P.length]?=some [.int .u32 ((0:Nat):Int)]:=by
   rw[bG _ (by simp)]; simp
  have a0:P.length<U.length:=by omega
  have a1:P.length+1<U.length:=by omega
  have b0:(P.length:Int)<(lu:Nat):=by omega
  have b1:((P.length+1:Nat):Int)<(lu:Nat):=by omega
  have hu0:=hU _ (bwS a0)
  have hu1:=hU _ (bwS a1)
  have e:val U/4294967296 ^ P.length=U[P.length]+4294967296*(U[P.length+1]+4294967296*val (U.drop (P.length+2))):=by
   rw[← rK hU Om,byG a0,byG a1]
   rfl
  have hdig:=SA hs e
  have g0:=bG U a0
  have g1:=bG U a1
  generalize hx0:U[P.length]=u0 at *
  generalize hx1:U[P.length+1]=u1 at *
  have e1:IntKind.i64.wrap ((P.length:Int)+1)=((P.length+1:Nat):Int):=cY Om
  have eu0:IntKind.u64.wrap ((u0:Nat):Int)=((u0:Nat):Int):=bB Om
  have eu1:IntKind.u64.wrap ((u1:Nat):Int)=((u1:Nat):Int):=bB Om
  have esh:shift .shl .u64 (u1:Int) 32=some (.int .u64 ((2 ^ 32*u1:Nat):Int)):=GC (s:=32) Om Om
  have e32:(2:Nat) ^ 32=4294967296:=by decide
  have eor:=orI (a:=2 ^ 32*u1) (b:=u0) (n:=2 ^ 32*u1+u0) Om Om (Nat.two_pow_add_eq_or_of_lt Om u1).symm Om
  rw[e32] at esh eor
  have eshr:=bgT (x:=4294967296*u1+u0) (s:=s) Om
  have buW:(aG (P++bwP (k+1) 0)).set P.length [.int .u32 (((4294967296*u1+u0)/2 ^ s%4294967296:Nat):Int)]=aG ((P++[(4294967296*u1+u0)/2 ^ s%4294967296])++bwP k 0):=by
   rw[eO,uR]
  simp only[go_sem,γ,c1',RI]
  refine bM .nil dV PH.nil_le ?_
  simp only[go_sem,γ,reduceCtorEq,RJ,c1',e1,b0,b1,n2',n3',g0,g1,eu0,eu1,esh,eor,eshr,bY,hk,hin,buW]
  refine⟨PH.nil_le,?_⟩
  simp only[go_sem,γ,RK,e1]
  refine aJ (P++[(4294967296*u1+u0)/2 ^ s%4294967296]) ⟨by simp; omega,?_⟩ (by simp; omega) ?_ (PH.aH (PH.aH (PH.aH PH.nil_le ?_) ?_) ?_)
  ·rw[bwW,bxD,sC,← hD,hdig]
  ·rw[bwW,bxD]
   exact Lq
  ·simp only[go_sem,n2',n3']
  ·simp only[go_sem,n1']
  ·rw[bwW,bxD,show n-(P.length+1)=k by omega]
   simp only[go_sem]
 ·have e:P.length=n:=by omega
  have c1':¬ (P.length:Int)<(n:Nat):=by omega
  have bwI:bwP (n-P.length) 0=[]:=by rw[show n-P.length=0 by omega]; rfl
  rw[e] at hD
  simp only[go_sem,c1',bwI,byU]
  refine hK or _ _ n2 n1 ?_ (by simp only[go_sem,n1']) (by simp only[go_sem]; rw[← hD])
  unfold rFr
  rw[e]
  exact Lq
structure arG (C:Ctx):Prop where
 L:oC C
 D:aqR C
 up:∀ (a:List Nat) (s:Nat),Lim a→s<32→a.length≤1000→aE C 143 [aD a,.int .u64 s] .nil (upR a s)
 short:∀ (a:List Nat) (d:Nat),Lim a→0<d→d<4294967296→a.length≤1000→aE C 140 [aD a,.int .u32 d] .nil (aC (.tup [aD (aF (val a/d)),.int .u32 ((val a%d:Nat):Int)]))
 lengthO:∀ (xs:List Nat) (o:Nat),Lim xs→xs.length≤35184372087808→aE C 138 [.osl o 1 0 xs.length] (PH.nil.set o (.rows 1 (aG xs))) (fun r H'=>r=.int .i64 (nl (val xs):Nat)∧H'=PH.nil.set o (.rows 1 (aG xs)))
def a3O:Spec:=fun name vs=>match name,vs with
 | 143,[x,.int _ s]=>some ([],fun _=>upR (gG x) s.toNat)
 | 138,[.osl q _ _ _]=>some ([q],fun H0 r H'=>H'=H0∧∀ xs,Lim xs→H0 q=some (.rows 1 (aG xs))→r=.int .i64 (nl (val xs):Nat))
 | _,_=>none
theorem aIZ (a:List Nat) (s:Nat):a3O 143 [aD a,.int .u64 s]=some ([],fun _=>upR a s):=by
 show some _=_; rw[dP,bzO]
theorem aFB (a:List Nat) (s:Nat):∀ G:PH,∃ r H',upR a s r H'∧kG G .nil H':=fun G=>by
 obtain⟨o,ho⟩:=G.fresh
 refine⟨_,_,⟨o,rfl,rfl⟩,fun q x hx _=>?_⟩
 rw[bL] at hx
 split at hx
 ·rename_i e; subst e; exact ho
 ·cases hx
theorem LD {xs ys:List Nat} (h:aG xs=aG ys):xs=ys:=by
 have:=congrArg gG (show aD xs=aD ys by show PV.sl 1 (aG xs)=PV.sl 1 (aG ys); rw[h])
 rwa [dP,dP] at this
theorem anF (q:Nat) (L:List Nat):(PH.nil.set q (.rows 1 (aG L)))=(PH.nil.set q (.rows 1 (aG L)))∧∀ xs,Lim xs→(PH.nil.set q (.rows 1 (aG L))) q=some (.rows 1 (aG xs))→(PV.int .i64 (nl (val L):Nat))=.int .i64 (nl (val xs):Nat):=by
 refine⟨rfl,fun xs hx e=>?_⟩
 rw[fJ] at e
 have:aG L=aG xs:=(cM.rows.inj (byZ.inj e)).2
 rw[LD this]
def nM (A B:Nat):PV:=.tup [aD (aF (A/B)),aD (aF (A%B))]
def aUV (a b:List Nat) (s:Nat):PF:=(((PF.nil.set 0 (aD a)).set 1 (aD b)).set 8 (.int .u64 s))
theorem bcW {x s:Nat} (hs:s≤31) (h:x*2 ^ s<4294967296):shift .shl .u32 (x:Int) (s:Int)=some (.int .u32 ((x*2 ^ s:Nat):Int)):=by
 unfold shift
 rw[if_neg Om]
 simp only
 have:min (Int.toNat (s:Int)) IntKind.u32.bits=s:=by
  rw[show IntKind.u32.bits=32 from rfl]; omega
 rw[this,show (x:Int)*2 ^ s=((x*2 ^ s:Nat):Int) by simp,bY,bxR h]
theorem aGT {n i x:Nat} (hx:(bwP n 0)[i]?=some x):x=0:=by
 have:=bzC hx
 rw[List.mem_replicate] at this
 exact this.2
theorem aUX {C:Ctx} (Lb:arG C) (A B:Nat) (hB:B≠0) (hA:nl A≤900) (hBl:nl B≤900) :
  vO.wp C (aS BH.res (bV (nM A B))) (PF.args [aD (aF A),aD (aF B)]) .nil:=by
 have LA:=aR A
 have LB:=aR B
 have vA:=aQ A
 have vB:=aQ B
 have lA:(aF A).length=nl A:=rfl
 have lB:(aF B).length=nl B:=rfl
 simp only[go_sem,γ,reduceCtorEq,vO,aaU,aaV,BH]
 refine aA (Lb.L.cmp _ _ LA LB Om Om) rfl ?_
 rw[vA,vB]
 by_cases c1:A<B
 ·have hc:cW A B<0:=by simp[cW,c1]
  simp only[go_sem,γ,reduceCtorEq,hc,aaW]
  refine aA (Lb.L.trim _ LA Om) rfl ?_
  rw[vA]
  simp only[go_sem,γ]
  refine aU (vs:=[.buJ,aD (aF A)]) (.inr rfl) .nil rfl PH.nil_le ⟨?_,rfl⟩
  rw[nM,bzS c1,bxR c1,eQ]
  refine .tup rfl fun j p q hp hq=>?_
  match j with
  | 0=>simp at hp hq; subst hp; subst hq; exact .nil 1
  | 1=>simp at hp hq; subst hp; subst hq; exact .refl _
  | j+2=>simp at hp
 have hc:¬ cW A B<0:=by
  unfold cW
  rw[if_neg c1]
  split<;>decide
 have hB0:0<B:=byN hB
 have hnB:nl B≠0:=fun h=>hB (fT.1 h)
 simp only[go_sem,γ,hc,aaX]
 by_cases c2:nl B=1
 ·have hBB:B<4294967296:=by have:=(fY B 1).1 Om; simpa using this
  have hlb:aF B=[B]:=lI hB hBB
  have hr:A%B<B:=bxX _ hB0
  have ew:IntKind.u64.wrap ((A%B:Nat):Int)=((A%B:Nat):Int):=bB Om
  rw[hlb]
  have hsh:=Lb.short (aF A) B LA hB0 hBB Om
  rw[vA] at hsh
  simp only[go_sem,ν,γ,reduceCtorEq,show (((1:Nat):Int)==1)=true from rfl,aaY]
  refine aA hsh rfl ?_
  simp only[go_sem,γ,aaZ,ew]
  refine aA (Lb.L.make (A%B) Om) rfl ?_
  simp only[go_sem,γ]
  exact aU (vs:=[aD (aF (A/B)),aD (aF (A%B))]) (.inr rfl) .nil rfl PH.nil_le ⟨.refl _,rfl⟩
 obtain⟨m,hm⟩:∃ m,nl B=m+2:=⟨nl B-2,by omega⟩
 have hAB:nl B≤nl A:=eU Om
 obtain⟨bt,hbt,hbt0⟩:=aDV LB (n:=m+1) (by rw[vB]; exact hm)
 have hml:m+1<(aF B).length:=by omega
 have hbtl:bt<4294967296:=LB bt (bzC hbt)
 have hBv:B=val ((aF B).take (m+1))+4294967296 ^ (m+1)*bt:=by
  have h1:=bS (aF B) hml
  rw[bxC Om,vB] at h1
  rw[bxA hml] at hbt
  rw[byZ.inj hbt] at h1
  exact h1
 have hBlow:=eE (LB.take (m+1))
 rw[bxE,byK Om] at hBlow
 have buW:(aG (aF B))[m+1]?=some [.int .u32 ((bt:Nat):Int)]:=by
  rw[bG _ hml]
  rw[bxA hml] at hbt
  rw[byZ.inj hbt]
 have i1:IntKind.i64.wrap ((((aF B).length:Nat):Int)-1)=((m+1:Nat):Int):=by rw[wrap_i64 Om Om]; omega
 have hne1:¬ (((aF B).length:Nat):Int)=1:=by omega
 simp only[go_sem,bD hne1,abA]
 refine wp_loop (α:=Nat) (fun s=>aUV (aF A) (aF B) s) (fun _=>.nil) (fun s=>s≤31∧bt*2 ^ s<4294967296) (fun s=>32-s) 0 ⟨by omega,by simpa using hbtl⟩ ?_ PH.nil_le ?_
 ·unfold aUV
  exact Lq
 rintro s ⟨hs,hbs⟩
 have esh:=bcW hs hbs
 simp only[go_sem,γ,reduceCtorEq,aaT,abB,aUV,i1,buW,esh]
 refine kB ?_ ?_
 ·intro c3
  have c3':=of_decide_eq_true c3
  have hs30:s<31:=by
   rcases bxG s 31 with h | h
   ·exact h
   ·exfalso
    have h1:2147483648≤2 ^ s:=Nat.pow_le_pow_right (show 0<2 by decide) h
    have h2:1*2 ^ s≤bt*2 ^ s:=bxQ _ Om
    omega
  have es:IntKind.u64.wrap ((s:Int)+1)=((s+1:Nat):Int):=by rw[wrap_u64 Om Om]; omega
  simp only[go_sem,γ,reduceCtorEq,abC,es]
  refine aJ (s+1) ⟨by omega,by rw[byE,← bxH]; omega⟩ Om ?_ PH.nil_le
  exact Lq
 intro c3
 have c3':=of_decide_eq_false c3
 have hs32:s<32:=by omega
 have hp2:0<2 ^ s:=byY (by decide)
 have hVlo:2147483648*4294967296 ^ (m+1)≤B*2 ^ s:=by
  have h1:2147483648*4294967296 ^ (m+1)≤(bt*2 ^ s)*4294967296 ^ (m+1):=bxQ _ Om
  have h2:(4294967296 ^ (m+1)*bt)*2 ^ s≤B*2 ^ s:=bxQ _ Om
  have h3:(4294967296 ^ (m+1)*bt)*2 ^ s=(bt*2 ^ s)*4294967296 ^ (m+1):=by rw[bxH,bxK]
  omega
 have hVhi:B*2 ^ s<4294967296 ^ (m+2):=by
  have h0:(bt+1)*2 ^ s≤4294967296:=by
   have e32:(4294967296:Nat)=2 ^ (32-s)*2 ^ s:=by rw[← Nat.pow_add,show 32-s+s=32 by omega]
   have:bt<2 ^ (32-s):=by
    rcases bxG bt (2 ^ (32-s)) with h | h
    ·exact h
    ·have:=bxQ (2 ^ s) h
     omega
   have:=bxQ (2 ^ s) (show bt+1≤2 ^ (32-s) from this)
   omega
  have h1:B<(bt+1)*4294967296 ^ (m+1):=by rw[bxN,Nat.one_mul,bxK bt]; omega
  have h2:B*2 ^ s<(bt+1)*4294967296 ^ (m+1)*2 ^ s:=Nat.mul_lt_mul_of_pos_right h1 hp2
  have h3:(bt+1)*4294967296 ^ (m+1)*2 ^ s=(bt+1)*2 ^ s*4294967296 ^ (m+1):=Nat.mul_right_comm _ _ _
  have h4:(bt+1)*2 ^ s*4294967296 ^ (m+1)≤4294967296*4294967296 ^ (m+1):=bxQ _ h0
  have h5:4294967296 ^ (m+2)=4294967296*4294967296 ^ (m+1):=by rw[byE,bxK]
  omega
 have hAlt:A<4294967296 ^ nl A:=(fY A _).1 (bwR _)
 simp only[go_sem]
 refine bM .nil a3O PH.nil_le ?_
 simp only[go_sem,γ,reduceCtorEq,QY]
 have ua:=Lb.up (aF A) s LA hs32 Om
 have ub:=Lb.up (aF B) s LB hs32 Om
 refine aIS (aIZ (aF A) s) ua rfl (aFB _ _) ?_
 rintro r H' ⟨o,rfl,rfl⟩ -
 rw[PH.kO,lA,vA]
 refine⟨PH.nil_le,?_⟩
 simp only[go_sem,γ,reduceCtorEq]
 refine aIS (aIZ (aF B) s) ub rfl (aFB _ _) ?_
 rintro r H' ⟨o2,rfl,rfl⟩ hap
 rw[PH.kO,lB,vB,hm]
 refine⟨PH.nil_le,?_⟩
 have hfr:=hap o2 _ (by rw[bL,if_pos rfl]) (by rfl)
 have n21:¬ o2=o:=(cS.1 hfr).1
 have n12:¬ o=o2:=fun h=>n21 h.symm
 have k1:((m+2:Nat):Int)≤((m+2+1:Nat):Int):=by omega
 have k2:IntKind.i64.wrap (((nl A+1:Nat):Int)-((m+2:Nat):Int))=((nl A+1-(m+2):Nat):Int):=by rw[wrap_i64 Om Om]; omega
 obtain⟨lq,hlq⟩:∃ lq,nl A+1-(m+2)=lq:=⟨_,rfl⟩
 have hlu:nl A+1=lq+(m+2):=by omega
 rw[hlq] at k2
 have k3:((lq:Nat):Int)*((4:Nat):Int)≤140737488355328:=by omega
 have k4:((lq:Nat):Int)≤9223372036854775807:=by omega
 have hz:bwP lq [PV.int .u32 0]=aG (bwP lq 0):=by simp[aG]
 have k5:m+2-0=m+2:=by omega
 simp only[go_sem,ν,γ,reduceCtorEq,lB,hm,k1,k5,QZ,RA,k2,k3,k4,hz]
 refine aP fun oq hoq=>?_
 have q2:¬ oq=o2:=(cS.1 hoq).1
 have q1:¬ oq=o:=(cS.1 (cS.1 hoq).2).1
 have q2':¬ o2=oq:=fun h=>q2 h.symm
 have q1':¬ o=oq:=fun h=>q1 h.symm
 have hsn:dE (m+2+1) (B*2 ^ s)=dE (m+2) (B*2 ^ s)++[B*2 ^ s/4294967296 ^ (m+2)%4294967296]:=sC _ _
 have Lv:=kC (m+2) (B*2 ^ s)
 have lv:=jJ (m+2) (B*2 ^ s)
 have vv:val (dE (m+2) (B*2 ^ s))=B*2 ^ s:=lL hVhi
 have hvf:(aG (dE (m+2+1) (B*2 ^ s))).take (m+2)=aG (dE (m+2) (B*2 ^ s)):=by
  unfold aG
  rw[← List.map_take,hsn,List.take_append_of_le_length Om,bxC Om]
 generalize hvv:dE (m+2) (B*2 ^ s)=v at *
 have lvf:(dE (m+2+1) (B*2 ^ s)).length=m+2+1:=jJ _ _
 have gtop:∀ i (h:i<v.length),(aG (dE (m+2+1) (B*2 ^ s)))[i]?=some [.int .u32 ((v[i]:Nat):Int)]:=by
  intro i h
  have h1:(aG v)[i]?=some [.int .u32 ((v[i]:Nat):Int)]:=bG v h
  rw[← hvf,List.getElem?_take_of_lt Om] at h1
  exact h1
 have g1:=gtop (m+1) Om
 have g0:=gtop m Om
 have htop:2147483648≤v[m+1]:=by
  have h1:=bS v (Om:m+1<v.length)
  rw[bxC Om,vv] at h1
  have h2:=eE (Lv.take (m+1))
  rw[bxE,byK Om] at h2
  rcases bxG v[m+1] 2147483648 with h | h
  ·exfalso
   have h3:4294967296 ^ (m+1)*(v[m+1]+1)≤4294967296 ^ (m+1)*2147483648:=byM _ h
   rw[bwX,Nat.mul_one] at h3
   rw[bxK 2147483648] at hVlo
   omega
  ·exact h
 have ht1:=Lv _ (bwS (Om:m+1<v.length))
 have ht0:=Lv _ (bwS (Om:m<v.length))
 have w1:IntKind.u64.wrap ((v[m+1]:Nat):Int)=((v[m+1]:Nat):Int):=bB Om
 have w0:IntKind.u64.wrap ((v[m]:Nat):Int)=((v[m]:Nat):Int):=bB Om
 have j1:IntKind.i64.wrap (((m+2:Nat):Int)-1)=((m+1:Nat):Int):=by rw[wrap_i64 Om Om]; omega
 have j0:IntKind.i64.wrap (((m+2:Nat):Int)-2)=((m:Nat):Int):=by rw[wrap_i64 Om Om]; omega
 have d1:((m+1:Nat):Int)<((m+2:Nat):Int):=by omega
 have d0:((m:Nat):Int)<((m+2:Nat):Int):=by omega
 have jq:IntKind.i64.wrap ((lq:Int)-1)=(lq:Int)-1:=wrap_i64 Om Om
 simp only[go_sem,γ,reduceCtorEq]
 refine bM .nil dV PH.nil_le ?_
 simp only[go_sem,γ,reduceCtorEq,RB,j1,j0,d1,d0,q2',g1,g0,w1,w0,RC,jq]
 have hUlt:A*2 ^ s<4294967296 ^ (nl A+1):=by
  have h0:2 ^ s≤4294967296:=by
   have:(2:Nat) ^ s≤2 ^ 32:=Nat.pow_le_pow_right (by decide) Om
   simpa using this
  have h1:A*2 ^ s<4294967296 ^ nl A*2 ^ s:=Nat.mul_lt_mul_of_pos_right hAlt hp2
  have h2:4294967296 ^ nl A*2 ^ s≤4294967296 ^ nl A*4294967296:=byM _ h0
  rw[byE]; omega
 have LU:=kC (nl A+1) (A*2 ^ s)
 have lU:=jJ (nl A+1) (A*2 ^ s)
 have vU:val (dE (nl A+1) (A*2 ^ s))=A*2 ^ s:=lL hUlt
 have hI:mE (A*2 ^ s) (val v) (m+2) (nl A+1) lq lq (dE (nl A+1) (A*2 ^ s)) (bwP lq 0):=by
  refine⟨lU,bzW,LU,sI _,by rw[vU,pK]; omega,?_,fun i x _ hx=>aGT hx⟩
  ·rw[rK LU Om,vU,vv,bzF (byY (by decide))]
   have h1:A*2 ^ s<4294967296 ^ nl A*2 ^ s:=Nat.mul_lt_mul_of_pos_right hAlt hp2
   have hx:nl A=m+1+lq:=by omega
   have h2:4294967296 ^ nl A=4294967296 ^ (m+1)*4294967296 ^ lq:=by rw[hx,Nat.pow_add]
   have h3:2 ^ s≤2147483648:=by
    have:(2:Nat) ^ s≤2 ^ 31:=Nat.pow_le_pow_right (by decide) hs
    simpa using this
   have h4:4294967296 ^ nl A*2 ^ s≤(2147483648*4294967296 ^ (m+1))*4294967296 ^ lq:=by
    rw[h2,bxK (4294967296 ^ (m+1)*4294967296 ^ lq),← bxH]
    exact bxQ _ (bxQ _ h3)
   have h5:(2147483648*4294967296 ^ (m+1))*4294967296 ^ lq≤B*2 ^ s*4294967296 ^ lq:=bxQ _ hVlo
   omega
 have key:=azN (C:=C) Lb.D (A*2 ^ s) m (nl A+1) lq o o2 oq s v (dE (m+2+1) (B*2 ^ s)) n21 q1 q2 Lv lv hvf Om htop hlu Om _ hI
 simp only[go_sem,ο] at key
 refine key _ _ _ ?_ (by simp only[go_sem,n12,q1']) (by simp only[go_sem,q2']) Sq ?_
 ·unfold dI
  exact Lq
 clear key
 intro U' Q' F' hI' hF'
 have hu:val U'<val v:=by have:=hI'.r; rwa [bxP] at this
 have hv':=hI'.v
 rw[vv] at hu hv'
 have hVp:0<B*2 ^ s:=by omega
 have hQv:val Q'=A/B:=by
  have:A*2 ^ s/(B*2 ^ s)=val Q':=by
   rw[← hv',Nat.add_mul_div_right _ _ hVp,bzS hu,bxO]
  rw[← this,Nat.mul_div_mul_right _ _ hp2]
 have hUv:val U'/2 ^ s=A%B:=by
  have:A*2 ^ s%(B*2 ^ s)=val U':=by rw[← hv',Nat.add_mul_mod_self_right,bxR hu]
  rw[← this,Nat.mul_mod_mul_right,Nat.mul_div_cancel _ hp2]
 have g8:=hF' 8 _ (by unfold dI; simp only[go_sem,ο,γ]; rfl)
 have g9:=hF' 9 _ (by unfold dI; simp only[go_sem,ο,γ]; rfl)
 have g11:=hF' 11 _ (by unfold dI; simp only[go_sem,ο,γ]; rfl)
 have g12:=hF' 12 _ (by unfold dI; simp only[go_sem,ο,γ]; rfl)
 have rest:=azO (C:=C) o (nl A+1) oq lq (m+2) s U' Q' hs32 q1 hI'.limU hI'.lu' Om Om
 simp only[go_sem] at rest
 simp only[go_sem]
 refine rest _ _ g8 g9 g11 g12 ?_
 clear rest
 intro or F2 H2 r1 r2 hF2 hQ2 hR2
 rw[hUv] at hR2
 have k12:=hF2 12 _ (by unfold rFr; simp only[go_sem,γ]; rfl)
 have k19:=hF2 19 _ (by unfold rFr; simp only[go_sem,γ]; rfl)
 have hRlt:A%B<4294967296 ^ (m+2):=by
  have h1:A%B<B:=bxX _ hB0
  have h2:B<4294967296 ^ nl B:=(fY B _).1 (bwR _)
  rw[hm] at h2; omega
 have LR:=kC (m+2) (A%B)
 have lR:=jJ (m+2) (A%B)
 have vR:val (dE (m+2) (A%B))=A%B:=lL hRlt
 have nQ:=eN hI'.limQ
 have nR:=eN LR
 have e1:=hI'.lq'
 generalize hRR:dE (m+2) (A%B)=R at *
 simp only[go_sem]
 refine bM .nil a3O PH.nil_le ?_
 simp only[go_sem,γ,RL,k12]
 have LOq:=Lb.lengthO Q' oq hI'.limQ Om
 rw[e1] at LOq
 have LOr:=Lb.lengthO R or LR Om
 rw[lR] at LOr
 refine TH (o:=oq) (x:=.rows 1 (aG Q')) (v:=.int .i64 (nl (val Q'):Nat)) rfl hQ2 LOq (anF oq Q') (fun r H' hr=>⟨hr.2 Q' hI'.limQ (by rw[fJ]),hr.1⟩) rfl PH.nil_le ?_
 have c4:((nl (val Q'):Nat):Int)≤(lq:Nat):=by omega
 simp only[go_sem,ν,γ,reduceCtorEq,c4,k19,Nat.sub_zero]
 refine TH (o:=or) (x:=.rows 1 (aG R)) (v:=.int .i64 (nl (val R):Nat)) rfl hR2 LOr (anF or R) (fun r H' hr=>⟨hr.2 R LR (by rw[fJ]),hr.1⟩) rfl PH.nil_le ?_
 have c5:((nl (val R):Nat):Int)≤((m+2:Nat):Int):=by omega
 simp only[go_sem,ν,γ,reduceCtorEq,c5]
 refine a0Q (o1:=oq) (o2:=or) (s1:=1) (s2:=1) (k1:=nl (val Q')) (k2:=nl (val R)) (rs1:=aG Q') (rs2:=aG R) (.inr rfl) (fun h=>r2 h.symm) rfl rfl hQ2 hR2 (by rw[bO]; exact nQ) (by rw[bO]; exact nR) (oW _ _ _ _) rfl ⟨?_,rfl⟩
 have t1:(aG Q').take (nl (val Q'))=aG (aF (A/B)):=by
  have:=gJ hI'.limQ
  rw[hQv] at this ⊢
  exact this
 have t2:(aG R).take (nl (val R))=aG (aF (A%B)):=by
  have:=gJ LR
  rw[vR] at this ⊢
  exact this
 rw[t1,t2]
 exact .refl _
def a4L (a b:Nat):PF:=((PF.nil.set 0 (aD (aF a))).set 1 (aD (aF b)))
theorem bbY {C:Ctx} (L:oC C) (hdiv:∀ A B:Nat,B≠0→nl A≤900→nl B≤900→aE C 136 [aD (aF A),aD (aF B)] .nil (aC (nM A B))) (a b:List Nat) (ha:Lim a) (hb:Lim b) (la:a.length≤35184372087808) (lb:b.length≤35184372087808) :
  KX.wp C (aS azP.res (bV (if dK (val a) (val b) then .tup [aD [],.int .i64 2] else .tup [aD (aF (bwQ (val a) (val b))),.int .i64 0]))) (PF.args [aD a,aD b]) .nil:=by
 simp only[go_sem,reduceCtorEq,KX,aMT,aMU,azP]
 refine aA (L.large a ha la) rfl ?_
 by_cases c1:nl (val a)>512
 ·simp only[go_sem,γ,c1,ahL]
  rw[if_pos (by simp[dK,c1])]
  exact dU rfl
 simp only[go_sem,γ,c1]
 refine aA (L.large b hb lb) rfl ?_
 by_cases c2:nl (val b)>512
 ·simp only[go_sem,γ,reduceCtorEq,c2,ahL]
  rw[if_pos (by simp[dK,c2])]
  exact dU rfl
 rw[if_neg (by simp[dK,c1,c2])]
 simp only[go_sem,γ,reduceCtorEq,c2,aMV]
 refine aA (L.trim a ha la) rfl ?_
 simp only[go_sem,γ]
 refine aA (L.trim b hb lb) rfl ?_
 simp only[go_sem,γ,reduceCtorEq]
 refine wp_loop (α:=Nat × Nat) (fun t=>a4L t.1 t.2) (fun _=>.nil) (fun t=>bwQ t.1 t.2=bwQ (val a) (val b)∧nl t.1≤512∧nl t.2≤512) (fun t=>t.2) (val a,val b) ⟨rfl,by simp only; omega,by simp only; omega⟩ ?_ PH.nil_le ?_
 ·unfold a4L
  exact Lq
 rintro⟨x,y⟩ ⟨hg,hx,hy⟩
 simp only at hg hx hy
 simp only[go_sem,γ,reduceCtorEq,aMS,aMW,a4L,aV]
 by_cases c3:y=0
 ·subst c3
  have:¬ ((nl 0:Nat):Int)>0:=by rw[uP]; decide
  simp only[go_sem,γ,reduceCtorEq,this,aMZ]
  refine aU (vs:=[aD (aF x),.int .i64 0]) (.inr rfl) .nil rfl PH.nil_le ⟨?_,rfl⟩
  rw[← hg,Nat.gcd_zero_right]
  exact .refl _
 ·have h0:nl y≠0:=fun h=>c3 (fT.1 h)
  have:((nl y:Nat):Int)>0:=by omega
  simp only[go_sem,γ,reduceCtorEq,this,aMX]
  refine aA (hdiv x y c3 Om Om) rfl ?_
  simp only[go_sem,γ,reduceCtorEq,nM,aMY]
  have hlt:x%y<y:=bxX _ (byN c3)
  refine aJ (y,x%y) ⟨?_,hy,?_⟩ hlt ?_ PH.nil_le
  ·simp only
   rw[← hg,Nat.gcd_comm y,← Nat.gcd_rec y x,Nat.gcd_comm]
  ·have:=eU (Nat.le_of_lt hlt)
   simp only; omega
  ·exact Lq
def kI (A B:Nat):PV:=if dK A B then .tup [aD [],aD [],.int .i64 2] else if B=0 then .tup [aD [],aD [],.int .i64 3] else .tup [aD (aF (A/B)),aD (aF (A%B)),.int .i64 0]
def aUW:Spec:=fun name vs=>match name,vs with
 | 138,[x]=>some ([],fun _=>aC (.int .i64 (nl (val (gG x)):Nat)))
 | 136,[x,y]=>some ([],fun _=>aC (nM (val (gG x)) (val (gG y))))
 | _,_=>none
theorem KU (xs:List Nat):aUW 138 [aD xs]=some ([],fun _=>aC (.int .i64 (nl (val xs):Nat))):=by
 show some _=_; rw[dP]
theorem azM (A B:Nat):aUW 136 [aD (aF A),aD (aF B)]=some ([],fun _=>aC (nM A B)):=by
 show some _=_; rw[dP,dP,aQ,aQ]
theorem oY {res:List dQ} {F:PF} {H:PH} {e:Int} (h:dQ.evs F H res=some [.buJ,.buJ,.int .i64 e]):aS res (bV (.tup [aD [],aD [],.int .i64 e])) .ret F H:=by
 refine aU (.inr rfl) .nil h PH.nil_le ⟨?_,rfl⟩
 refine .tup rfl fun j p q hp hq=>?_
 match j with
 | 0=>simp at hp hq; subst hp; subst hq; exact .nil 1
 | 1=>simp at hp hq; subst hp; subst hq; exact .nil 1
 | 2=>simp at hp hq; subst hp; subst hq; exact .refl _
 | j+3=>simp at hp
theorem bbW {C:Ctx} (L:oC C) (hdiv:∀ A B:Nat,B≠0→nl A≤900→nl B≤900→aE C 136 [aD (aF A),aD (aF B)] .nil (aC (nM A B))) (a b:List Nat) (ha:Lim a) (hb:Lim b) (la:a.length≤35184372087808) (lb:b.length≤35184372087808) :
  KV.wp C (aS azL.res (bV (kI (val a) (val b)))) (PF.args [aD a,aD b]) .nil:=by
 simp only[go_sem,reduceCtorEq,KV,aMM,aMN,azL]
 refine aA (L.large a ha la) rfl ?_
 by_cases c1:nl (val a)>512
 ·simp only[go_sem,γ,c1,ahJ]
  rw[show kI (val a) (val b)=.tup [aD [],aD [],.int .i64 2] by simp[kI,dK,c1]]
  exact oY rfl
 simp only[go_sem,γ,c1]
 refine aA (L.large b hb lb) rfl ?_
 by_cases c2:nl (val b)>512
 ·simp only[go_sem,γ,reduceCtorEq,c2,ahJ]
  rw[show kI (val a) (val b)=.tup [aD [],aD [],.int .i64 2] by simp[kI,dK,c2]]
  exact oY rfl
 simp only[go_sem,γ,reduceCtorEq,c2,aMO]
 refine aA (L.length b hb lb) rfl ?_
 by_cases c3:val b=0
 ·have:((nl (val b):Nat):Int)=0:=by rw[c3,uP]; rfl
  simp only[go_sem,γ,bX this,aMP]
  rw[show kI (val a) (val b)=.tup [aD [],aD [],.int .i64 3] by simp[kI,dK,c1,c3,uP]]
  exact oY rfl
 have h0:nl (val b)≠0:=fun h=>c3 (fT.1 h)
 rw[show kI (val a) (val b)=.tup [aD (aF (val a/val b)),aD (aF (val a%val b)),.int .i64 0] by simp[kI,dK,c1,c2,c3]]
 simp only[go_sem,γ,bD (show ((nl (val b):Nat):Int)≠0 by omega)]
 refine bM .nil aUW PH.nil_le ?_
 simp only[go_sem,reduceCtorEq,aMQ]
 have h1:=eN ha
 have h2:=eN hb
 have h1':((nl (val a):Nat):Int)≤(a.length:Nat):=by omega
 have h2':((nl (val b):Nat):Int)≤(b.length:Nat):=by omega
 refine bF (KU a) (L.length a ha la) rfl PH.nil_le ?_
 simp only[go_sem,ν,γ,reduceCtorEq,h1',or_true,bxP,gJ ha]
 refine bF (KU b) (L.length b hb lb) rfl PH.nil_le ?_
 simp only[go_sem,ν,γ,reduceCtorEq,h2',or_true,bxP,gJ hb]
 refine bF (azM (val a) (val b)) (hdiv _ _ c3 Om Om) rfl PH.nil_le ?_
 simp only[go_sem,γ,nM,aMR]
 exact aU (.inr rfl) .nil rfl PH.nil_le ⟨.refl _,rfl⟩
def ZA:Rg:=[iA 6 (.alloc [(.bool false),.buJ,.buJ]),iI 7 0]
def ZB:Rg:=[iM 11 1,iM 12 2,iK2 13 131 11 12,iM 10 13,iE 14 10 0,iE 15 10 1,iM 8 14,iM 9 15]
def ZC:Rg:=[iM 16 8,iK 17 128 16,iC 18 .gtr 17 1]
def ZD:Rg:=[iM 20 1,iM 21 8,iK2 22 130 20 21,iM 19 22,iE 23 19 0,iE 24 19 1,iE 25 19 2,iM 1 23]
def ZE:Rg:=[iM 27 2,iM 28 8,iK2 29 130 27 28,iM 26 29,iE 30 26 0,iE 31 26 1,iE 32 26 2,iM 2 30]
def DW:Rg:=[iM 33 1,iK 34 128 33,iC 35 .gtr 34 4096,iM 36 35,gM 37 2 36 false,gK 38 128 37 36 false,gC 39 .gtr 38 4096 36 false,iQ 40 36 39]
def tM:Rg:=[iA 41 (.build [(.bool false),.buJ,.buJ] []),iS 3 6 41,iI 7 2]
def DX:Rg:=[iM 42 0,iM 43 42,gM 44 1 43 true,gK 45 128 44 43 true,gC 46 .gtr 45 0 43 true,iP 47 43 46,iM 48 1,iK 49 135 48,iM 50 2,iK 51 135 50,iA 52 (.build [(.bool false),.buJ,.buJ] [(0,1,(Tm 47)),(1,1,(Tm 49)),(2,1,(Tm 51))]),iS 3 6 52,iI 7 0]
def vE:aB:=(sq ZA (.seq (sq ZB (sq ZC (.cond (Tm 18) (sq ZD (.region ZE)) .skip))) (.seq (sq DW (.cond (Tm 40) (sq tM .ret) .skip)) (sq DX .ret))))
def aTR:List Nat:=[]
def mW:aW:=⟨3,53,vE,[.cell 6 (some 3),.tmp 7]⟩
def akI:Rg:=[iZ 4]
def akJ:Rg:=[iM 8 0,iM 9 1,iK2 10 133 8 9,iM 7 10,iE 11 7 0,iE 12 7 1,iM 5 11,iM 6 12]
def akK:Rg:=[iM 13 5,iM 4 13]
def yK:aB:=(sq akI (sq akJ (sq akK .ret)))
def aYK:List Nat:=[]
def JZ:aW:=⟨2,14,yK,[.tmp 4]⟩
def auB:Rg:=[iA 1 (.box true (Tm 0)),iT 2 false]
def auC:Rg:=[iF 3 1 1,iL 4 3,iK 5 128 4,iC 6 .eql 5 0,iM 2 6]
def DZ:aB:=(sq auB (sq auC .ret))
def a4E:List Nat:=[1]
def ZM:aW:=⟨1,7,DZ,[.tmp 2]⟩
def atU:Rg:=[iA 4 (.alloc [(.bool false),.buJ,.buJ]),iI 5 0]
def atV:Rg:=[iM 6 1,iC 7 .eql 6 0]
def atW:Rg:=[iA 8 (.build [(.bool false),.buJ,.buJ] []),iS 3 4 8,iI 5 3]
def atX:Rg:=[iM 9 0,iC 10 .lss 9 0,iM 11 1,iC 12 .lss 11 0,iA 13 (.eqb true (Tm 10) (Tm 12)),iM 14 0,iK 15 119 14,iM 16 1,iK 17 119 16,iA 18 (.call 120 [(Tm 13),(Tm 15),(Tm 17)]),iE 19 18 0,iE 20 18 1,iS 3 4 19,iM 5 20]
def DY:aB:=(sq atU (.seq (sq atV (.cond (Tm 7) (sq atW .ret) .skip)) (sq atX .ret)))
def a4C:List Nat:=[]
def PI:aW:=⟨2,21,DY,[.cell 4 (some 3),.tmp 5]⟩
def aJD:Rg:=[iZ 2]
def aJE:Rg:=[iM 3 0,iC 4 .lss 3 0]
def aJF:Rg:=[iM 5 0,iA 6 (.conv .u64 (Tm 5)),iA 7 (.un .neg (Tm 6)),iK 8 132 7,iM 2 8]
def aJG:Rg:=[iM 9 0,iA 10 (.conv .u64 (Tm 9)),iK 11 132 10,iM 2 11]
def JP:aB:=(sq aJD (.seq (sq aJE (.cond (Tm 4) (sq aJF .ret) .skip)) (sq aJG .ret)))
def a9U:List Nat:=[]
def atK:aW:=⟨1,12,JP,[.tmp 2]⟩
def akL:Rg:=[iA 1 (.box true (Tm 0)),iT 2 false]
def akM:Rg:=[iF 4 2 1,iL 5 4,iK 6 128 5,iM 3 6]
def wX:Rg:=[iM 7 3,iC 8 .gtr 7 0,iM 9 8,gM 10 3 9 true,gC 11 .leq 10 4096 9 true,iP 12 9 11,iM 13 12,gF 14 1 1 13 true,gL 15 14 13 true,gK 16 128 15 13 true,gC 17 .leq 16 4096 13 true,iP 18 13 17,iM 2 18]
def yL:aB:=(sq akL (sq akM (sq wX .ret)))
def aYM:List Nat:=[1]
def KB:aW:=⟨1,19,yL,[.tmp 2]⟩
def ZH:Rg:=[iA 1 (.box true (Tm 0)),iA 2 (.alloc [(.bool false),.buJ,.buJ]),iI 3 0]
def ZI:Rg:=[iO 4 3 1,iK 5 118 4,iA 6 (.un .not (Tm 5))]
def ZJ:Rg:=[iA 7 (.build [(.bool false),.buJ,.buJ] []),iS 3 2 7,iI 3 1]
def ZK:Rg:=[iF 8 0 1,iL 9 8,iF 10 1 1,iL 11 10,iF 12 2 1,iL 13 12,iA 14 (.call 120 [(Tm 9),(Tm 11),(Tm 13)]),iE 15 14 0,iE 16 14 1,iS 3 2 15,iM 3 16]
def vF:aB:=(sq ZH (.seq (sq ZI (.cond (Tm 6) (sq ZJ .ret) .skip)) (sq ZK .ret)))
def aTU:List Nat:=[1]
def uI:aW:=⟨1,17,vF,[.cell 2 (some 3),.tmp 3]⟩
def aJQ:Rg:=[iA 2 (.box true (Tm 0)),iA 3 (.box true (Tm 1)),iI 4 0,iI 5 0]
def aJR:Rg:=[iO 9 3 2,iK 10 118 9,iA 11 (.un .not (Tm 10)),iM 12 11,gO 13 3 3 12 false,gK 14 118 13 12 false,iG 15 (.un .not (Tm 14)) 12 false,iQ 16 12 15]
def agM:Rg:=[iI 4 0,iI 5 1]
def aJS:Rd:=[(iF 17 1 2,false),(iL 18 17,false),(iF 19 2 3,false),(iL 20 19,false),(iK2 21 121 18 20,true),(iF 22 1 3,true),(iL 23 22,true),(iF 24 2 2,true),(iL 25 24,true),(iK2 26 121 23 25,true),(iK2 27 129 21 26,true),(iM 6 27,false)]
def aJT:Rd:=[(iF 28 0 2,false),(iL 29 28,false),(iM 30 29,false),(gO 31 3 2 30 true,false),(gK 32 122 31 30 true,true),(iG 33 (.un .not (Tm 32)) 30 true,true),(iP 34 30 33,true),(iF 35 0 3,true),(iL 36 35,true),(iM 37 36,false),(gO 38 3 3 37 true,false),(gK 39 122 38 37 true,true),(iG 40 (.un .not (Tm 39)) 37 true,false),(iP 41 37 40,false),(iM 7 34,false),(iM 8 41,false)]
def uH:Rg:=[iM 43 7,iM 44 43,gM 45 8 44 true,iP 46 44 45,iM 42 46]
def agN:Rg:=[iM 47 6,iA 48 (.un .neg (Tm 47)),iM 4 48,iI 5 0]
def AY:Rg:=[iM 50 7,iM 49 50]
def agO:Rg:=[iI 4 (-1),iI 5 0]
def PE:Rg:=[iM 52 8,iM 51 52]
def TP:Rg:=[iI 4 1,iI 5 0]
def TQ:Rg:=[iM 53 6,iM 4 53,iI 5 0]
def JS:aB:=(sq aJQ (.seq (sq aJR (.cond (Tm 16) (sq agM .ret) .skip)) (dq aJS (dq aJT (.seq (.block 0 (sq uH (.cond (Tm 42) (sq agN .ret) (sq AY (.cond (Tm 49) (sq agO .ret) (sq PE (.cond (Tm 51) (sq TP .ret) .skip))))))) (sq TQ .ret))))))
def a9Y:List Nat:=[2,3]
def atN:aW:=⟨2,54,JS,[.tmp 4,.tmp 5]⟩
def aJH:Rg:=[iA 2 (.box true (Tm 0)),iA 3 (.box true (Tm 1)),iA 4 (.alloc [(.bool false),.buJ,.buJ]),iI 5 0]
def aJI:Rg:=[iO 15 3 2,iK 16 118 15,iA 17 (.un .not (Tm 16)),iM 18 17,gO 19 3 3 18 false,gK 20 118 19 18 false,iG 21 (.un .not (Tm 20)) 18 false,iQ 22 18 21]
def agL:Rg:=[iA 23 (.build [(.bool false),.buJ,.buJ] []),iS 3 4 23,iI 5 1]
def aJJ:Rd:=[(iF 24 1 2,false),(iL 25 24,false),(iF 26 2 3,false),(iL 27 26,false),(iK2 28 121 25 27,true),(iF 29 1 3,true),(iL 30 29,true),(iF 31 2 2,true),(iL 32 31,true),(iK2 33 121 30 32,true),(iF 34 2 2,true),(iL 35 34,true),(iF 36 2 3,true),(iL 37 36,true),(iK2 38 121 35 37,true),(iM 6 28,false),(iM 7 33,false),(iM 8 38,false)]
def aJK:Rg:=[iF 39 0 2,iL 40 39,iF 41 0 3,iL 42 41,iA 43 (.eqb false (Tm 40) (Tm 42))]
def aJL:Rg:=[iM 45 6,iM 46 7,iK2 47 127 45 46,iM 44 47,iE 48 44 0,iE 49 44 1,iM 9 48,iM 10 49]
def aJM:Rg:=[iF 50 0 2,iL 51 50,iM 52 9,iM 53 8,iA 54 (.call 120 [(Tm 51),(Tm 52),(Tm 53)]),iE 55 54 0,iE 56 54 1,iS 3 4 55,iM 5 56]
def aJN:Rg:=[iM 57 6,iM 58 7,iK2 59 129 57 58,iC 60 .geq 59 0]
def aJO:Rg:=[iM 62 6,iM 63 7,iK2 64 134 62 63,iM 61 64,iE 65 61 0,iE 66 61 1,iM 11 65,iM 12 66]
def aJP:Rg:=[iF 67 0 2,iL 68 67,iM 69 11,iM 70 8,iA 71 (.call 120 [(Tm 68),(Tm 69),(Tm 70)]),iE 72 71 0,iE 73 71 1,iS 3 4 72,iM 5 73]
def atL:Rg:=[iM 75 7,iM 76 6,iK2 77 134 75 76,iM 74 77,iE 78 74 0,iE 79 74 1,iM 13 78,iM 14 79]
def atM:Rg:=[iF 80 0 3,iL 81 80,iM 82 13,iM 83 8,iA 84 (.call 120 [(Tm 81),(Tm 82),(Tm 83)]),iE 85 84 0,iE 86 84 1,iS 3 4 85,iM 5 86]
def JR:aB:=(sq aJH (.seq (sq aJI (.cond (Tm 22) (sq agL .ret) .skip)) (dq aJJ (.seq (sq aJK (.cond (Tm 43) (sq aJL (sq aJM .ret)) .skip)) (.seq (sq aJN (.cond (Tm 60) (sq aJO (sq aJP .ret)) .skip)) (sq atL (sq atM .ret)))))))
def a9W:List Nat:=[2,3]
def JQ:aW:=⟨2,87,JR,[.cell 4 (some 3),.tmp 5]⟩
def aJW:Rg:=[iA 2 (.alloc [(.bool false),.buJ,.buJ]),iI 3 0]
def aJX:Rg:=[iA 9 (.call 132 [(.const (.int .u64 1))]),iA 10 (.build [(.bool false),.buJ,.buJ] [(2,1,(Tm 9))]),iA 4 (.alloc [(.bool false),.buJ,.buJ]),iS 3 4 10]
def aJY:Rg:=[iM 11 0,iN 12 11,iI 13 0]
def aJZ:Rg:=[iB 14 .lss 13 12]
def aKA:Rg:=[iX 15 3 11 13,iO 16 3 15,iA 6 (.alloc [(.bool false),.buJ,.buJ]),iS 3 6 16]
def aKB:Rg:=[iO 18 3 4,iO 19 3 6,iK2 20 113 18 19,iM 17 20,iE 21 17 0,iE 22 17 1,iA 7 (.alloc [(.bool false),.buJ,.buJ]),iS 3 7 21,iM 8 22]
def agQ:Rg:=[iM 23 8,iC 24 .neq 23 0]
def aKC:Rg:=[iA 25 (.build [(.bool false),.buJ,.buJ] []),iM 26 8,iS 3 2 25,iM 3 26]
def aKD:Rg:=[iO 27 3 7,iS 3 4 27]
def aKE:Rg:=[iC 28 .add 13 1,iM 13 28]
def auA:aB:=(sq aJZ (.seq (.cond (Tm 14) .skip (.exit 0)) (.seq (.block 1 (sq aKA (sq aKB (.seq (sq agQ (.cond (Tm 24) (sq aKC .ret) .skip)) (.region aKD))))) (.region aKE))))
def TV:Rg:=[iO 29 3 4,iS 3 2 29,iI 3 0]
def JY:aB:=(sq aJW (sq aJX (.seq (sq aJY (.block 0 (.loop auA))) (sq TV .ret))))
def baE:List Nat:=[]
def TU:aW:=⟨1,30,JY,[.cell 2 (some 3),.tmp 3]⟩
theorem CoL.nil:CoL [] []:=.refl _
theorem CoL.cons {p q:PV} {ps qs:List PV} (h:Co p q) (hs:CoL ps qs):CoL (p::ps) (q::qs) :=
 ⟨by simp[hs.len],fun j a b ha hb=>by
  cases j with
  | zero=>simp at ha hb; subst ha; subst hb; exact h
  | succ j=>exact hs.at_ j a b (by simpa using ha) (by simpa using hb)⟩
theorem CoL.agg {ps qs:List PV} (h:CoL ps qs):Co (.agg ps) (.agg qs):=.agg h.len h.at_
theorem CoL.tup {ps qs:List PV} (h:CoL ps qs):Co (.tup ps) (.tup qs):=.tup h.len h.at_
structure pP (C:Ctx):Prop extends oC C where
 bits:∀ xs,Lim xs→xs.length≤35184372087808→aE C 128 [aD xs] .nil (aC (.int .i64 (bZ (val xs):Nat)))
 add:∀ xs ys,Lim xs→Lim ys→xs.length≤35184372087808→ys.length≤35184372087808→aE C 127 [aD xs,aD ys] .nil (aC (opV (dK (val xs) (val ys)) (val xs+val ys)))
 sub:∀ xs ys,Lim xs→Lim ys→xs.length≤35184372087808→ys.length≤35184372087808→aE C 134 [aD xs,aD ys] .nil (aC (oQ (val xs) (val ys)))
 mul:∀ xs ys,Lim xs→Lim ys→xs.length≤35184372087808→ys.length≤35184372087808→aE C 133 [aD xs,aD ys] .nil (aC (opV (dK (val xs) (val ys)) (val xs*val ys)))
 gcd:∀ xs ys,Lim xs→Lim ys→xs.length≤35184372087808→ys.length≤35184372087808→aE C 131 [aD xs,aD ys] .nil (aC (if dK (val xs) (val ys) then .tup [aD [],.int .i64 2] else .tup [aD (aF (bwQ (val xs) (val ys))),.int .i64 0]))
 div:∀ xs ys,Lim xs→Lim ys→xs.length≤35184372087808→ys.length≤35184372087808→aE C 130 [aD xs,aD ys] .nil (aC (kI (val xs) (val ys)))
theorem fR {a b:Nat} (ha:nl a≤512) (hb:nl b≤512):dK a b=false:=by
 simp[dK]; omega
theorem jQ {a b m n:Nat} (ha:nl a≤m) (hb:nl b≤n):nl (a*b)≤m+n:=by
 rw[fY] at ha hb ⊢
 rw[Nat.pow_add]
 by_cases h:b=0
 ·subst h; exact Nat.mul_pos (byY (by decide)) (byY (by decide))
 ·calc a*b<4294967296 ^ m*b:=Nat.mul_lt_mul_of_pos_right ha (byN h)
   _≤4294967296 ^ m*4294967296 ^ n:=byM _ (Nat.le_of_lt hb)
theorem wA {n:Nat} (h:nl n≤512):szV n=.tup [aD (aF n),.int .i64 0]:=by
 have:¬ nl n>512:=by omega
 simp[szV,szL,szE,this]
theorem aYJ {C:Ctx} (L:pP C) (a b:List Nat) (ha:Lim a) (hb:Lim b) (la:a.length≤35184372087808) (lb:b.length≤35184372087808) (na:nl (val a)≤256) (nb:nl (val b)≤256) :
  yK.wp C (aS JZ.res (aC (aD (aF (val a*val b))))) (PF.args [aD a,aD b]) .nil:=by
 simp only[go_sem,γ,reduceCtorEq,yK,akI,akJ,JZ]
 refine aA (L.mul a b ha hb la lb) rfl ?_
 have:=jQ na nb
 rw[fR Om Om,opV,wA Om]
 simp only[go_sem,γ,reduceCtorEq,akK]
 refine aI (.inr rfl) rfl ?_
 rfl
abbrev dS (neg:Bool) (a b:List Nat):List PV:=[.bool neg,aD a,aD b]
theorem a4D {C:Ctx} (L:pP C) (neg:Bool) (a b:List Nat) (ha:Lim a) (la:a.length≤35184372087808) :
  DZ.wp C (aS ZM.res (aC (.bool (decide (val a=0))))) (PF.args [.agg (dS neg a b)]) .nil:=by
 simp only[go_sem,δ,γ,θ,DZ,auB,auC,ZM]
 refine aA (L.bits a ha la) rfl ?_
 simp only[go_sem,γ]
 refine aI (.inr rfl) rfl ?_
 have:=@iH (val a)
 by_cases c:val a=0
 ·rw[bX Om,decide_eq_true c]; rfl
 ·rw[bD Om,decide_eq_false c]; rfl
def cH (a b:Nat):Bool:=decide (0<bZ b)&&decide (bZ b≤4096)&&decide (bZ a≤4096)
theorem aYL {C:Ctx} (L:pP C) (neg:Bool) (a b:List Nat) (ha:Lim a) (hb:Lim b) (la:a.length≤35184372087808) (lb:b.length≤35184372087808) :
  yL.wp C (aS KB.res (aC (.bool (cH (val a) (val b))))) (PF.args [.agg (dS neg a b)]) .nil:=by
 simp only[go_sem,γ,yL,akL,akM,KB]
 refine aA (L.bits b hb lb) rfl ?_
 by_cases c1:0<bZ (val b)
 ·have c1':((bZ (val b):Nat):Int)>0:=by omega
  by_cases c2:bZ (val b)≤4096
  ·have c2':((bZ (val b):Nat):Int)≤4096:=by omega
   simp only[go_sem,δ,γ,θ,wX,c1',c2']
   refine aA (L.bits a ha la) rfl ?_
   simp only[go_sem,γ]
   refine aI (.inr rfl) rfl ?_
   show PV.bool (decide _)=_
   rw[cH,decide_eq_true c1,decide_eq_true c2,bwY,bwY]
   congr 1
   rw[decide_eq_decide]
   omega
  ·have c2':¬ ((bZ (val b):Nat):Int)≤4096:=by omega
   simp only[go_sem,γ,reduceCtorEq,wX,c1',c2']
   refine aI (.inr rfl) rfl ?_
   show PV.bool _=_
   simp[cH,c1,c2]
 ·have c1':¬ ((bZ (val b):Nat):Int)>0:=by omega
  simp only[go_sem,γ,reduceCtorEq,wX,c1']
  refine aI (.inr rfl) rfl ?_
  show PV.bool _=_
  simp[cH,c1]
theorem a9T {C:Ctx} (L:pP C) (v:Int) (h1:-9223372036854775808≤v) (h2:v≤9223372036854775807) :
  JP.wp C (aS atK.res (aC (aD (aF v.natAbs)))) (PF.args [.int .i64 v]) .nil:=by
 simp only[go_sem,γ,reduceCtorEq,JP,aJD,aJE,atK]
 by_cases c:v<0
 ·have e:IntKind.u64.wrap (0-IntKind.u64.wrap v)=((v.natAbs:Nat):Int):=by
   rw[eV,eV]; omega
  simp only[go_sem,γ,reduceCtorEq,c,aJF,e]
  refine aA (L.make v.natAbs Om) rfl ?_
  simp only[go_sem,γ]
  refine aI (.inr rfl) rfl ?_
  rfl
 ·have e:IntKind.u64.wrap v=((v.natAbs:Nat):Int):=by
   rw[eV]; omega
  simp only[go_sem,γ,reduceCtorEq,c,aJG,e]
  refine aA (L.make v.natAbs Om) rfl ?_
  simp only[go_sem,γ]
  refine aI (.inr rfl) rfl ?_
  rfl
abbrev wW (e:Int):PV:=.tup [.agg (dS false [] []),.int .i64 e]
abbrev aTV (neg:Bool) (a b:Nat):PV:=.tup [.agg (dS neg (aF a) (aF b)),.int .i64 0]
def EY (neg:Bool) (a b:Nat):PV :=
 if bZ (a/bwQ a b)>4096∨bZ (b/bwQ a b)>4096 then wW 2 else aTV (neg&&decide (a/bwQ a b≠0)) (a/bwQ a b) (b/bwQ a b)
theorem fS {res:List dQ} {F:PF} {H:PH} {e:Int} (h:dQ.evs F H res=some [.agg [.bool false,.buJ,.buJ],.int .i64 e]):aS res (bV (wW e)) .ret F H :=
 aU (.inr rfl) .nil h PH.nil_le ⟨CoL.tup (.cons (CoL.agg (.cons (.refl _) (.cons (.nil 1) (.cons (.nil 1) .nil)))) (.cons (.refl _) .nil)),rfl⟩
theorem asH {n:Nat}:bZ n>1↔n>1:=by
 have:=jS n 1
 omega
theorem abD {a n:Nat} (g:Nat) (h:nl a≤n):nl (a/g)≤n:=Nat.le_trans (eU (Nat.div_le_self _ _)) h
theorem JW {C:Ctx} (L:pP C) (neg:Bool) (a b:List Nat) (ha:Lim a) (hb:Lim b) (la:a.length≤35184372087808) (lb:b.length≤35184372087808) (o:Nat) (F:PF) (H:PH)
  (f0:F 0=some (.bool neg)) (f1:F 1=some (aD a)) (f2:F 2=some (aD b)) (f6:F 6=some (.ptr o 3 0 0)) (f7:F 7=some (.int .i64 0)) (hH:H o=some (.rows 3 [[.bool false,.buJ,.buJ]])) :
  aB.wp C (.seq (.seq (.region DW) (.cond (.tmp 40) (.seq (.region tM) .ret) .skip)) (.seq (.region DX) .ret)) (aS mW.res (bV (if bZ (val a)>4096∨bZ (val b)>4096 then wW 2 else aTV (neg&&decide (val a≠0)) (val a) (val b)))) F H:=by
 have fin:∀ (r:List (List PV)) F H,F 6=some (.ptr o 3 0 0)→F 7=some (.int .i64 2)→H o=some (.rows 3 [[.bool false,.buJ,.buJ]])→aS mW.res (bV (wW 2)) .ret F H:=by
  intro r F H h6 h7 h
  refine fS ?_
  simp only[go_sem,δ,mW,h6,h7,h]
 simp only[go_sem,DW,f1]
 refine aA (L.bits a ha la) rfl ?_
 by_cases c1:bZ (val a)>4096
 ·have c1':((bZ (val a):Nat):Int)>4096:=by omega
  rw[if_pos (.inl c1)]
  simp only[go_sem,δ,γ,c1',tM,f6,hH]
  exact fin [] _ _ (by simp only[go_sem,γ,f6]) rfl Sq
 ·have c1':¬ ((bZ (val a):Nat):Int)>4096:=by omega
  simp only[go_sem,γ,c1',f2]
  refine aA (L.bits b hb lb) rfl ?_
  by_cases c2:bZ (val b)>4096
  ·have c2':((bZ (val b):Nat):Int)>4096:=by omega
   rw[if_pos (.inr c2)]
   simp only[go_sem,δ,γ,reduceCtorEq,c2',tM,f6,hH]
   exact fin [] _ _ (by simp only[go_sem,γ,f6]) rfl Sq
  ·have c2':¬ ((bZ (val b):Nat):Int)>4096:=by omega
   rw[if_neg Om]
   have last:∀ F:PF,F 1=some (aD a)→F 2=some (aD b)→F 6=some (.ptr o 3 0 0)→∀ (q:Bool),q=(neg&&decide (val a≠0))→F 47=some (.bool q) →
     True:=fun _ _ _ _ _ _ _=>trivial
   simp only[go_sem,γ,reduceCtorEq,c2',DX,f0,f1,f2,f6,hH]
   cases neg with
   | false =>
    simp only[go_sem,γ,reduceCtorEq,f0,f1,f2,f6,hH]
    refine aA (L.trim a ha la) rfl ?_
    simp only[go_sem,γ,f0,f1,f2,f6,hH]
    refine aA (L.trim b hb lb) rfl ?_
    simp only[go_sem,δ,γ,θ,f0,f1,f2,f6,hH,bwT]
    refine aU (.inr rfl) .nil (vs:=[.agg (dS false (aF (val a)) (aF (val b))),.int .i64 0]) ?_ PH.nil_le ⟨.refl _,rfl⟩
    simp only[go_sem,δ,γ,mW,f6,hH]
   | true =>
    simp only[go_sem,γ,f0,f1,f2,f6,hH]
    refine aA (L.bits a ha la) rfl ?_
    have e:decide (((bZ (val a):Nat):Int)>0)=decide (val a≠0):=by
     have:=@iH (val a)
     rw[decide_eq_decide]; omega
    simp only[go_sem,γ,f0,f1,f2,f6,hH,e]
    refine aA (L.trim a ha la) rfl ?_
    simp only[go_sem,γ,f0,f1,f2,f6,hH]
    refine aA (L.trim b hb lb) rfl ?_
    simp only[go_sem,δ,γ,θ,f0,f1,f2,f6,hH,bwY]
    refine aU (.inr rfl) .nil (vs:=[.agg (dS (decide (val a≠0)) (aF (val a)) (aF (val b))),.int .i64 0]) ?_ PH.nil_le ⟨.refl _,rfl⟩
    simp only[go_sem,δ,γ,mW,f6,hH]
theorem aTQ {C:Ctx} (L:pP C) (neg:Bool) (a b:List Nat) (ha:Lim a) (hb:Lim b) (la:a.length≤35184372087808) (lb:b.length≤35184372087808) (na:nl (val a)≤512) (nb:nl (val b)≤512) (h0:val b≠0) :
  vE.wp C (aS mW.res (bV (EY neg (val a) (val b)))) (PF.args [.bool neg,aD a,aD b]) .nil:=by
 simp only[go_sem,δ,vE,ZA,ZB]
 refine aP fun o ho=>?_
 simp only[go_sem,γ]
 refine aA (L.gcd a b ha hb la lb) rfl ?_
 rw[fR na nb]
 simp only[go_sem,γ,reduceCtorEq,ZC]
 have hg0:bwQ (val a) (val b)≠0:=by
  intro h; exact h0 (Nat.gcd_eq_zero_iff.1 h).2
 have hgl:nl (bwQ (val a) (val b))≤512:=Nat.le_trans (eU (Nat.gcd_le_right _ (byN h0))) nb
 have hll:(aF (bwQ (val a) (val b))).length≤35184372087808:=by rw[aV]; omega
 refine aA (L.bits _ (aR _) hll) rfl ?_
 rw[aQ]
 by_cases c:bwQ (val a) (val b)>1
 ·have c':((bZ (bwQ (val a) (val b)):Nat):Int)>1:=by have:=asH.2 c; omega
  simp only[go_sem,γ,c',ZD]
  refine aA (L.div a _ ha (aR _) la hll) rfl ?_
  rw[aQ,kI,fR na hgl,if_neg (by decide),if_neg hg0]
  simp only[go_sem,γ,ZE]
  refine aA (L.div b _ hb (aR _) lb hll) rfl ?_
  rw[aQ,kI,fR nb hgl,if_neg (by decide),if_neg hg0]
  simp only[go_sem,γ]
  have:=JW L neg (aF (val a/bwQ (val a) (val b))) (aF (val b/bwQ (val a) (val b))) (aR _) (aR _) (by rw[aV]; have:=abD (bwQ (val a) (val b)) na; omega) (by rw[aV]; have:=abD (bwQ (val a) (val b)) nb; omega) o
  rw[aQ,aQ] at this
  have:=fun F H=>this F H
  simp only[aB.wp,go_sem] at this
  exact this _ _ rfl rfl rfl rfl rfl Sq
 ·have c':¬ ((bZ (bwQ (val a) (val b)):Nat):Int)>1:=by have:=(@asH (bwQ (val a) (val b))); omega
  have e1:bwQ (val a) (val b)=1:=by omega
  simp only[go_sem,γ,c']
  rw[EY,e1,Nat.div_one,Nat.div_one]
  have:=JW L neg a b ha hb la lb o
  simp only[aB.wp,go_sem] at this
  exact this _ _ rfl rfl rfl rfl rfl Sq
structure CD (C:Ctx):Prop extends pP C where
 times:∀ a b,Lim a→Lim b→a.length≤35184372087808→b.length≤35184372087808→nl (val a)≤256→nl (val b)≤256→aE C 121 [aD a,aD b] .nil (aC (aD (aF (val a*val b))))
 zero:∀ neg a b,Lim a→a.length≤35184372087808→aE C 122 [.agg (dS neg a b)] .nil (aC (.bool (decide (val a=0))))
 valid:∀ neg a b,Lim a→Lim b→a.length≤35184372087808→b.length≤35184372087808→aE C 118 [.agg (dS neg a b)] .nil (aC (.bool (cH (val a) (val b))))
 abs:∀ v:Int,-9223372036854775808≤v→v≤9223372036854775807→aE C 119 [.int .i64 v] .nil (aC (aD (aF v.natAbs)))
 lowest:∀ neg a b,Lim a→Lim b→a.length≤35184372087808→b.length≤35184372087808→nl (val a)≤512→nl (val b)≤512→val b≠0→aE C 120 [.bool neg,aD a,aD b] .nil (aC (EY neg (val a) (val b)))
def aaP (n d:Int):PV:=if d=0 then wW 3 else EY (decide (n<0) != decide (d<0)) n.natAbs d.natAbs
theorem kY {n k:Nat} (h:n<4294967296 ^ k):nl n≤k:=(fY _ _).2 h
theorem ayD (neg:Bool) (a b:Nat):∃ neg' x y e,EY neg a b=.tup [.agg (dS neg' x y),.int .i64 e]:=by
 unfold EY
 split
 ·exact⟨_,_,_,_,rfl⟩
 ·exact⟨_,_,_,_,rfl⟩
theorem a4B {C:Ctx} (L:CD C) (n d:Int) (h1:-9223372036854775808≤n) (h2:n≤9223372036854775807) (h3:-9223372036854775808≤d) (h4:d≤9223372036854775807) :
  DY.wp C (aS PI.res (bV (aaP n d))) (PF.args [.int .i64 n,.int .i64 d]) .nil:=by
 simp only[go_sem,δ,DY,atU,atV]
 refine aP fun o ho=>?_
 unfold aaP
 by_cases c:d=0
 ·subst c
  simp only[go_sem,ρ,δ,γ,atW]
  refine fS ?_
  simp only[go_sem,δ,γ,PI]
 ·rw[if_neg c]
  simp only[go_sem,γ,reduceCtorEq,bD c,atX]
  refine aA (L.abs n h1 h2) rfl ?_
  simp only[go_sem,γ]
  refine aA (L.abs d h3 h4) rfl ?_
  simp only[go_sem]
  have n1:nl n.natAbs≤2:=kY Om
  have n2:nl d.natAbs≤2:=kY Om
  have low:=L.lowest (decide (n<0) != decide (d<0)) (aF n.natAbs) (aF d.natAbs) (aR _) (aR _) (by rw[aV]; omega) (by rw[aV]; omega)
  rw[aQ,aQ] at low
  have low:=low Om Om Om
  refine aA low rfl ?_
  obtain⟨neg',x,y,e,hl⟩:=ayD (decide (n<0) != decide (d<0)) n.natAbs d.natAbs
  rw[hl]
  simp only[go_sem,δ,γ]
  exact aU (.inr rfl) .nil (vs:=[.agg (dS neg' x y),.int .i64 e]) (by simp only[go_sem,δ,γ,PI]) PH.nil_le ⟨.refl _,rfl⟩
theorem eR {a b:Nat}:cH a b=true↔b≠0∧nl b≤128∧nl a≤128:=by
 have h1:=jT b 128
 have h2:=jT a 128
 have h3:=@iH b
 simp only[cH,bxJ,decide_eq_true_eq]
 omega
def PT (neg:Bool) (a b:Nat):PV:=if cH a b then EY neg a b else wW 1
theorem aTT {C:Ctx} (L:CD C) (neg:Bool) (a b:List Nat) (ha:Lim a) (hb:Lim b) (la:a.length≤35184372087808) (lb:b.length≤35184372087808) :
  vF.wp C (aS uI.res (bV (PT neg (val a) (val b)))) (PF.args [.agg (dS neg a b)]) .nil:=by
 simp only[go_sem,δ,vF,ZH,ZI]
 refine aP fun o ho=>?_
 simp only[go_sem,δ,γ]
 refine aA (L.valid neg a b ha hb la lb) rfl ?_
 unfold PT
 cases hv:cH (val a) (val b) with
 | false =>
  simp only[go_sem,δ,γ,reduceCtorEq,ZJ,bxB]
  refine fS ?_
  simp only[go_sem,δ,γ,uI]
 | true =>
  obtain⟨v1,v2,v3⟩:=eR.1 hv
  simp only[go_sem,δ,γ,θ,ZK,bwU]
  refine aA (L.lowest neg a b ha hb la lb Om Om v1) rfl ?_
  obtain⟨neg',x,y,e,hl⟩:=ayD neg (val a) (val b)
  rw[hl]
  simp only[go_sem,δ,γ]
  exact aU (.inr rfl) .nil (vs:=[.agg (dS neg' x y),.int .i64 e]) (by simp only[go_sem,δ,γ,uI]) PH.nil_le ⟨.refl _,rfl⟩
def oN (n1:Bool) (a1 b1:Nat) (n2:Bool) (a2 b2:Nat):Int :=
 match n1&&decide (a1≠0),n2&&decide (a2≠0) with
 | true,true=>- cW (a1*b2) (a2*b1)
 | true,false=>-1
 | false,true=>1
 | false,false=>cW (a1*b2) (a2*b1)
def wT (n1:Bool) (a1 b1:Nat) (n2:Bool) (a2 b2:Nat):PV :=
 if cH a1 b1&&cH a2 b2 then .tup [.int .i64 (oN n1 a1 b1 n2 a2 b2),.int .i64 0] else .tup [.int .i64 0,.int .i64 1]
def fr1:PV→List Nat
 | .agg [_,a,_]=>gG a
 | _=>[]
def frS:Spec:=fun name vs=>match name,vs with
 | 121,[x,y]=>some ([],fun _=>aC (aD (aF (val (gG x)*val (gG y)))))
 | 129,[x,y]=>some ([],fun _=>aC (.int .i64 (cW (val (gG x)) (val (gG y)))))
 | 122,[x]=>some ([],fun _=>aC (.bool (decide (val (fr1 x)=0))))
 | _,_=>none
theorem sD (a b:List Nat):frS 121 [aD a,aD b]=some ([],fun _=>aC (aD (aF (val a*val b)))):=by
 show some _=_; rw[dP,dP]
theorem baB (a b:List Nat):frS 129 [aD a,aD b]=some ([],fun _=>aC (.int .i64 (cW (val a) (val b)))):=by
 show some _=_; rw[dP,dP]
theorem TR (neg:Bool) (a b:List Nat):frS 122 [.agg (dS neg a b)]=some ([],fun _=>aC (.bool (decide (val a=0)))):=by
 show some _=_; rw[fr1,dP]
theorem a3F (a b:Nat):IntKind.i64.wrap (0-cW a b)=- cW a b:=by
 unfold cW; split
 ·rfl
 ·split<;>rfl
theorem a9X {C:Ctx} (L:CD C) (n1 n2:Bool) (a1 b1 a2 b2:List Nat) (ha1:Lim a1) (hb1:Lim b1) (ha2:Lim a2) (hb2:Lim b2)
  (la1:a1.length≤35184372087808) (lb1:b1.length≤35184372087808) (la2:a2.length≤35184372087808) (lb2:b2.length≤35184372087808) :
  JS.wp C (aS atN.res (bV (wT n1 (val a1) (val b1) n2 (val a2) (val b2)))) (PF.args [.agg (dS n1 a1 b1),.agg (dS n2 a2 b2)]) .nil:=by
 simp only[go_sem,δ,γ,JS,aJQ,aJR]
 refine aA (L.valid n1 a1 b1 ha1 hb1 la1 lb1) rfl ?_
 unfold wT
 cases hv:cH (val a1) (val b1) with
 | false =>
  simp only[go_sem,γ,reduceCtorEq,bxB,agM,bwT]
  exact aU (.inr rfl) .nil (vs:=[.int .i64 0,.int .i64 1]) rfl PH.nil_le ⟨.refl _,rfl⟩
 | true =>
  obtain⟨v1,v2,v3⟩:=eR.1 hv
  simp only[go_sem,δ,γ,bwU]
  refine aA (L.valid n2 a2 b2 ha2 hb2 la2 lb2) rfl ?_
  cases hw:cH (val a2) (val b2) with
  | false =>
   simp only[go_sem,γ,reduceCtorEq,bxB,agM,bxT]
   exact aU (.inr rfl) .nil (vs:=[.int .i64 0,.int .i64 1]) rfl PH.nil_le ⟨.refl _,rfl⟩
  | true =>
   obtain⟨w1,w2,w3⟩:=eR.1 hw
   simp only[go_sem,γ,reduceCtorEq,bwU,byL]
   refine bM .nil frS PH.nil_le ?_
   simp only[go_sem,δ,γ,θ,aJS]
   refine bF (sD a1 b2) (L.times a1 b2 ha1 hb2 la1 lb2 Om Om) rfl PH.nil_le ?_
   simp only[go_sem,δ,γ,θ]
   refine bF (sD a2 b1) (L.times a2 b1 ha2 hb1 la2 lb1 Om Om) rfl PH.nil_le ?_
   simp only[go_sem]
   have m1:=jQ v3 w2
   have m2:=jQ w3 v2
   have hc:=L.cmp (aF (val a1*val b2)) (aF (val a2*val b1)) (aR _) (aR _) (by rw[aV]; omega) (by rw[aV]; omega)
   have hs:=baB (aF (val a1*val b2)) (aF (val a2*val b1))
   rw[aQ,aQ] at hc hs
   refine bF hs hc rfl PH.nil_le ?_
   simp only[go_sem,γ]
   refine bM .nil frS PH.nil_le ?_
   have z1:(!decide (val a1=0))=decide (val a1≠0):=by by_cases h:val a1=0<;>simp[h]
   have z2:(!decide (val a2=0))=decide (val a2≠0):=by by_cases h:val a2=0<;>simp[h]
   have fin:∀ (F:PF) (A B:Bool),F 6=some (.int .i64 (cW (val a1*val b2) (val a2*val b1)))→F 7=some (.bool A)→F 8=some (.bool B)→A=(n1&&decide (val a1≠0))→B=(n2&&decide (val a2≠0)) →
     aB.wp C (.seq (.block 0 (.seq (.region uH) (.cond (.tmp 42) (.seq (.region agN) .ret) (.seq (.region AY) (.cond (.tmp 49) (.seq (.region agO) .ret) (.seq (.region PE) (.cond (.tmp 51) (.seq (.region TP) .ret) .skip))))))) (.seq (.region TQ) .ret)) (aS atN.res (bV (.tup [.int .i64 (oN n1 (val a1) (val b1) n2 (val a2) (val b2)),.int .i64 0]))) F .nil:=by
    intro F A B f6 f7 f8 hA hB
    rw[oN,← hA,← hB]
    cases A<;>cases B
    ·simp only[go_sem,γ,reduceCtorEq,uH,AY,PE,TQ,f6,f7,f8]
     exact aU (.inr rfl) .nil rfl PH.nil_le ⟨.refl _,rfl⟩
    ·simp only[go_sem,γ,reduceCtorEq,uH,AY,PE,TP,f6,f7,f8]
     exact aU (.inr rfl) .nil rfl PH.nil_le ⟨.refl _,rfl⟩
    ·simp only[go_sem,ο,γ,uH,AY,agO,f6,f7,f8]
     exact aU (.inr rfl) .nil rfl PH.nil_le ⟨.refl _,rfl⟩
    ·simp only[go_sem,γ,uH,agN,f6,f7,f8,a3F]
     exact aU (.inr rfl) .nil rfl PH.nil_le ⟨.refl _,rfl⟩
   simp only[aB.wp,go_sem] at fin
   simp only[go_sem,δ,γ,θ,aJT]
   cases n1 with
   | false =>
    simp only[go_sem,δ,γ,θ,reduceCtorEq]
    cases n2 with
    | false =>
     simp only[go_sem,γ,reduceCtorEq]
     exact fin _ false false rfl rfl rfl rfl rfl
    | true =>
     simp only[go_sem,δ,γ]
     refine bF (TR true a2 b2) (L.zero true a2 b2 ha2 la2) rfl PH.nil_le ?_
     simp only[go_sem,γ,z2]
     exact fin _ false (decide (val a2≠0)) rfl rfl rfl rfl (by rw[bwY])
   | true =>
    simp only[go_sem,δ,γ]
    refine bF (TR true a1 b1) (L.zero true a1 b1 ha1 la1) rfl PH.nil_le ?_
    simp only[go_sem,δ,γ,θ,z1]
    cases n2 with
    | false =>
     simp only[go_sem,γ,reduceCtorEq]
     exact fin _ (decide (val a1≠0)) false rfl rfl rfl (by rw[bwY]) rfl
    | true =>
     simp only[go_sem,δ,γ]
     refine bF (TR true a2 b2) (L.zero true a2 b2 ha2 la2) rfl PH.nil_le ?_
     simp only[go_sem,γ,z2]
     exact fin _ (decide (val a1≠0)) (decide (val a2≠0)) rfl rfl rfl (by rw[bwY]) (by rw[bwY])
abbrev FV:=Bool × Nat × Nat
abbrev FR:=Except Int FV
def fU (neg:Bool) (a b:Nat):FR :=
 if bZ (a/bwQ a b)>4096∨bZ (b/bwQ a b)>4096 then .error 2 else .ok (neg&&decide (a/bwQ a b≠0),a/bwQ a b,b/bwQ a b)
def frV:FR→PV
 | .ok (n,a,b)=>aTV n a b
 | .error e=>wW e
theorem ahC (neg:Bool) (a b:Nat):EY neg a b=frV (fU neg a b):=by
 unfold EY fU
 split<;>rfl
def gD:FV→FV→FR
 | (n1,a1,b1),(n2,a2,b2)=>if cH a1 b1&&cH a2 b2 then
   (if n1=n2 then fU n1 (a1*b2+a2*b1) (b1*b2) else if a2*b1≤a1*b2 then fU n1 (a1*b2-a2*b1) (b1*b2) else fU n2 (a2*b1-a1*b2) (b1*b2))
  else .error 1
theorem azR {a b m:Nat} (ha:nl a≤m) (hb:nl b≤m):nl (a+b)≤m+1:=by
 rw[fY] at ha hb ⊢
 rw[byE]; omega
theorem OZ (a b:Nat):(cW a b≥0)↔b≤a:=by
 unfold cW
 split
 ·constructor
  ·intro h; exact absurd h (by decide)
  ·intro h; omega
 ·split
  ·constructor
   ·intro h; omega
   ·intro h; decide
  ·constructor
   ·intro h; omega
   ·intro h; decide
theorem qS (r:FR):∃ neg' x y e,frV r=.tup [.agg (dS neg' x y),.int .i64 e]:=by
 rcases r with e | ⟨n,a,b⟩
 ·exact⟨_,_,_,_,rfl⟩
 ·exact⟨_,_,_,_,rfl⟩
theorem a9V {C:Ctx} (L:CD C) (n1 n2:Bool) (a1 b1 a2 b2:List Nat) (ha1:Lim a1) (hb1:Lim b1) (ha2:Lim a2) (hb2:Lim b2)
  (la1:a1.length≤35184372087808) (lb1:b1.length≤35184372087808) (la2:a2.length≤35184372087808) (lb2:b2.length≤35184372087808) :
  JR.wp C (aS JQ.res (bV (frV (gD (n1,val a1,val b1) (n2,val a2,val b2))))) (PF.args [.agg (dS n1 a1 b1),.agg (dS n2 a2 b2)]) .nil:=by
 simp only[go_sem,δ,γ,JR,aJH]
 refine aP fun o ho=>?_
 simp only[go_sem,δ,γ,aJI]
 refine aA (L.valid n1 a1 b1 ha1 hb1 la1 lb1) rfl ?_
 simp only[gD]
 cases hv:cH (val a1) (val b1) with
 | false =>
  simp only[go_sem,δ,γ,reduceCtorEq,bxB,agL,bwT]
  refine fS ?_
  simp only[go_sem,δ,γ,JQ]
 | true =>
  obtain⟨v1,v2,v3⟩:=eR.1 hv
  simp only[go_sem,δ,γ,bwU]
  refine aA (L.valid n2 a2 b2 ha2 hb2 la2 lb2) rfl ?_
  cases hw:cH (val a2) (val b2) with
  | false =>
   simp only[go_sem,δ,γ,reduceCtorEq,bxB,agL,bxT]
   refine fS ?_
   simp only[go_sem,δ,γ,JQ]
  | true =>
   obtain⟨w1,w2,w3⟩:=eR.1 hw
   simp only[go_sem,γ,reduceCtorEq,bwU,byL]
   refine bM .nil frS PH.nil_le ?_
   simp only[go_sem,δ,γ,θ,aJJ]
   refine bF (sD a1 b2) (L.times a1 b2 ha1 hb2 la1 lb2 Om Om) rfl PH.nil_le ?_
   simp only[go_sem,δ,γ,θ]
   refine bF (sD a2 b1) (L.times a2 b1 ha2 hb1 la2 lb1 Om Om) rfl PH.nil_le ?_
   simp only[go_sem,γ]
   refine bF (sD b1 b2) (L.times b1 b2 hb1 hb2 lb1 lb2 Om Om) rfl PH.nil_le ?_
   simp only[go_sem,γ]
   have m1:=jQ v3 w2
   have m2:=jQ w3 v2
   have m3:=jQ v2 w2
   have d0:val b1*val b2≠0:=Nat.mul_ne_zero v1 w1
   generalize hA:val a1*val b2=A at *
   generalize hB:val a2*val b1=B at *
   generalize hD:val b1*val b2=D at *
   have fin:∀ (F:PF) (H:PH) (r:FR),(∃ neg' x y e,frV r=.tup [.agg (dS neg' x y),.int .i64 e]∧F 4=some (.ptr o 3 0 0)∧F 5=some (.int .i64 e)∧H o=some (.rows 3 [dS neg' x y]))→aS JQ.res (bV (frV r)) .ret F H:=by
    rintro F H r ⟨neg',x,y,e,he,f4,f5,hH⟩
    rw[he]
    exact aU (.inr rfl) .nil (vs:=[.agg (dS neg' x y),.int .i64 e]) (by simp only[go_sem,δ,JQ,f4,f5,hH]) PH.nil_le ⟨.refl _,rfl⟩
   have eb:(n1==n2)=decide (n1=n2):=by cases n1<;>cases n2<;>rfl
   have low:∀ neg x,nl x≤257→aE C 120 [.bool neg,aD (aF x),aD (aF D)] .nil (aC (frV (fU neg x D))):=by
    intro neg x hx
    have h1:(aF x).length≤35184372087808:=by rw[aV]; omega
    have h2:(aF D).length≤35184372087808:=by rw[aV]; omega
    have:=L.lowest neg (aF x) (aF D) (aR _) (aR _) h1 h2
    rw[aQ,aQ,ahC] at this
    exact this Om Om d0
   have lA:(aF A).length≤35184372087808:=by rw[aV]; omega
   have lB:(aF B).length≤35184372087808:=by rw[aV]; omega
   simp only[go_sem,δ,γ,θ,aJK]
   by_cases c:n1=n2
   ·rw[if_pos c]
    have c':(n1==n2)=true:=by rw[eb,decide_eq_true c]
    simp only[go_sem,γ,c',aJL]
    have hadd:=L.add (aF A) (aF B) (aR _) (aR _) lA lB
    have nab:=azR m1 m2
    rw[aQ,aQ,fR Om Om,opV,wA Om] at hadd
    refine aA hadd rfl ?_
    simp only[go_sem,δ,γ,θ,reduceCtorEq,aJM]
    refine aA (low n1 _ Om) rfl ?_
    obtain⟨neg',x,y,e,hl⟩:=qS (fU n1 (A+B) D)
    rw[hl]
    simp only[go_sem,δ,γ]
    rw[← hl]
    exact fin _ _ _ ⟨neg',x,y,e,hl,by simp only[go_sem,γ],by simp only[go_sem,γ],by simp only[go_sem]⟩
   ·rw[if_neg c]
    have c':(n1==n2)=false:=by rw[eb,decide_eq_false c]
    simp only[go_sem,γ,c',aJN]
    have hc:=L.cmp (aF A) (aF B) (aR _) (aR _) lA lB
    rw[aQ,aQ] at hc
    refine aA hc rfl ?_
    have hsub:∀ X Y:Nat,nl X≤256→nl Y≤256→Y≤X→aE C 134 [aD (aF X),aD (aF Y)] .nil (aC (.tup [aD (aF (X-Y)),.int .i64 0])):=by
     intro X Y h1 h2 h
     have:=L.sub (aF X) (aF Y) (aR _) (aR _) (by rw[aV]; omega) (by rw[aV]; omega)
     have h3:=eU (Om:X-Y≤X)
     rw[aQ,aQ,oQ,fR Om Om,if_neg (by decide),if_neg Om,wA Om] at this
     exact this
    by_cases g:B≤A
    ·have g':cW A B≥0:=(OZ A B).2 g
     rw[if_pos g]
     simp only[go_sem,γ,g',aJO]
     refine aA (hsub A B Om Om g) rfl ?_
     simp only[go_sem,δ,γ,θ,aJP]
     have h3:=eU (Om:A-B≤A)
     refine aA (low n1 (A-B) Om) rfl ?_
     obtain⟨neg',x,y,e,hl⟩:=qS (fU n1 (A-B) D)
     rw[hl]
     simp only[go_sem,δ,γ]
     rw[← hl]
     exact fin _ _ _ ⟨neg',x,y,e,hl,by simp only[go_sem,γ],by simp only[go_sem,γ],by simp only[go_sem]⟩
    ·have g':¬ cW A B≥0:=fun h=>g ((OZ A B).1 h)
     rw[if_neg g]
     simp only[go_sem,γ,g',atL]
     refine aA (hsub B A Om Om Om) rfl ?_
     simp only[go_sem,δ,γ,θ,atM]
     have h3:=eU (Om:B-A≤B)
     refine aA (low n2 (B-A) Om) rfl ?_
     obtain⟨neg',x,y,e,hl⟩:=qS (fU n2 (B-A) D)
     rw[hl]
     simp only[go_sem,δ,γ]
     rw[← hl]
     exact fin _ _ _ ⟨neg',x,y,e,hl,by simp only[go_sem,γ],by simp only[go_sem,γ],by simp only[go_sem]⟩
structure RF where
 neg:Bool
 num:List Nat
 den:List Nat
abbrev RF.cells (x:RF):List PV:=dS x.neg x.num x.den
def RF.Ok (x:RF):Prop:=Lim x.num∧Lim x.den∧x.num.length≤35184372087808∧x.den.length≤35184372087808
def RF.v (x:RF):FV:=(x.neg,val x.num,val x.den)
abbrev frs (l:List RF):PV:=.sl 3 (l.map RF.cells)
def FV.rf:FV→RF
 | (n,a,b)=>⟨n,aF a,aF b⟩
def FV.Small:FV→Prop
 | (_,a,b)=>nl a≤900000∧nl b≤900000
theorem FV.bgN (x:FV):x.rf.v=x:=by
 obtain⟨n,a,b⟩:=x
 show (n,val (aF a),val (aF b))=_
 rw[aQ,aQ]
def mQ (l:List FV):FR:=l.foldlM gD (false,0,1)
theorem pZ {neg:Bool} {a b:Nat} {r:FV} (h:fU neg a b=.ok r):r.Small∧r.rf.Ok:=by
 unfold fU at h
 split at h
 ·cases h
 ·rename_i hc
  have h1:=(jT (a/bwQ a b) 128).1 Om
  have h2:=(jT (b/bwQ a b) 128).1 Om
  injection h with h
  subst h
  refine⟨⟨by omega,by omega⟩,aR _,aR _,?_,?_⟩
  ·show (aF _).length≤_
   rw[aV]; omega
  ·show (aF _).length≤_
   rw[aV]; omega
theorem agE {x y r:FV} (h:gD x y=.ok r):r.rf.Ok:=by
 obtain⟨n1,a1,b1⟩:=x
 obtain⟨n2,a2,b2⟩:=y
 simp only[gD] at h
 split at h
 ·split at h
  ·exact (pZ h).2
  ·split at h
   ·exact (pZ h).2
   ·exact (pZ h).2
 ·cases h
theorem QU {α β:Type} {f:β→α→Except Int β} (l:List α) (b:β) {k:Nat} (h:k<l.length):(l.take (k+1)).foldlM f b=((l.take k).foldlM f b).bind fun x=>f x l[k]:=by
 rw[byH h,List.foldlM_append]
 cases (l.take k).foldlM f b with
 | error e=>rfl
 | ok x =>
  show ([l[k]]:List α).foldlM f x=f x l[k]
  rw[List.foldlM_cons]
  cases f x l[k]<;>rfl
theorem ZF {α β:Type} {f:β→α→Except Int β} (l:List α) (b:β) {k:Nat} {e:Int} (h:(l.take k).foldlM f b=.error e):l.foldlM f b=.error e:=by
 conv=>lhs; rw[← byX k l,List.foldlM_append,h]
 rfl
def a6T (l:List RF) (o2 o4:Nat) (k:Nat):PF:=((((((PF.nil.set 2 (.ptr o2 3 0 0)).set 3 (.int .i64 0)).set 4 (.ptr o4 3 0 0)).set 11 (frs l)).set 12 (.int .i64 (l.length:Nat))).set 13 (.int .i64 k))
def VS (o2 o4:Nat) (c:List PV):PH:=(PH.nil.set o2 (.rows 3 [[.bool false,.buJ,.buJ]])).set o4 (.rows 3 [c])
theorem baD {C:Ctx} (L:CD C) (hadd:∀ x y:RF,x.Ok→y.Ok→aE C 113 [.agg x.cells,.agg y.cells] .nil (aC (frV (gD x.v y.v)))) (l:List RF) (hl:∀ x∈l,x.Ok) (hlen:l.length≤9223372036854775807) :
  JY.wp C (aS TU.res (bV (frV (mQ (l.map RF.v))))) (PF.args [frs l]) .nil:=by
 simp only[go_sem,δ,JY,aJW]
 refine aP fun o2 ho2=>?_
 simp only[go_sem,aJX]
 refine aA (L.make 1 (by decide)) rfl ?_
 simp only[go_sem,δ,γ]
 refine aP fun o4 ho4=>?_
 have hne:o4≠o2:=by rintro rfl; simp only[bL,if_true] at ho4; cases ho4
 have bvO:o2≠o4:=Ne.symm hne
 simp only[go_sem,δ,γ,reduceCtorEq,aJY]
 refine wp_loop (α:=Nat × FV × PV) (fun t=>a6T l o2 o4 t.1) (fun t=>VS o2 o4 [.bool t.2.1.1,t.2.2,aD (aF t.2.1.2.2)]) (fun t=>t.1≤l.length∧((l.map RF.v).take t.1).foldlM gD (false,0,1)=.ok t.2.1∧(t.2.2=.buJ∧t.2.1.2.1=0∨t.2.2=aD (aF t.2.1.2.1))∧(FV.rf t.2.1).Ok) (fun t=>l.length-t.1)
  (0,(false,0,1),.buJ) ⟨bwZ _,rfl,.inl ⟨rfl,rfl⟩,⟨aR _,aR _,?_,?_⟩⟩ ?_ ?_ ?_
 ·show (aF 0).length≤_
  rw[eQ]; simp
 ·show (aF 1).length≤_
  rw[lI (by decide) (by decide)]; simp
 ·unfold a6T
  (repeat' (first|exact PF.nil_le|refine PF.aH ?_ ?_))<;>first|(simp only[go_sem,γ,bwN]<;>rfl)|rfl
 ·unfold VS
  exact PH.aH (PH.aH PH.nil_le (by simp only[go_sem,bvO,hne])) (by simp only[go_sem,bvO,hne])
 rintro⟨k,⟨an,aa,ab⟩,cy⟩ ⟨hk,hf,hco,hacc⟩
 simp only at hk hf hco hacc ⊢
 have hco':CoL [.bool an,cy,aD (aF ab)] (FV.rf (an,aa,ab)).cells:=by
  refine .cons (.refl _) (.cons ?_ (.cons (.refl _) .nil))
  rcases hco with ⟨rfl,rfl⟩ | rfl
  ·show Co .buJ (aD (aF 0))
   rw[eQ]; exact .nil 1
  ·exact .refl _
 simp only[go_sem,γ,auA,aJZ,a6T]
 by_cases hlt:k<l.length
 ·have buP:(k:Int)<(l.length:Nat):=by omega
  have hr:(l.map RF.cells)[k]?=some (l[k]).cells:=by simp[hlt]
  simp only[go_sem,δ,γ,buP,aKA,hr]
  refine aP fun o6 ho6=>?_
  have n64:o4≠o6:=by rintro rfl; simp only[VS,bL,if_true] at ho6; cases ho6
  have n62:o2≠o6:=by rintro rfl; simp only[VS,bL,if_true,if_neg bvO] at ho6; cases ho6
  simp only[go_sem,δ,γ,aKB,VS,n64,n62,hne,bvO]
  refine aA ((hadd (FV.rf (an,aa,ab)) l[k] hacc (hl _ (bwS hlt))).args (.cons (CoL.agg hco') (.cons (.refl _) .nil))) rfl ?_
  rw[FV.bgN]
  have buQ:=QU (f:=gD) (l.map RF.v) (false,0,1) (k:=k) (by simpa using hlt)
  rw[hf] at buQ
  simp only[Except.bind,byO] at buQ
  cases he:gD (an,aa,ab) (l[k]).v with
  | error e =>
   simp only[go_sem,δ,γ,frV]
   refine aP fun o7 ho7=>?_
   have he0:e≠0:=by
    revert he
    obtain⟨n2,a2,b2⟩:=(l[k]).v
    simp only[gD,fU]
    repeat' split
    all_goals (intro h; first | (injection h with h; subst h; decide) | cases h)
   have n72:o2≠o7:=by rintro rfl; simp only[bL,n62,bvO,if_true,if_false] at ho7; cases ho7
   simp only[go_sem,δ,γ,agQ,dA he0,aKC,n72,n62,bvO]
   rw[he] at buQ
   rw[mQ,ZF _ _ buQ]
   refine fS ?_
   simp only[go_sem,δ,γ,TU]
  | ok r =>
   obtain⟨rn,ra,rb⟩:=r
   simp only[go_sem,δ,γ,frV]
   refine aP fun o7 ho7=>?_
   have n74:o4≠o7:=by rintro rfl; simp only[bL,n64,if_true,if_false] at ho7; cases ho7
   have n72:o2≠o7:=by rintro rfl; simp only[bL,n62,bvO,if_true,if_false] at ho7; cases ho7
   simp only[go_sem,σ,δ,γ,agQ,aKD,n74,n72,n64,n62,hne,bvO,Ne.symm n74,aKE,wZz k]
   rw[he] at buQ
   refine aJ (k+1,(rn,ra,rb),aD (aF ra)) ⟨hlt,buQ,.inr rfl,agE he⟩ (by simp only; omega) ?_ ?_
   ·exact Lq
   ·refine PH.aH (PH.aH PH.nil_le ?_) ?_
    ·simp only[go_sem,bvO,hne,n74,n72,n64,n62]
    ·simp only[go_sem,bvO,hne,n74,n72,n64,n62]
 ·have buP:¬ (k:Int)<(l.length:Nat):=by omega
  have:k=l.length:=by omega
  subst this
  rw[bxC (by simp)] at hf
  rw[mQ,hf]
  have hfin:bV (frV (.ok (an,aa,ab))) (aT [.agg [.bool an,cy,aD (aF ab)],.int .i64 0]) .nil:=⟨CoL.tup (.cons (CoL.agg hco') (.cons (.refl _) .nil)),rfl⟩
  rcases hco with ⟨rfl,rfl⟩ | rfl
  ·simp only[go_sem,δ,γ,buP,TV,VS,hne,bvO]
   refine aU (.inr rfl) .nil ?_ PH.nil_le hfin
   simp only[go_sem,δ,γ,TU,hne,bvO]
  ·simp only[go_sem,δ,γ,buP,TV,VS,hne,bvO]
   refine aU (.inr rfl) .nil ?_ PH.nil_le hfin
   simp only[go_sem,δ,γ,TU,hne,bvO]
end Go.PM
