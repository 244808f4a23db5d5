/-
  Texts of ours, joined: Pm21 Pm22 Pm23 Pm24 Pm25 Pm26 L11Code NaCode Pm27 Pm29 Pm30 Pm31 NaPlain NaW1 NaW2 NaW3 NaW4 NaW5 NaW6 NaW7 NaW8 NaW9 NaKn NaW10 NaW11 Pm32 NaW12 NaW13 NaW14 NaW15 FrCode FrW1 FrW2 FrW3 FrW4. No condition.
-/
import Derived.Test.YtelckcmlobadkaaGreatDoorRw1
import Derived.ProofKit
import Derived.OpenShut
set_option linter.unusedSimpArgs false
set_option linter.unusedVariables false
open Nat renaming reduceEqDiff → γ, reduceAdd → δ, reduceSub → ε, reduceMul → ζ, reduceLT → η, reduceLeDiff → θ, reduceBEq → τ
open Int renaming reduceLT → ι, reduceLE → κ, reduceEq → μ, reduceToNat → ν, reduceAdd → ξ, reduceNeg → ο, reduceBEq → ρ, reduceBNe → σ
open List renaming reduceReplicate → υ
open List renaming length_map → bIM, range → bIN, replicate → bIP, length_append → bIQ, getElem_mem → bIS, length_singleton → bIX, getElem?_eq_getElem → bIZ, mem_cons → bJB, take_of_length_le → bJD, getD_eq_getElem?_getD → bJE, length_take → bJF, not_mem_nil → bJI, all_eq_true → bJL, take_length → bJN, append_assoc → bJO, drop_zero → bJR, getElem?_map → bJU, mem_map → bJV, getElem?_eq_none → bJY, append_nil → bJZ, getElem?_eq_some_iff → bKA, map_cons → bKD, drop_eq_getElem_cons → bKE, Sublist → bKH, getElem_map → bKI, mem_append → bKL, take_succ_eq_append_getElem → bKM, length_drop → bKQ, mem_range → bKR, length_set → bKU, map_append → bKV, map_nil → bKW, mem_of_getElem? → bKX, length_nil → bLA, take_append_drop → bLB, getElem?_append_left → bLF, length_cons → bLG, nodup_append → bLH, ext_getElem → bLI, getElem?_append_right → bLJ, getElem?_take → bLK, getElem_of_mem → bLL, set_append_right → bLM, drop_of_length_le → bLT
open Bool renaming not_true → bIO, false_and → bIV, not_false → bIY, true_and → bJC, and_eq_true → bJK, and_false → bJW, and_true → bKZ, and_assoc → bLE, false_eq_true → bLS
open Nat renaming gcd → bIR, zero_le → bIT, le_refl → bIU, mul_add → bJA, lt_or_ge → bJG, mul_assoc → bJH, zero_add → bJJ, mul_comm → bJM, add_mul → bJP, mul_le_mul_right → bJQ, mod_eq_of_lt → bJT, mod_lt → bJX, pow_succ → bKB, add_zero → bKF, le_trans → bKG, min_eq_left → bKJ, eq_zero_or_pos → bKN, mul_le_mul_left → bKO, pos_of_ne_zero → bKP, add_assoc → bKS, pow_pos → bKY, div_lt_iff_lt_mul → bLC, div_add_mod → bLN, div_eq_of_lt → bLO
open Option renaming map_eq_some_iff → bIW, map_some → bJS, getD_some → bKK, some → bKT, bind_eq_some_iff → bLP, bind_some → bLQ
open Array renaming replicate → bKC, length_toList → bLD, getElem?_eq_getElem → bLR, getElem?_eq_some_iff → bLU
namespace Go.PM
open Go
attribute [go_sem] List.getElem?_cons_succ List.getElem?_cons_zero and_self and_true true_and or_true true_or or_false false_or bIO bIY bJS bLQ if_true if_false bLG bLA List.drop_succ_cons bJR List.take_succ_cons List.take_zero bKD bKW bKT.injEq PV.bool.injEq PV.int.injEq aN PV.bin
@[go_sem] theorem bxW (k:IntKind) (a b:Int):kG .add k a b=some (.int k (k.wrap (a+b))):=(rfl)
@[go_sem] theorem byG (k:IntKind) (a b:Int):kG .sub k a b=some (.int k (k.wrap (a-b))):=(rfl)
@[go_sem] theorem byC (k:IntKind) (a b:Int):kG .mul k a b=some (.int k (k.wrap (a*b))):=(rfl)
@[go_sem] theorem byE (k:IntKind) (a b:Int):kG .quo k a b=if b=0 then none else some (.int k (k.wrap (a.tdiv b))):=(rfl)
@[go_sem] theorem byF (k:IntKind) (a b:Int):kG .rem k a b=if b=0 then none else some (.int k (a.tmod b)):=(rfl)
@[go_sem] theorem bxX (k:IntKind) (a b:Int):kG .eql k a b=some (.bool (a==b)):=(rfl)
@[go_sem] theorem byD (k:IntKind) (a b:Int):kG .neq k a b=some (.bool (a != b)):=(rfl)
@[go_sem] theorem byB (k:IntKind) (a b:Int):kG .lss k a b=some (.bool (decide (a<b))):=(rfl)
@[go_sem] theorem byA (k:IntKind) (a b:Int):kG .leq k a b=some (.bool (decide (a≤b))):=(rfl)
@[go_sem] theorem bxZ (k:IntKind) (a b:Int):kG .gtr k a b=some (.bool (decide (a>b))):=(rfl)
@[go_sem] theorem bxY (k:IntKind) (a b:Int):kG .geq k a b=some (.bool (decide (a≥b))):=(rfl)
section
variable {C:Ctx} {K:bX} {F:PF} {H:PH}
@[go_sem] theorem bEL:aB.wp C .skip K F H=K .normal F H:=(rfl)
@[go_sem] theorem bzS (ops:List bB):aB.wp C (.region ops) K F H=wpOps C ops (K .normal) F H:=(rfl)
@[go_sem] theorem amG (a b:aB):aB.wp C (.seq a b) K F H=a.wp C (hC C (b.wp C) K) F H:=(rfl)
@[go_sem] theorem bAZ (id:Nat) (c:aB):aB.wp C (.block id c) K F H=c.wp C (dJ id K) F H:=(rfl)
@[go_sem] theorem bEK (id:Nat):aB.wp C (.exit id) K F H=K (.exit id) F H:=(rfl)
@[go_sem] theorem bEW:aB.wp C .ret K F H=K .ret F H:=(rfl)
def QP (C:Ctx) (v:Option PV) (a b:aB) (K:bX) (F:PF) (H:PH):Prop :=
 match v with
 | some (.bool t)=>if t then a.wp C K F H else b.wp C K F H
 | _=>False
@[go_sem] theorem boY (c:aP) (a b:aB):aB.wp C (.cond c a b) K F H=QP C (c.ev F) a b K F H:=(rfl)
@[go_sem] theorem byM (a b:aB):QP C (some (.bool true)) a b K F H=a.wp C K F H:=(rfl)
@[go_sem] theorem bxB (a b:aB):QP C (some (.bool false)) a b K F H=b.wp C K F H:=(rfl)
theorem biU {t:Bool} {a b:aB} (h1:t=true→a.wp C K F H) (h2:t=false→b.wp C K F H):QP C (some (.bool t)) a b K F H:=by
 cases t
 ·exact h2 rfl
 ·exact h1 rfl
@[go_sem] theorem bxH (w:bX→PF→PH→Prop):hC C w K .normal F H=w K F H:=(rfl)
@[go_sem] theorem bwP (w:bX→PF→PH→Prop):hC C w K .normal=w K:=(rfl)
@[go_sem] theorem bAN (w:bX→PF→PH→Prop) (id:Nat):hC C w K (.exit id)=K (.exit id):=(rfl)
@[go_sem] theorem bDZ (w:bX→PF→PH→Prop):hC C w K .ret=K .ret:=(rfl)
@[go_sem] theorem buX (id:Nat):dJ id K .normal=K .normal:=(rfl)
@[go_sem] theorem byJ (id:Nat):dJ id K .ret=K .ret:=(rfl)
@[go_sem] theorem AL (id id':Nat):dJ id K (.exit id') F H=if id'=id then K .normal F H else K (.exit id') F H:=(rfl)
@[go_sem] theorem bzQ (K:PF→PH→Prop):wpOps C [] K F H=K F H:=(rfl)
@[go_sem] theorem bzR (d:Option Nat) (op:POp) (rest:List bB) (K:PF→PH→Prop):wpOps C (⟨d,op,none⟩::rest) K F H=wpOp C op d (wpOps C rest K) F H:=(rfl)
def uG (C:Ctx) (v:Option PV) (want:Bool) (op:POp) (d:Option Nat) (rest:List bB) (K:PF→PH→Prop) (F:PF) (H:PH):Prop :=
 match v with
 | some (.bool b)=>if b=want then wpOp C op d (wpOps C rest K) F H else wpOps C rest K (F.put d (.tup [])) H
 | some (.tup [])=>wpOps C rest K (F.put d (.tup [])) H
 | _=>False
@[go_sem] theorem aSH (d:Option Nat) (op:POp) (t:Nat) (want:Bool) (rest:List bB) (K:PF→PH→Prop) :
  wpOps C (⟨d,op,some (t,want)⟩::rest) K F H=uG C (F t) want op d rest K F H:=(rfl)
@[go_sem] theorem bAJ (op:POp) (d:Option Nat) (rest:List bB) (K:PF→PH→Prop):uG C (some (.bool true)) true op d rest K F H=wpOp C op d (wpOps C rest K) F H:=(rfl)
@[go_sem] theorem bAG (op:POp) (d:Option Nat) (rest:List bB) (K:PF→PH→Prop):uG C (some (.bool false)) false op d rest K F H=wpOp C op d (wpOps C rest K) F H:=(rfl)
@[go_sem] theorem bAI (op:POp) (d:Option Nat) (rest:List bB) (K:PF→PH→Prop):uG C (some (.bool true)) false op d rest K F H=wpOps C rest K (F.put d (.tup [])) H:=(rfl)
@[go_sem] theorem bAH (op:POp) (d:Option Nat) (rest:List bB) (K:PF→PH→Prop):uG C (some (.bool false)) true op d rest K F H=wpOps C rest K (F.put d (.tup [])) H:=(rfl)
@[go_sem] theorem bxG (want:Bool) (op:POp) (d:Option Nat) (rest:List bB) (K:PF→PH→Prop):uG C (some (.tup [])) want op d rest K F H=wpOps C rest K (F.put d (.tup [])) H:=(rfl)
@[go_sem] theorem bBT (d:Nat) (v:PV):F.put (some d) v=F.set d v:=(rfl)
@[go_sem] theorem bBS (v:PV):F.put none v=F:=(rfl)
@[go_sem] theorem mJ (i j:Nat) (v:PV):(F.set i v) j=if j=i then some v else F j:=(rfl)
@[go_sem] theorem args_at (vs:List PV) (i:Nat):PF.args vs i=vs[i]?:=(rfl)
@[go_sem] theorem bFB (i:Nat):PF.nil i=none:=(rfl)
@[go_sem] theorem aaH (t:Nat):(aP.tmp t).ev F=F t:=(rfl)
@[go_sem] theorem bBL (v:PV):(aP.const v).ev F=some v:=(rfl)
@[go_sem] theorem bA (i j:Nat) (x:cE):(H.set i x) j=if j=i then some x else H j:=(rfl)
@[go_sem] theorem akG (i:Nat):PH.nil i=none:=(rfl)
@[go_sem] theorem QS:aP.evs F []=some []:=(rfl)
@[go_sem] theorem xN (x:aP) (xs:List aP):aP.evs F (x::xs)=(match x.ev F,aP.evs F xs with | some v,some vs=>some (v::vs) | _,_=>none):=(rfl)
theorem gT {i j:Nat} {x:cE}:(H.set i x) j=none↔j≠i∧H j=none:=by
 rw[bA]
 split<;>simp_all
@[go_sem] theorem bxI (v:PV) (d:Option Nat) (K:PF→PH→Prop):bS (some v) d K F H=K (F.put d v) H:=by
 simp[bS]
theorem aO {mk:Nat→PV} {x:cE} {d:Option Nat} {K:PF→PH→Prop} (h:∀ o,H o=none→K (F.put d (mk o)) (H.set o x)):lZ (some (mk,x)) d K F H:=⟨mk,x,rfl,h⟩
@[go_sem] theorem bEU (x:aP) (d:Option Nat) (K:PF→PH→Prop):wpOp C (.mv x) d K F H=bS (aN (.mv x) F H) d K F H:=(rfl)
@[go_sem] theorem bAY (x:aP) (d:Option Nat) (K:PF→PH→Prop):wpOp C (.same x) d K F H=bS (aN (.same x) F H) d K F H:=(rfl)
@[go_sem] theorem bAX (c a b:aP) (d:Option Nat) (K:PF→PH→Prop):wpOp C (.pick c a b) d K F H=bS (aN (.pick c a b) F H) d K F H:=(rfl)
@[go_sem] theorem bEF (o:BinOp) (x y:aP) (d:Option Nat) (K:PF→PH→Prop):wpOp C (.bin o x y) d K F H=bS (aN (.bin o x y) F H) d K F H:=(rfl)
@[go_sem] theorem bEH (n:Bool) (x y:aP) (d:Option Nat) (K:PF→PH→Prop):wpOp C (.eqb n x y) d K F H=bS (aN (.eqb n x y) F H) d K F H:=(rfl)
@[go_sem] theorem bEI (n:Bool) (ks:List Sc) (x y:aP) (d:Option Nat) (K:PF→PH→Prop):wpOp C (.eqs n ks x y) d K F H=bS (aN (.eqs n ks x y) F H) d K F H:=(rfl)
@[go_sem] theorem bEV (o:UnOp) (x:aP) (d:Option Nat) (K:PF→PH→Prop):wpOp C (.un o x) d K F H=bS (aN (.un o x) F H) d K F H:=(rfl)
@[go_sem] theorem bAR (k:IntKind) (x:aP) (d:Option Nat) (K:PF→PH→Prop):wpOp C (.conv k x) d K F H=bS (aN (.conv k x) F H) d K F H:=(rfl)
@[go_sem] theorem bzK (z:List PV) (ps:List (Nat × Nat × aP)) (d:Option Nat) (K:PF→PH→Prop):wpOp C (.build z ps) d K F H=bS (aN (.build z ps) F H) d K F H:=(rfl)
@[go_sem] theorem bAV (n:Option Nat) (p:aP) (d:Option Nat) (K:PF→PH→Prop):wpOp C (.load n p) d K F H=bS (aN (.load n p) F H) d K F H:=(rfl)
@[go_sem] theorem bxT (x:aP) (d:Option Nat) (K:PF→PH→Prop):wpOp C (.bGX x) d K F H=bS (aN (.bGX x) F H) d K F H:=(rfl)
@[go_sem] theorem bxM (off:Nat) (x:aP) (d:Option Nat) (K:PF→PH→Prop):wpOp C (.bHU off x) d K F H=bS (aN (.bHU off x) F H) d K F H:=(rfl)
@[go_sem] theorem bzM (off:Nat) (n:Option Nat) (x:aP) (d:Option Nat) (K:PF→PH→Prop):wpOp C (.field off n x) d K F H=bS (aN (.field off n x) F H) d K F H:=(rfl)
@[go_sem] theorem bAT (s:Nat) (x i:aP) (d:Option Nat) (K:PF→PH→Prop):wpOp C (.bHD s x i) d K F H=bS (aN (.bHD s x i) F H) d K F H:=(rfl)
@[go_sem] theorem bAS (n s:Nat) (x i:aP) (d:Option Nat) (K:PF→PH→Prop):wpOp C (.idxA n s x i) d K F H=bS (aN (.idxA n s x i) F H) d K F H:=(rfl)
@[go_sem] theorem bAU (n s:Nat) (g:Bool) (x i:aP) (d:Option Nat) (K:PF→PH→Prop):wpOp C (.idxV n s g x i) d K F H=bS (aN (.idxV n s g x i) F H) d K F H:=(rfl)
@[go_sem] theorem bxN (x i:aP) (d:Option Nat) (K:PF→PH→Prop):wpOp C (.bHR x i) d K F H=bS (aN (.bHR x i) F H) d K F H:=(rfl)
@[go_sem] theorem bzO (s:Nat) (x:aP) (lo hi mx:Option aP) (d:Option Nat) (K:PF→PH→Prop):wpOp C (.slice s x lo hi mx) d K F H=bS (aN (.slice s x lo hi mx) F H) d K F H:=(rfl)
@[go_sem] theorem bxU (n s:Nat) (x:aP) (lo hi mx:Option aP) (d:Option Nat) (K:PF→PH→Prop):wpOp C (.sliceA n s x lo hi mx) d K F H=bS (aN (.sliceA n s x lo hi mx) F H) d K F H:=(rfl)
@[go_sem] theorem bvA (x:aP) (lo hi:Option aP) (d:Option Nat) (K:PF→PH→Prop):wpOp C (.bHL x lo hi) d K F H=bS (aN (.bHL x lo hi) F H) d K F H:=(rfl)
@[go_sem] theorem bAK:PV.uY .bGI=some (.int .i64 0):=(rfl)
@[go_sem] theorem bET (s:Nat) (rows:List (List PV)):PV.uY (.sl s rows)=some (.int .i64 rows.length):=(rfl)
@[go_sem] theorem bBR (o s off n:Nat):PV.uY (.osl o s off n)=some (.int .i64 n):=(rfl)
@[go_sem] theorem bEJ (x:aP) (d:Option Nat) (K:PF→PH→Prop):wpOp C (.len x) d K F H=bS (aN (.len x) F H) d K F H:=(rfl)
@[go_sem] theorem bxP (x:aP) (d:Option Nat) (K:PF→PH→Prop):wpOp C (.bHQ x) d K F H=bS (aN (.bHQ x) F H) d K F H:=(rfl)
@[go_sem] theorem bxL (x:aP) (d:Option Nat) (K:PF→PH→Prop):wpOp C (.bIK x) d K F H=bS (aN (.bIK x) F H) d K F H:=(rfl)
@[go_sem] theorem bwY (x:aP) (i:Nat) (d:Option Nat) (K:PF→PH→Prop):wpOp C (.extract x i) d K F H=bS (aN (.extract x i) F H) d K F H:=(rfl)
@[go_sem] theorem bxS (m:Bool) (x y:aP) (d:Option Nat) (K:PF→PH→Prop):wpOp C (.bHJ m x y) d K F H=bS (aN (.bHJ m x y) F H) d K F H:=(rfl)
@[go_sem] theorem bAW (n:Nat) (cs:List aP) (d:Option Nat) (K:PF→PH→Prop):wpOp C (.mkfn n cs) d K F H=bS (aN (.mkfn n cs) F H) d K F H:=(rfl)
@[go_sem] theorem bxQ (sh:MSh) (z:PV) (x k:aP) (ok:Bool) (d:Option Nat) (K:PF→PH→Prop):wpOp C (.lookup sh z x k ok) d K F H=bS (aN (.lookup sh z x k ok) F H) d K F H:=(rfl)
@[go_sem] theorem buL (x:aP) (d:Option Nat) (K:PF→PH→Prop):wpOp C (.bGY x) d K F H=bS (aN (.bGY x) F H) d K F H:=(rfl)
@[go_sem] theorem bAP (x:aP) (d:Option Nat) (K:PF→PH→Prop):wpOp C (.box true x) d K F H=bS (aN (.box true x) F H) d K F H:=(rfl)
@[go_sem] theorem bwX (s l:Nat) (z:List PV) (ps:List (Nat × aP)) (d:Option Nat) (K:PF→PH→Prop):wpOp C (.bGN true s l z ps) d K F H=bS (aN (.bGN true s l z ps) F H) d K F H:=(rfl)
@[go_sem] theorem bzJ (cs:List PV) (d:Option Nat) (K:PF→PH→Prop):wpOp C (.alloc cs) d K F H=lZ (cR (.alloc cs) F) d K F H:=(rfl)
@[go_sem] theorem bwZ (s b:Nat) (z:List PV) (l c:aP) (d:Option Nat) (K:PF→PH→Prop):wpOp C (.bGS s b z l c) d K F H=lZ (cR (.bGS s b z l c) F) d K F H:=(rfl)
@[go_sem] theorem bzN (sh:MSh) (d:Option Nat) (K:PF→PH→Prop):wpOp C (.bIE sh) d K F H=lZ (cR (.bIE sh) F) d K F H:=(rfl)
@[go_sem] theorem bEG (x:aP) (d:Option Nat) (K:PF→PH→Prop):wpOp C (.box false x) d K F H=lZ (cR (.box false x) F) d K F H:=(rfl)
@[go_sem] theorem bxK (s l:Nat) (z:List PV) (ps:List (Nat × aP)) (d:Option Nat) (K:PF→PH→Prop):wpOp C (.bGN false s l z ps) d K F H=lZ (cR (.bGN false s l z ps) F) d K F H:=(rfl)
@[go_sem] theorem bzP (n:Nat) (p x:aP) (d:Option Nat) (K:PF→PH→Prop):wpOp C (.store n p x) d K F H=bU (.store n p x) F H (fun r H'=>K (F.put d r) H'):=(rfl)
@[go_sem] theorem bxJ (s b:Nat) (x y:aP) (d:Option Nat) (K:PF→PH→Prop):wpOp C (.append s b x y) d K F H=bU (.append s b x y) F H (fun r H'=>K (F.put d r) H'):=(rfl)
@[go_sem] theorem bxR (sh:MSh) (x k v:aP) (d:Option Nat) (K:PF→PH→Prop):wpOp C (.bHG sh x k v) d K F H=bU (.bHG sh x k v) F H (fun r H'=>K (F.put d r) H'):=(rfl)
@[go_sem] theorem bxO (sh:MSh) (x k v:aP) (d:Option Nat) (K:PF→PH→Prop):wpOp C (.insert sh x k v) d K F H=bU (.insert sh x k v) F H (fun r H'=>K (F.put d r) H'):=(rfl)
@[go_sem] theorem bAQ (n:Nat) (az:List aP) (d:Option Nat) (K:PF→PH→Prop):wpOp C (.call n az) d K F H=gW C n az [] d K F H:=(rfl)
@[go_sem] theorem bzL (x:aP) (az:List aP) (d:Option Nat) (K:PF→PH→Prop):wpOp C (.bHT x az) d K F H=(∃ n cs,x.ev F=some (.fn n cs)∧gW C n az cs d K F H):=(rfl)
theorem PF.nil_le:PF.nil.le F:=fun _ _ h=>(by cases h)
theorem PF.aF {i:Nat} {v:PV} {G:PF} (h1:F.le G) (h2:G i=some v):(F.set i v).le G:=by
 intro j u hj
 rw[mJ] at hj
 split at hj
 ·rename_i e; subst e; cases hj; exact h2
 ·exact h1 _ _ hj
theorem PF.le_refl:F.le F:=fun _ _ h=>h
theorem PH.nil_le:PH.nil.le H:=fun _ _ h=>(by cases h)
theorem PH.aF {i:Nat} {x:cE} {G:PH} (h1:H.le G) (h2:G i=some x):(H.set i x).le G:=by
 intro j u hj
 rw[bA] at hj
 split at hj
 ·rename_i e; subst e; cases hj; exact h2
 ·exact h1 _ _ hj
theorem PH.le_refl:H.le H:=fun _ _ h=>h
theorem wp_loop {c:aB} {α:Type} (Fs:α→PF) (Hs:α→PH) (Pr:α→Prop) (m:α→Nat) (a0:α) (h0:Pr a0) (hF:(Fs a0).le F) (hH:(Hs a0).le H)
  (hb:∀ a,Pr a→c.wp C (dQ Fs Hs Pr m (m a) K) (Fs a) (Hs a)):aB.wp C (.loop c) K F H :=
 ⟨α,Fs,Hs,Pr,m,a0,F,H,.refl F H,h0,hF,hH,hb⟩
theorem aC {α:Type} {Fs:α→PF} {Hs:α→PH} {Pr:α→Prop} {m:α→Nat} {n:Nat} (a:α) (h0:Pr a) (hm:m a<n) (hF:(Fs a).le F) (hH:(Hs a).le H):dQ Fs Hs Pr m n K .normal F H :=
 ⟨a,F,H,.refl F H,h0,hm,hF,hH⟩
@[go_sem] theorem bzE {α:Type} {Fs:α→PF} {Hs:α→PH} {Pr:α→Prop} {m:α→Nat} {n:Nat} (id:Nat):dQ Fs Hs Pr m n K (.exit id)=K (.exit id):=(rfl)
@[go_sem] theorem bAL {α:Type} {Fs:α→PF} {Hs:α→PH} {Pr:α→Prop} {m:α→Nat} {n:Nat}:dQ Fs Hs Pr m n K .ret=K .ret:=(rfl)
def aD (v:PV) (r:PV) (H:PH):Prop:=r=v∧H=PH.nil
theorem PH.yB:H.over .nil .nil=H:=PH.ext fun o=>rfl
theorem aSG {name:Nat} {vs cs:List PV} {v:PV} {args:List aP} {d:Option Nat} {K:PF→PH→Prop} (h:aH C name (vs++cs) .nil (aD v)) (ha:aP.evs F args=some vs)
  (hk:K (F.put d v) H):gW C name args cs d K F H:=by
 refine .inl ⟨vs++cs,.nil,_,by rw[ha]; rfl,PH.nil_le,h,?_⟩
 rintro r H' ⟨rfl,rfl⟩ _
 rw[PH.yB]
 exact hk
theorem aA {name:Nat} {vs:List PV} {v:PV} {args:List aP} {d:Option Nat} {K:PF→PH→Prop} (h:aH C name vs .nil (aD v)) (ha:aP.evs F args=some vs)
  (hk:K (F.put d v) H):gW C name args [] d K F H:=aSG (cs:=[]) (by rw[bJZ]; exact h) ha hk
theorem aM {res:List dW} {vs:List PV} {v:PV} {e:lP} (he:e=.normal∨e=.ret) (h:dW.evs F H res=some vs) (hv:bH vs=v):aR res (aD v) e F H:=by
 have key:∃ vs,dW.evs F H res=some vs∧∃ F1 H1 H2,jI (PF.nil.set 0 (bH vs)) H F1 H1∧H2.le H1∧∃ u,F1 0=some u∧aD v u H2 :=
  ⟨vs,h,_,H,.nil,.refl _ _,PH.nil_le,v,by rw[mJ,if_pos rfl,hv],rfl,rfl⟩
 rcases he with rfl | rfl<;>exact key
@[go_sem] theorem pC:dW.evs F H []=some []:=(rfl)
@[go_sem] theorem kP (x:dW) (xs:List dW):dW.evs F H (x::xs)=(match x.ev F H,dW.evs F H xs with | some v,some vs=>some (v::vs) | _,_=>none):=(rfl)
@[go_sem] theorem nH (t:Nat):dW.ev F H (.tmp t)=F t:=(rfl)
@[go_sem] theorem bDY (t:Nat):dW.ev F H (.cell t none)=(match F t with | some p=>(match loadCells H p 1 with | some [v]=>some v | _=>none) | none=>none):=(rfl)
@[go_sem] theorem bAM (t k:Nat):dW.ev F H (.cell t (some k))=(match F t with | some p=>(loadCells H p k).map .agg | none=>none):=(rfl)
end
section
variable {C:Ctx} {K:bX} {F:PF} {H Hs:PH} {S:Spec}
theorem bK {ops:List (bB × Bool)} (Hs:PH) (S:Spec) (hle:Hs.le H) (h:wpD C Hs S ops (K .normal) F H):aB.wp C (.draw ops) K F H:=⟨Hs,S,hle,h⟩
def dC:Spec:=fun _ _=>none
def dOp (C:Ctx) (Hs:PH) (S:Spec) (st:Bool) (op:POp) (d:Option Nat) (K:PF→PH→Prop) (F:PF) (H:PH):Prop:=(op.kind F).run C Hs S st (fun v H'=>K (F.put d v) H') H
@[go_sem] theorem bED (K:PF→PH→Prop):wpD C Hs S [] K F H=K F H:=(rfl)
@[go_sem] theorem bEE (d:Option Nat) (op:POp) (st:Bool) (rest:List (bB × Bool)) (K:PF→PH→Prop):wpD C Hs S ((⟨d,op,none⟩,st)::rest) K F H=dOp C Hs S st op d (wpD C Hs S rest K) F H:=(rfl)
def xS (C:Ctx) (Hs:PH) (S:Spec) (v:Option PV) (want st:Bool) (op:POp) (d:Option Nat) (rest:List (bB × Bool)) (K:PF→PH→Prop) (F:PF) (H:PH):Prop :=
 match v with
 | some (.bool b)=>if b=want then dOp C Hs S st op d (wpD C Hs S rest K) F H else wpD C Hs S rest K (F.put d (.tup [])) H
 | some (.tup [])=>wpD C Hs S rest K (F.put d (.tup [])) H
 | _=>False
@[go_sem] theorem bAO (d:Option Nat) (op:POp) (t:Nat) (want st:Bool) (rest:List (bB × Bool)) (K:PF→PH→Prop) :
  wpD C Hs S ((⟨d,op,some (t,want)⟩,st)::rest) K F H=xS C Hs S (F t) want st op d rest K F H:=by
 have e1:wpD C Hs S ((⟨d,op,some (t,want)⟩,st)::rest) K F H=((⟨d,op,some (t,want)⟩:bB).kind F).run C Hs S st (fun v H'=>wpD C Hs S rest K (F.put d v) H') H:=(rfl)
 rw[e1]
 unfold bB.kind xS
 simp only
 cases F t with
 | none=>rfl
 | some v =>
  cases v
  case bool b =>
   simp only
   by_cases hb:b=want
   ·rw[if_pos hb,if_pos hb]; rfl
   ·rw[if_neg hb,if_neg hb]; simp[Kind.run]
  case tup vs=>cases vs<;>simp[Kind.run]
  all_goals rfl
@[go_sem] theorem bAF (op:POp) (st:Bool) (d:Option Nat) (rest:List (bB × Bool)) (K:PF→PH→Prop):xS C Hs S (some (.bool true)) true st op d rest K F H=dOp C Hs S st op d (wpD C Hs S rest K) F H:=(rfl)
@[go_sem] theorem bAC (op:POp) (st:Bool) (d:Option Nat) (rest:List (bB × Bool)) (K:PF→PH→Prop):xS C Hs S (some (.bool false)) false st op d rest K F H=dOp C Hs S st op d (wpD C Hs S rest K) F H:=(rfl)
@[go_sem] theorem bAE (op:POp) (st:Bool) (d:Option Nat) (rest:List (bB × Bool)) (K:PF→PH→Prop):xS C Hs S (some (.bool true)) false st op d rest K F H=wpD C Hs S rest K (F.put d (.tup [])) H:=(rfl)
@[go_sem] theorem bAD (op:POp) (st:Bool) (d:Option Nat) (rest:List (bB × Bool)) (K:PF→PH→Prop):xS C Hs S (some (.bool false)) true st op d rest K F H=wpD C Hs S rest K (F.put d (.tup [])) H:=(rfl)
@[go_sem] theorem bxF (want:Bool) (op:POp) (st:Bool) (d:Option Nat) (rest:List (bB × Bool)) (K:PF→PH→Prop):xS C Hs S (some (.tup [])) want st op d rest K F H=wpD C Hs S rest K (F.put d (.tup [])) H:=(rfl)
@[go_sem] theorem bEX (x:aP) (st:Bool) (d:Option Nat) (K:PF→PH→Prop):dOp C Hs S st (.mv x) d K F H=bS (aN (.mv x) F (if st then Hs else H)) d K F H:=(rfl)
@[go_sem] theorem bBK (x:aP) (st:Bool) (d:Option Nat) (K:PF→PH→Prop):dOp C Hs S st (.same x) d K F H=bS (aN (.same x) F (if st then Hs else H)) d K F H:=(rfl)
@[go_sem] theorem bBJ (c a b:aP) (st:Bool) (d:Option Nat) (K:PF→PH→Prop):dOp C Hs S st (.pick c a b) d K F H=bS (aN (.pick c a b) F (if st then Hs else H)) d K F H:=(rfl)
@[go_sem] theorem bEM (o:BinOp) (x y:aP) (st:Bool) (d:Option Nat) (K:PF→PH→Prop):dOp C Hs S st (.bin o x y) d K F H=bS (aN (.bin o x y) F (if st then Hs else H)) d K F H:=(rfl)
@[go_sem] theorem bEO (n:Bool) (x y:aP) (st:Bool) (d:Option Nat) (K:PF→PH→Prop):dOp C Hs S st (.eqb n x y) d K F H=bS (aN (.eqb n x y) F (if st then Hs else H)) d K F H:=(rfl)
@[go_sem] theorem bEP (n:Bool) (ks:List Sc) (x y:aP) (st:Bool) (d:Option Nat) (K:PF→PH→Prop):dOp C Hs S st (.eqs n ks x y) d K F H=bS (aN (.eqs n ks x y) F (if st then Hs else H)) d K F H:=(rfl)
@[go_sem] theorem bEY (o:UnOp) (x:aP) (st:Bool) (d:Option Nat) (K:PF→PH→Prop):dOp C Hs S st (.un o x) d K F H=bS (aN (.un o x) F (if st then Hs else H)) d K F H:=(rfl)
@[go_sem] theorem bBD (k:IntKind) (x:aP) (st:Bool) (d:Option Nat) (K:PF→PH→Prop):dOp C Hs S st (.conv k x) d K F H=bS (aN (.conv k x) F (if st then Hs else H)) d K F H:=(rfl)
@[go_sem] theorem bzU (z:List PV) (ps:List (Nat × Nat × aP)) (st:Bool) (d:Option Nat) (K:PF→PH→Prop):dOp C Hs S st (.build z ps) d K F H=bS (aN (.build z ps) F (if st then Hs else H)) d K F H:=(rfl)
@[go_sem] theorem bBH (n:Option Nat) (p:aP) (st:Bool) (d:Option Nat) (K:PF→PH→Prop):dOp C Hs S st (.load n p) d K F H=bS (aN (.load n p) F (if st then Hs else H)) d K F H:=(rfl)
@[go_sem] theorem byW (x:aP) (st:Bool) (d:Option Nat) (K:PF→PH→Prop):dOp C Hs S st (.bGX x) d K F H=bS (aN (.bGX x) F (if st then Hs else H)) d K F H:=(rfl)
@[go_sem] theorem byQ (off:Nat) (x:aP) (st:Bool) (d:Option Nat) (K:PF→PH→Prop):dOp C Hs S st (.bHU off x) d K F H=bS (aN (.bHU off x) F (if st then Hs else H)) d K F H:=(rfl)
@[go_sem] theorem bzV (off:Nat) (n:Option Nat) (x:aP) (st:Bool) (d:Option Nat) (K:PF→PH→Prop):dOp C Hs S st (.field off n x) d K F H=bS (aN (.field off n x) F (if st then Hs else H)) d K F H:=(rfl)
@[go_sem] theorem bBF (s:Nat) (x i:aP) (st:Bool) (d:Option Nat) (K:PF→PH→Prop):dOp C Hs S st (.bHD s x i) d K F H=bS (aN (.bHD s x i) F (if st then Hs else H)) d K F H:=(rfl)
@[go_sem] theorem bBE (n s:Nat) (x i:aP) (st:Bool) (d:Option Nat) (K:PF→PH→Prop):dOp C Hs S st (.idxA n s x i) d K F H=bS (aN (.idxA n s x i) F (if st then Hs else H)) d K F H:=(rfl)
@[go_sem] theorem bBG (n s:Nat) (g:Bool) (x i:aP) (st:Bool) (d:Option Nat) (K:PF→PH→Prop):dOp C Hs S st (.idxV n s g x i) d K F H=bS (aN (.idxV n s g x i) F (if st then Hs else H)) d K F H:=(rfl)
@[go_sem] theorem byR (x i:aP) (st:Bool) (d:Option Nat) (K:PF→PH→Prop):dOp C Hs S st (.bHR x i) d K F H=bS (aN (.bHR x i) F (if st then Hs else H)) d K F H:=(rfl)
@[go_sem] theorem bzX (s:Nat) (x:aP) (lo hi mx:Option aP) (st:Bool) (d:Option Nat) (K:PF→PH→Prop):dOp C Hs S st (.slice s x lo hi mx) d K F H=bS (aN (.slice s x lo hi mx) F (if st then Hs else H)) d K F H:=(rfl)
@[go_sem] theorem bvI (x:aP) (lo hi:Option aP) (st:Bool) (d:Option Nat) (K:PF→PH→Prop):dOp C Hs S st (.bHL x lo hi) d K F H=bS (aN (.bHL x lo hi) F (if st then Hs else H)) d K F H:=(rfl)
@[go_sem] theorem bEQ (x:aP) (st:Bool) (d:Option Nat) (K:PF→PH→Prop):dOp C Hs S st (.len x) d K F H=bS (aN (.len x) F (if st then Hs else H)) d K F H:=(rfl)
@[go_sem] theorem byS (x:aP) (st:Bool) (d:Option Nat) (K:PF→PH→Prop):dOp C Hs S st (.bHQ x) d K F H=bS (aN (.bHQ x) F (if st then Hs else H)) d K F H:=(rfl)
@[go_sem] theorem byP (x:aP) (st:Bool) (d:Option Nat) (K:PF→PH→Prop):dOp C Hs S st (.bIK x) d K F H=bS (aN (.bIK x) F (if st then Hs else H)) d K F H:=(rfl)
@[go_sem] theorem bxD (x:aP) (i:Nat) (st:Bool) (d:Option Nat) (K:PF→PH→Prop):dOp C Hs S st (.extract x i) d K F H=bS (aN (.extract x i) F (if st then Hs else H)) d K F H:=(rfl)
@[go_sem] theorem byV (m:Bool) (x y:aP) (st:Bool) (d:Option Nat) (K:PF→PH→Prop):dOp C Hs S st (.bHJ m x y) d K F H=bS (aN (.bHJ m x y) F (if st then Hs else H)) d K F H:=(rfl)
@[go_sem] theorem bBI (n:Nat) (cs:List aP) (st:Bool) (d:Option Nat) (K:PF→PH→Prop):dOp C Hs S st (.mkfn n cs) d K F H=bS (aN (.mkfn n cs) F (if st then Hs else H)) d K F H:=(rfl)
@[go_sem] theorem byT (sh:MSh) (z:PV) (x k:aP) (ok:Bool) (st:Bool) (d:Option Nat) (K:PF→PH→Prop):dOp C Hs S st (.lookup sh z x k ok) d K F H=bS (aN (.lookup sh z x k ok) F (if st then Hs else H)) d K F H:=(rfl)
@[go_sem] theorem buZ (x:aP) (st:Bool) (d:Option Nat) (K:PF→PH→Prop):dOp C Hs S st (.bGY x) d K F H=bS (aN (.bGY x) F (if st then Hs else H)) d K F H:=(rfl)
@[go_sem] theorem bBC (x:aP) (st:Bool) (d:Option Nat) (K:PF→PH→Prop):dOp C Hs S st (.box true x) d K F H=bS (aN (.box true x) F (if st then Hs else H)) d K F H:=(rfl)
@[go_sem] theorem bxC (s l:Nat) (z:List PV) (ps:List (Nat × aP)) (st:Bool) (d:Option Nat) (K:PF→PH→Prop):dOp C Hs S st (.bGN true s l z ps) d K F H=bS (aN (.bGN true s l z ps) F (if st then Hs else H)) d K F H:=(rfl)
@[go_sem] theorem bzT (cs:List PV) (st:Bool) (d:Option Nat) (K:PF→PH→Prop):dOp C Hs S st (.alloc cs) d K F H=lZ (cR (.alloc cs) F) d K F H:=(rfl)
@[go_sem] theorem bxE (s b:Nat) (z:List PV) (l c:aP) (st:Bool) (d:Option Nat) (K:PF→PH→Prop):dOp C Hs S st (.bGS s b z l c) d K F H=lZ (cR (.bGS s b z l c) F) d K F H:=(rfl)
@[go_sem] theorem bzW (sh:MSh) (st:Bool) (d:Option Nat) (K:PF→PH→Prop):dOp C Hs S st (.bIE sh) d K F H=lZ (cR (.bIE sh) F) d K F H:=(rfl)
@[go_sem] theorem bEN (x:aP) (st:Bool) (d:Option Nat) (K:PF→PH→Prop):dOp C Hs S st (.box false x) d K F H=lZ (cR (.box false x) F) d K F H:=(rfl)
@[go_sem] theorem byO (s l:Nat) (z:List PV) (ps:List (Nat × aP)) (st:Bool) (d:Option Nat) (K:PF→PH→Prop):dOp C Hs S st (.bGN false s l z ps) d K F H=lZ (cR (.bGN false s l z ps) F) d K F H:=(rfl)
@[go_sem] theorem bzY (n:Nat) (p x:aP) (st:Bool) (d:Option Nat) (K:PF→PH→Prop):dOp C Hs S st (.store n p x) d K F H=bU (.store n p x) F H (fun r H'=>Hs.le H'∧K (F.put d r) H'):=(rfl)
@[go_sem] theorem byN (s b:Nat) (x y:aP) (st:Bool) (d:Option Nat) (K:PF→PH→Prop):dOp C Hs S st (.append s b x y) d K F H=bU (.append s b x y) F H (fun r H'=>Hs.le H'∧K (F.put d r) H'):=(rfl)
@[go_sem] theorem byU (sh:MSh) (x k v:aP) (st:Bool) (d:Option Nat) (K:PF→PH→Prop):dOp C Hs S st (.bHG sh x k v) d K F H=bU (.bHG sh x k v) F H (fun r H'=>Hs.le H'∧K (F.put d r) H'):=(rfl)
theorem HG:H.only []=PH.nil:=PH.ext fun o=>by simp[PH.only,PH.nil]
theorem bC {name:Nat} {vs:List PV} {v:PV} {args:List aP} {st:Bool} {d:Option Nat} {K:PF→PH→Prop} (hS:S name vs=some ([],fun _=>aD v)) (h:aH C name vs .nil (aD v)) (ha:aP.evs F args=some vs)
  (hle:Hs.le H) (hk:K (F.put d v) H):dOp C Hs S st (.call name args) d K F H:=by
 refine⟨vs,[],fun _=>aD v,ha,hS,fun o ho=>by simp at ho,by rw[HG]; exact h,fun G=>⟨v,.nil,⟨rfl,rfl⟩,fun o x hx=>by simp[PH.nil] at hx⟩,?_⟩
 rintro r H' ⟨rfl,rfl⟩ -
 rw[HG,PH.yB]
 exact⟨hle,hk⟩
end
theorem wrap_i64 {n:Int} (h1:-9223372036854775808≤n) (h2:n≤9223372036854775807):IntKind.i64.wrap n=n:=by
 have e:IntKind.i64.wrap n=if decide (n%18446744073709551616≥9223372036854775808)=true then n%18446744073709551616-18446744073709551616 else n%18446744073709551616:=by
  simp[IntKind.wrap,IntKind.bits,IntKind.signed]
 rw[e]
 split
 ·rename_i h; simp only[decide_eq_true_eq] at h; omega
 ·rename_i h; simp only[decide_eq_true_eq] at h; omega
theorem yX {k:Nat} (h:k≤9223372036854775807):IntKind.i64.wrap (k:Int)=k:=wrap_i64 Om Om
theorem cS {k:Nat} (h:k<9223372036854775807):IntKind.i64.wrap ((k:Int)+1)=((k+1:Nat):Int):=by
 rw[wrap_i64 Om Om]; omega
theorem ws (k:Nat) (h:k<9223372036854775807:=by omega):IntKind.i64.wrap ((k:Int)+1)=((k+1:Nat):Int):=cS h
theorem wrap_u64 {n:Int} (h1:0≤n) (h2:n<18446744073709551616):IntKind.u64.wrap n=n:=by
 have e:IntKind.u64.wrap n=n%18446744073709551616:=by
  simp[IntKind.wrap,IntKind.bits,IntKind.signed]
 rw[e]; omega
abbrev ints (xs:List Int):PV:=.sl 1 (xs.map fun n=>[.int .i64 n])
open Go Go.RowKit
inductive CT where
 | int (k:IntKind)
 | bool
 | str
 | sl (es:List CT)
 deriving Inhabited
def pK (P:Program) (rec:TypeId→Option (List CT)):Nat→List Field→Option (List CT)
 | _,[]=>some []
 | k,f::fs=>match rec f.type with
  | some cts=>if f.offset=k∧P.cellsOf f.type=cts.length then (pK P rec (k+cts.length) fs).map (cts++·) else none
  | none=>none
def fY (P:Program):Nat→TypeId→Option (List CT)
 | 0,_=>none
 | n+1,t=>match P.underlying t with
  | some .bool=>some [.bool]
  | some (.int k)=>some [.int k]
  | some .string=>some [.str]
  | some (.slice e)=>match fY P n e with
   | some cts=>if P.cellsOf e=cts.length∧0<cts.length then some [.sl cts] else none
   | none=>none
  | some (.struct fs)=>match pK P (fY P n) 0 fs.toList with
   | some cts=>if P.cellsOf t=cts.length then some cts else none
   | none=>none
  | some (.array k e)=>match fY P n e with
   | some cts=>if P.cellsOf e=cts.length∧P.cellsOf t=k*cts.length then some (bIP k cts).flatten else none
   | none=>none
  | _=>none
inductive PV.Ty:CT→PV→Prop
 | int {k:IntKind} {n:Int} (h:(Lit.int k n).wf=true):PV.Ty (.int k) (.int k n)
 | bool (b:Bool):PV.Ty .bool (.bool b)
 | str {s:List UInt8} (h:s.length≤maxLen):PV.Ty .str (.str s)
 | sl {es:List CT} {rows:List (List PV)} (hr:∀ r∈rows,r.length=es.length) (hl:rows.length≤maxLen) (h:∀ (i j:Nat) pv ct,at2 rows i j=some pv→es[j]?=some ct→PV.Ty ct pv):PV.Ty (.sl es) (.sl es.length rows)
def Env.of (W:World) (num:Nat→FuncId):Env:=⟨fun b=>match W.heap[b]? with | some (.cells cs _ _)=>some cs | _=>none,fun _=>none,num⟩
theorem bR.start (W:World) (num:Nat→FuncId):bR (Env.of W num) PH.nil W:=by
 refine⟨fun b cs hb=>⟨fun x hx=>(by cases hx),?_⟩,fun o x hx=>(by cases hx),fun o n h=>(by cases h)⟩
 simp only[Env.of] at hb
 split at hb
 ·rename_i c ty fr h
  cases hb
  exact⟨ty,fr,h⟩
 ·cases hb
structure Reads (E:Env) (cts:List CT) (pvs:List PV) (cs:List Value):Prop where
 lp:pvs.length=cts.length
 lc:cs.length=cts.length
 rep:∀ (j:Nat) pv c,pvs[j]?=some pv→cs[j]?=some c→aW E pv c∧c.oneCell'=true
 ty:∀ (j:Nat) pv ct,pvs[j]?=some pv→cts[j]?=some ct→PV.Ty ct pv
theorem Reads.one {E:Env} {ct:CT} {pv:PV} {c:Value} (h:aW E pv c) (h1:c.oneCell'=true) (ht:PV.Ty ct pv):Reads E [ct] [pv] [c]:=by
 refine⟨rfl,rfl,fun j p u a b=>?_,fun j p u a b=>?_⟩
 ·cases j with
  | zero=>simp at a b; subst a; subst b; exact⟨h,h1⟩
  | succ j=>simp at a
 ·cases j with
  | zero=>simp at a b; subst a; subst b; exact ht
  | succ j=>simp at a
theorem Reads.append {E:Env} {ct1 ct2:List CT} {p1 p2:List PV} {c1 c2:List Value} (h:Reads E ct1 p1 c1) (k:Reads E ct2 p2 c2):Reads E (ct1++ct2) (p1++p2) (c1++c2):=by
 refine⟨by simp[h.lp,k.lp],by simp[h.lc,k.lc],fun j p u a b=>?_,fun j p u a b=>?_⟩
 ·rcases bJG j p1.length with hj | hj
  ·rw[bLF hj] at a
   rw[bLF (by rw[h.lc,← h.lp]; exact hj)] at b
   exact h.rep j p u a b
  ·rw[bLJ hj] at a
   rw[bLJ (by rw[h.lc,← h.lp]; exact hj)] at b
   rw[show j-c1.length=j-p1.length by rw[h.lc,h.lp]] at b
   exact k.rep _ p u a b
 ·rcases bJG j p1.length with hj | hj
  ·rw[bLF hj] at a
   rw[bLF (by rw[← h.lp]; exact hj)] at b
   exact h.ty j p u a b
  ·rw[bLJ hj] at a
   rw[bLJ (by rw[← h.lp]; exact hj)] at b
   rw[show j-ct1.length=j-p1.length by rw[h.lp]] at b
   exact k.ty _ p u a b
theorem aaB {W:World} {num:Nat→FuncId} {a:Addr} {v:Value} (h:W.cell? a=some v):a.spot=none∧(Env.of W num).cell a.block a.off=some v:=by
 unfold World.cell? at h
 split at h
 ·rename_i c ty fr hb
  split at h
  ·cases h
  ·rename_i hs
   refine⟨by simpa using hs,?_⟩
   simp only[Env.cell,Env.of,hb]
   exact h
 ·cases h
inductive PV.Len (N:Nat):PV→Prop
 | flat {pv:PV} (h1:∀ n rows,pv≠.sl n rows) (h2:∀ vs,pv≠.agg vs):PV.Len N pv
 | sl {n:Nat} {rows:List (List PV)} (h:rows.length≤N) (hr:∀ r∈rows,∀ v∈r,PV.Len N v):PV.Len N (.sl n rows)
 | agg {vs:List PV} (h:∀ v∈vs,PV.Len N v):PV.Len N (.agg vs)
theorem PV.Len.int {N:Nat} (k:IntKind) (n:Int):PV.Len N (.int k n):=.flat (fun _ _ h=>by cases h) fun _ h=>by cases h
theorem PV.Len.bool {N:Nat} (b:Bool):PV.Len N (.bool b):=.flat (fun _ _ h=>by cases h) fun _ h=>by cases h
theorem PV.Len.str {N:Nat} (s:List UInt8):PV.Len N (.str s):=.flat (fun _ _ h=>by cases h) fun _ h=>by cases h
theorem PV.Len.rows {N n:Nat} {rows:List (List PV)} (h:PV.Len N (.sl n rows)):rows.length≤N∧∀ r∈rows,∀ v∈r,PV.Len N v:=by
 cases h with
 | flat h1 _=>exact absurd rfl (h1 n rows)
 | sl h1 h2=>exact⟨h1,h2⟩
theorem PV.Len.parts {N:Nat} {vs:List PV} (h:PV.Len N (.agg vs)):∀ v∈vs,PV.Len N v:=by
 cases h with
 | flat _ h2=>exact absurd rfl (h2 vs)
 | agg h=>exact h
structure sL {H:Type} (P:Program) (N:Nat) (S:TypeId→DataW H→Prop):Prop where
 sl:∀ t e elems spare,P.underlying t=some (.slice e)→S t (.slice elems spare)→elems.length≤N∧∀ d∈elems,S e d
 st:∀ t fs parts,P.underlying t=some (.struct fs)→S t (.agg parts)→∀ (i:Nat) g d,fs[i]?=some g→parts[i]?=some d→S g.type d
 ar:∀ t n e parts,P.underlying t=some (.array n e)→S t (.agg parts)→∀ d∈parts,S e d
theorem QK {H:Type} {P:Program} {A:(TypeId→DataW H→Prop)→Prop} {pv:PV} (h:∀ {N},PV.Len N pv):∀ N S,sL P N S→A S→∀ v∈[pv],PV.Len N v:=fun N S _ _ v hv=>by
 obtain rfl:=List.mem_singleton.1 hv
 exact h
theorem aaJ {P:Program} {E:Env} {rec:TypeId→Option (List CT)} {H:Type} {f:TypeId→List Value→Option (DataW H × List MemPlace)}
  (ih:∀ t cs x cts,f t cs=some x→rec t=some cts→∃ pvs,Reads E cts pvs cs∧∀ N S,sL P N S→S t x.1→∀ v∈pvs,PV.Len N v) (cs:List Value) :
  ∀ (fs:List Field) (k:Nat) (cts:List CT),(∀ g∈fs,∃ x,f g.type ((cs.drop g.offset).take (P.cellsOf g.type))=some x)→pK P rec k fs=some cts →
   ∃ pvs,Reads E cts pvs ((cs.drop k).take cts.length)∧∀ N S,sL P N S→(∀ g∈fs,∀ x,f g.type ((cs.drop g.offset).take (P.cellsOf g.type))=some x→S g.type x.1)→∀ v∈pvs,PV.Len N v
 | [],k,cts,_,h=>by
  simp[pK] at h; subst h
  exact⟨[],⟨rfl,by simp,fun j p c a=>by simp at a,fun j p c a=>by simp at a⟩,fun _ _ _ _ v hv=>by cases hv⟩
 | g::fs,k,cts,hm,h=>by
  simp only[pK] at h
  split at h
  ·rename_i c1 h1
   split at h
   ·rename_i hc
    simp only[bIW] at h
    obtain⟨c2,h2,rfl⟩:=h
    obtain⟨x,hx⟩:=hm g (by simp)
    obtain⟨p1,r1,l1⟩:=ih _ _ _ _ hx h1
    rw[hc.1,hc.2] at r1
    obtain⟨p2,r2,l2⟩:=aaJ ih cs fs (k+c1.length) c2 (fun g' hg'=>hm g' (by simp[hg'])) h2
    refine⟨p1++p2,?_,fun N S hM hS v hv=>?_⟩
    ·have:=r1.append r2
     rw[bIQ,List.take_add,List.drop_drop]
     exact this
    ·rcases bKL.1 hv with hv | hv
     ·exact l1 N S hM (hS g (by simp) x hx) v hv
     ·exact l2 N S hM (fun g' hg'=>hS g' (by simp[hg'])) v hv
   ·cases h
  ·cases h
theorem amN {E:Env} {cts:List CT} {R:List PV→Prop} (h0:R []) (h1:∀ a b,R a→R b→R (a++b)) (cs:List Value) :
  ∀ n:Nat,(∀ i,i<n→∃ pvs,Reads E cts pvs ((cs.drop (i*cts.length)).take cts.length)∧R pvs)→∃ pvs,Reads E (bIP n cts).flatten pvs (cs.take (n*cts.length))∧R pvs
 | 0,_=>⟨[],⟨rfl,by simp,fun j p c a=>by simp at a,fun j p c a=>by simp at a⟩,h0⟩
 | n+1,h=>by
  obtain⟨p1,r1,q1⟩:=amN h0 h1 cs n fun i hi=>h i Om
  obtain⟨p2,r2,q2⟩:=h n Om
  refine⟨p1++p2,?_,h1 _ _ q1 q2⟩
  rw[List.replicate_succ',List.flatten_append,List.flatten_singleton,Nat.succ_mul,List.take_add]
  exact r1.append r2
theorem aKY {H:Type} {enc:TypeId × Value→H} {P:Program} {W:World} {base:Nat} {sp:Nat→Bool} {held:Bool} (num:Nat→FuncId) :
  ∀ (fuel m:Nat) (t:TypeId) (cs:List Value) (x:DataW H × List MemPlace) (cts:List CT),DataW.trod enc P W base sp held fuel t cs=some x→fY P m t=some cts→∃ pvs,Reads (Env.of W num) cts pvs cs∧∀ N S,sL P N S→S t x.1→∀ v∈pvs,PV.Len N v:=by
 intro fuel
 induction fuel with
 | zero=>intro m t cs x cts h; simp[DataW.trod] at h
 | succ fuel ih =>
  intro m t cs x cts h hc
  cases m with
  | zero=>simp[fY] at hc
  | succ m =>
   simp only[fY] at hc
   split at hc
   ·rename_i hu
    cases hc
    obtain⟨b,rfl,-⟩:=DataW.trod_bool hu h
    exact⟨[.bool b],.one (.bool b) rfl (.bool b),QK (.bool b)⟩
   ·rename_i k hu
    cases hc
    obtain⟨n,rfl,-,hw⟩:=DataW.trod_int hu h
    exact⟨[.int k n],.one (.int k n) rfl (.int hw),QK (.int k n)⟩
   ·rename_i hu
    cases hc
    obtain⟨s,rfl,-,hs⟩:=DataW.trod_string hu h
    exact⟨[.str s.data.toList],.one (.str s) rfl (.str (by rw[bLD]; exact hs)),QK (.str _)⟩
   ·rename_i e hu
    split at hc
    ·rename_i ces he
     split at hc
     ·rename_i bHV
      cases hc
      rcases DataW.trod_slice hu h with ⟨rfl,-⟩ | ⟨a,len,cap,elems,rest,n,hn,rfl,hxe,-,hlen,hcap,hel,helem,-⟩
      ·refine⟨[.sl ces.length []],.one ?_ rfl (.sl (by simp) (by simp) (by simp[at2])),QK (.sl (bIT _) (fun r hr=>by cases hr))⟩
       exact .sl (fun _ _=>.bool false) (by simp) (by decide) (by simp) (by simp) (fun _ _=>rfl) (by simp[at2])
      ·cases hn
       have each:∀ i,i<len→∃ pvs us,(Reads (Env.of W num) ces pvs us∧∀ N S,sL P N S→(∀ d∈elems.map (·.1),S e d)→∀ v∈pvs,PV.Len N v)∧W.cells? base (a.add (i*ces.length)) ces.length=some us:=by
        intro i hi
        have h1:=helem i hi
        rw[bIZ Om,bLP] at h1
        obtain⟨us,h2,h3⟩:=h1
        obtain⟨pvs,r,rl⟩:=ih m e us _ ces h3 he
        rw[bHV.1] at h2
        exact⟨pvs,us,⟨r,fun N S hM hS=>rl N S hM (hS _ (bJV.2 ⟨_,bIS _,rfl⟩))⟩,h2⟩
       have each':∀ i,∃ pvs,∃ us,i<len→(Reads (Env.of W num) ces pvs us∧∀ N S,sL P N S→(∀ d∈elems.map (·.1),S e d)→∀ v∈pvs,PV.Len N v)∧W.cells? base (a.add (i*ces.length)) ces.length=some us:=by
        intro i
        by_cases hi:i<len
        ·obtain⟨pvs,us,h1⟩:=each i hi
         exact⟨pvs,us,fun _=>h1⟩
        ·exact⟨[],[],fun h=>(hi h).elim⟩
       obtain⟨pf,hpf⟩:=Classical.axiomOfChoice each'
       obtain⟨uf,huf⟩:=Classical.axiomOfChoice hpf
       have hat:∀ i j pv,at2 ((bIN len).map pf) i j=some pv→i<len∧(pf i)[j]?=some pv:=by
        intro i j pv hp
        unfold at2 at hp
        rw[bJU,bLP] at hp
        obtain⟨r,hr,hp⟩:=hp
        rw[bIW] at hr
        obtain⟨i',hi',rfl⟩:=hr
        have hi:i<len:=by simpa using (bKA.1 hi').1
        have:i'=i:=by simp[hi] at hi'; exact hi'.symm
        subst this
        exact⟨hi,hp⟩
       have hu2:∀ i j pv,at2 ((bIN len).map pf) i j=some pv→∃ v,(uf i)[j]?=some v∧j<ces.length∧aW (Env.of W num) pv v∧v.oneCell'=true:=by
        intro i j pv hp
        obtain⟨hi,hp'⟩:=hat i j pv hp
        obtain⟨⟨r,-⟩,-⟩:=huf i hi
        have hj:j<ces.length:=by rw[← r.lp]; exact (bKA.1 hp').1
        have hv:(uf i)[j]?=some ((uf i)[j]'(by rw[r.lc]; exact hj)):=bIZ _
        exact⟨_,hv,hj,(r.rep j pv _ hp' hv).1,(r.rep j pv _ hp' hv).2⟩
       have hul:((bIN len).map pf).length=len:=by simp
       refine⟨[.sl ces.length ((bIN len).map pf)],.one ?_ rfl (.sl (fun r hr=>?_) (by rw[hul]; omega) fun i j pv ct hp hct=>?_),fun N S hM hS v hv=>?_⟩
       ·have key:=aW.sl (E:=Env.of W num) (size:=ces.length) (rows:=(bIN len).map pf) (a:=some a) (cap:=cap)
         (fun i j=>match at2 ((bIN len).map pf) i j with | some _=>((uf i)[j]?).getD (.bool false) | none=>.bool false) (by rw[hul]; exact hlen) hcap
         (fun r hr=>by
          simp only[bJV,bKR] at hr
          obtain⟨i,hi,rfl⟩:=hr
          exact (huf i hi).1.1.lp)
         (fun hne=>by
          have hl0:0<len:=by
           rcases bKN len with h | h
           ·subst h; exact (hne rfl).elim
           ·exact h
          have hsp:a.spot=none:=by
           obtain⟨⟨r,-⟩,hc⟩:=huf 0 hl0
           have h3:=(World.cells?_some hc).2.2 0 bHV.2
           rw[Nat.zero_mul,Addr.add_zero',Addr.add_zero',bIZ (by rw[r.lc]; exact bHV.2)] at h3
           exact (aaB (num:=num) h3).1
          refine⟨a,rfl,hsp,fun i j pv hp=>?_⟩
          obtain⟨hi,-⟩:=hat i j pv hp
          obtain⟨v,hv,hj,-⟩:=hu2 i j pv hp
          have h3:=(World.cells?_some (huf i hi).2).2.2 j hj
          rw[mP hsp,add_plain,add_plain,hv] at h3
          have h4:=(aaB (num:=num) h3).2
          simp only[hp,hv,bKK]
          exact h4)
         (fun i j=>by
          split
          ·rename_i pv hp
           obtain⟨v,hv,-,-,h1⟩:=hu2 i j pv hp
           simp[hv,h1]
          ·rfl)
         (fun i j pv hp=>by
          obtain⟨v,hv,-,h1,-⟩:=hu2 i j pv hp
          simp only[hp,hv,bKK]
          exact h1)
        rw[hul] at key
        exact key
       ·simp only[bJV,bKR] at hr
        obtain⟨i,hi,rfl⟩:=hr
        exact (huf i hi).1.1.lp
       ·obtain⟨hi,hp'⟩:=hat i j pv hp
        exact (huf i hi).1.1.ty j pv ct hp' hct
       ·rw[hxe] at hS
        obtain⟨m1,m2⟩:=hM.sl t e _ _ hu hS
        obtain rfl:=List.mem_singleton.1 hv
        refine .sl (by rw[hul]; simpa [hel] using m1) fun r hr w hw=>?_
        simp only[bJV,bKR] at hr
        obtain⟨i,hi,rfl⟩:=hr
        exact (huf i hi).1.2 N S hM m2 w hw
     ·cases hc
    ·cases hc
   ·rename_i fs hu
    split at hc
    ·rename_i cts' hcf
     split at hc
     ·rename_i hlen
      cases hc
      obtain⟨xs,n,hn,hxe,hcl,hxl,hx⟩:=DataW.trod_struct hu h
      cases hn
      have:=aaJ (f:=DataW.trod enc P W base sp held fuel) (fun t cs x cts a b=>ih m t cs x cts a b) cs fs.toList 0 cts (fun g hg=>by
       obtain⟨i,hi,rfl⟩:=bLL hg
       have:=hx i fs.toList[i] (by simp at hi; simp[hi])
       rw[this]
       exact⟨_,bIZ (by simp at hi; omega)⟩) hcf
      rw[bJR,bJD Om] at this
      obtain⟨pvs,r,rl⟩:=this
      refine⟨pvs,r,fun N S hM hS=>rl N S hM fun g hg y hy=>?_⟩
      rw[hxe] at hS
      obtain⟨i,hi,rfl⟩:=bLL hg
      have hi':i<fs.size:=by simpa using hi
      have:=hx i fs.toList[i] (by simp[hi'])
      rw[hy,bIZ Om] at this
      refine hM.st t fs _ hu hS i fs.toList[i] y.1 (by simp[hi']) ?_
      rw[bJU,bIZ Om,← this]; rfl
     ·cases hc
    ·cases hc
   ·rename_i k e hu
    split at hc
    ·rename_i ces he
     split at hc
     ·rename_i bHV
      cases hc
      obtain⟨xs,n,hn,hxe,hcl,hxl,hx⟩:=DataW.trod_array hu h
      cases hn
      obtain⟨pvs,r,hq⟩:=amN (E:=Env.of W num) (cts:=ces) (R:=fun pvs=>∀ N S,sL P N S→(∀ d:DataW H,d∈xs.map (fun y:DataW H × List MemPlace=>y.1)→S e d)→∀ v∈pvs,PV.Len N v) (fun _ _ _ _ v hv=>by cases hv)
       (fun a b ha hb N S hM hS v hv=>(bKL.1 hv).elim (ha N S hM hS v) (hb N S hM hS v)) cs k fun i hi=>by
        have h2:=hx i hi
        rw[bIZ Om,bHV.1] at h2
        obtain⟨pvs,r,rl⟩:=ih m e _ _ ces h2 he
        exact⟨pvs,r,fun N S hM hS=>rl N S hM (hS _ (bJV.2 ⟨_,bIS _,rfl⟩))⟩
      rw[bJD Om] at r
      exact⟨pvs,r,fun N S hM hS=>hq N S hM (hM.ar t k e _ hu (by rw[hxe] at hS; exact hS))⟩
     ·cases hc
    ·cases hc
   ·cases hc
open Go Go.RowKit Go.ChangeShapes Go.WideShapes
theorem Ext.below {E E':Env} {H':PH} {w w':World} (h:Ext E PH.nil w E' H' w'):Below w.heap.size w w' :=
 ⟨h.os,h.tape,h.output,h.size,fun k hk=>h.block k hk rfl⟩
theorem Below.trodAll {H:Type} {enc:TypeId × Value→H} {P:Program} (hl:laidOutB P=true) {W W':World} (hb:Below W.heap.size W W') :
  ∀ {ts:List TypeId} {vs:List Value} {ds:List (DataW H)} {ps:List MemPlace},(∀ t∈ts,P.readableRec t=true∧t<P.types.size)→DataW.TrodAll enc P W 0 (fun _=>true) true ts vs ds ps →
   DataW.TrodAll enc P W' 0 (fun b=>decide (b<W.heap.size)) true ts vs ds ps
 | [],[],[],ps,_,h=>h
 | [],_::_,_,_,_,h=>h.elim
 | [],[],_::_,_,_,h=>h.elim
 | _::_,[],_,_,_,h=>h.elim
 | _::_,_::_,[],_,_,h=>h.elim
 | t::ts,v::vs,d::ds,ps,ht,h=>by
  obtain⟨p,q,h1,h2,rfl⟩:=h
  have hlt:∀ x∈p,x.block<W.heap.size:=fun x hx=>DataW.TrodAll.lt (ts:=[t]) (vs:=[v]) (ds:=[d]) ⟨p,[],h1,rfl,(bJZ p).symm⟩ x hx
  exact⟨p,q,Below.trod hl (ht t (by simp)).1 (ht t (by simp)).2 h1 hb hlt,Below.trodAll hl hb (fun u hu=>ht u (by simp[hu])) h2,rfl⟩
theorem beL {H:Type} {enc:TypeId × Value→H} {P:Program} {f:Func} {s:ChangeSpec} {handsOn apart fresh:Bool} {W W':World} {args:Array Value} {ds gs:List (DataW H)} {before:List MemPlace} {bt:TypeId}
  (hl:laidOutB P=true) (hW:DataW.Whole enc P f.params.toList s.vars apart W args.toList ds gs before) (hb:Below W.heap.size W W') (hts:∀ t∈f.params.toList,P.readableRec t=true∧t<P.types.size)
  (hrt:f.resultTypes=#[bt]) (hbt:P.underlying bt=some .bool) (hv:s.vars=[]) (hr:(s.fn H (ds++gs)).results=[.lit (.bool true)]) (ha:(s.fn H (ds++gs)).args=ds) (hvs:(s.fn H (ds++gs)).vars=[]) :
  s.post enc P f apart fresh handsOn false W args (.bool true) W':=by
 obtain⟨p,q,hA,hV,rfl,hz,hn⟩:=hW
 rw[hv] at hV
 obtain⟨rfl,rfl⟩:=trodVars_none hV
 refine⟨ds,[],p++[],[],p,[],⟨p,[],hA,by rw[hv]; exact hV,rfl,hz,hn⟩,?_,?_,?_,hb.frame _,fun h=>by cases h⟩
 ·rw[hr,hrt]
  refine⟨[],[],⟨1,?_⟩,rfl,rfl⟩
  simp[DataW.trod,hbt,Value.cells,Value.resultList]
 ·rw[ha]
  exact Below.trodAll hl hb hts hA
 ·rw[hv,hvs]
  exact rfl
theorem bbS {C:Ctx} {name:Nat} {W:World} {args:Array Value} {pvs:List PV} (h:aH C name pvs PH.nil (aD (.bool true))) (hr:eP (Env.of W C.num) pvs args.toList) :
  Calls C.P (C.num name) args W fun e W'=>e=.returned (.bool true)∧Below W.heap.size W W' :=
 (h.2 (Env.of W C.num) W args rfl (bR.start W C.num) hr).mono fun e W' he=>by
  obtain⟨v,pv,E',H',rfl,-,bIH,hE,rfl,-⟩:=he
  cases bIH
  exact⟨rfl,hE.below⟩
def InK (k:IntKind) (n:Int):Prop:=k.min≤n∧n≤k.max
def bpI (k:IntKind) (xs:List Int):PV:=.sl 1 (xs.map fun n=>[.int k n])
theorem Ty.sV {k:IntKind} {pv:PV} (h:PV.Ty (.int k) pv):∃ n,pv=.int k n∧InK k n:=by
 cases h with
 | int h=>simp only[Lit.wf,bJK,decide_eq_true_eq] at h; exact⟨_,rfl,h⟩
theorem Ty.biO {pv:PV} (h:PV.Ty .bool pv):∃ b,pv=.bool b:=by
 cases h; exact⟨_,rfl⟩
theorem Ty.xF {pv:PV} (h:PV.Ty .str pv):∃ s,pv=.str s∧s.length≤maxLen:=by
 cases h with
 | str h=>exact⟨_,rfl,h⟩
theorem Ty.aYQ {ct:CT} {pv:PV} (h:PV.Ty (.sl [ct]) pv):∃ vs:List PV,pv=.sl 1 (vs.map fun v=>[v])∧vs.length≤maxLen∧∀ v∈vs,PV.Ty ct v:=by
 cases h with
 | @sl es rows hr hl h =>
 have key:∀ r∈rows,r=[r.headD .junk]:=fun r hm=>by
  have:=hr r hm
  match r,this with
  | [x],_=>rfl
 have e:rows=(rows.map fun r=>r.headD .junk).map fun v=>[v]:=by
  rw[List.map_map]
  apply bLI (by simp)
  intro n h1 h2
  simp only[bKI,Function.comp]
  exact key _ (bIS h1)
 refine⟨rows.map fun r=>r.headD .junk,by rw[← e]; rfl,by simpa using hl,fun v hv=>?_⟩
 rw[bJV] at hv
 obtain⟨r,hm,rfl⟩:=hv
 obtain⟨i,hi,rfl⟩:=bLL hm
 refine h i 0 _ ct ?_ rfl
 have:=key rows[i] hm
 unfold at2
 rw[bIZ hi,bLQ,this]
 rfl
theorem Ty.aDX {k:IntKind} {pv:PV} (h:PV.Ty (.sl [.int k]) pv):∃ xs:List Int,pv=bpI k xs∧xs.length≤maxLen∧∀ x∈xs,InK k x:=by
 obtain⟨vs,rfl,hl,hv⟩:=Ty.aYQ h
 have e:vs=(vs.map fun v=>match v with | .int _ n=>n | _=>0).map fun n=>PV.int k n:=by
  rw[List.map_map]
  apply bLI (by simp)
  intro n h1 h2
  simp only[bKI,Function.comp]
  obtain⟨m,hm,-⟩:=Ty.sV (hv _ (bIS h1))
  rw[hm]
 refine⟨vs.map fun v=>match v with | .int _ n=>n | _=>0,?_,by simpa using hl,fun x hx=>?_⟩
 ·unfold bpI
  conv=>lhs; rw[e]
  rw[List.map_map]
  rfl
 ·rw[bJV] at hx
  obtain⟨v,hm,rfl⟩:=hx
  obtain⟨m,rfl,hk⟩:=Ty.sV (hv v hm)
  exact hk
abbrev Rg:=List bB
abbrev Rd:=List (bB×Bool)
def iM (d s:Nat):bB:=⟨some d,.mv (.tmp s),none⟩
def iI (d:Nat) (n:Int):bB:=⟨some d,.mv (.const (.int .i64 n)),none⟩
def iB (d:Nat) (o:BinOp) (x y:Nat):bB:=⟨some d,.bin o (.tmp x) (.tmp y),none⟩
def iC (d:Nat) (o:BinOp) (x:Nat) (n:Int):bB:=⟨some d,.bin o (.tmp x) (.const (.int .i64 n)),none⟩
def iL (d s:Nat):bB:=⟨some d,.load none (.tmp s),none⟩
def iX (d n x y:Nat):bB:=⟨some d,.bHD n (.tmp x) (.tmp y),none⟩
def iN (d x:Nat):bB:=⟨some d,.len (.tmp x),none⟩
def iF (d n x:Nat):bB:=⟨some d,.bHU n (.tmp x),none⟩
def iS (n p x:Nat):bB:=⟨none,.store n (.tmp p) (.tmp x),none⟩
def iA (d:Nat) (o:POp):bB:=⟨some d,o,none⟩
def iG (d:Nat) (o:POp) (g:Nat) (b:Bool):bB:=⟨some d,o,some (g,b)⟩
def iP (d a b:Nat):bB:=⟨some d,.pick (.tmp a) (.tmp b) (.const (.bool false)),none⟩
def iQ (d a b:Nat):bB:=⟨some d,.pick (.tmp a) (.const (.bool true)) (.tmp b),none⟩
def iO (d s a:Nat):bB:=⟨some d,.load (some s) (.tmp a),none⟩
def iE (d a n:Nat):bB:=⟨some d,.extract (.tmp a) n,none⟩
def iK (d f a:Nat):bB:=⟨some d,.call f [.tmp a],none⟩
def iK2 (d f a b:Nat):bB:=⟨some d,.call f [.tmp a,.tmp b],none⟩
def iT (d:Nat) (b:Bool):bB:=⟨some d,.mv (.const (.bool b)),none⟩
def iZ (d:Nat):bB:=⟨some d,.mv (.const .bGI),none⟩
def gM (d s g:Nat) (b:Bool):bB:=⟨some d,.mv (.tmp s),some (g,b)⟩
def gL (d s g:Nat) (b:Bool):bB:=⟨some d,.load none (.tmp s),some (g,b)⟩
def gF (d n s g:Nat) (b:Bool):bB:=⟨some d,.bHU n (.tmp s),some (g,b)⟩
def gN (d s g:Nat) (b:Bool):bB:=⟨some d,.len (.tmp s),some (g,b)⟩
def gO (d n s g:Nat) (b:Bool):bB:=⟨some d,.load (some n) (.tmp s),some (g,b)⟩
def gK (d f a g:Nat) (b:Bool):bB:=⟨some d,.call f [.tmp a],some (g,b)⟩
def gK2 (d f a c g:Nat) (b:Bool):bB:=⟨some d,.call f [.tmp a,.tmp c],some (g,b)⟩
def gC (d:Nat) (o:BinOp) (x:Nat) (n:Int) (g:Nat) (b:Bool):bB:=⟨some d,.bin o (.tmp x) (.const (.int .i64 n)),some (g,b)⟩
def gB (d:Nat) (o:BinOp) (x y g:Nat) (b:Bool):bB:=⟨some d,.bin o (.tmp x) (.tmp y),some (g,b)⟩
def sq (r:Rg) (c:aB):aB:=.seq (.region r) c
def dq (r:Rd) (c:aB):aB:=.seq (.draw r) c
def Tm (n:Nat):aP:=.tmp n
def Ci (n:Int):aP:=.const (.int .i64 n)
@[go_sem] theorem bFW (d s:Nat):iM d s=⟨some d,.mv (.tmp s),none⟩:=(rfl)
@[go_sem] theorem bFT (d:Nat) (n:Int):iI d n=⟨some d,.mv (.const (.int .i64 n)),none⟩:=(rfl)
@[go_sem] theorem bFO (d:Nat) (o:BinOp) (x y:Nat):iB d o x y=⟨some d,.bin o (.tmp x) (.tmp y),none⟩:=(rfl)
@[go_sem] theorem bFP (d:Nat) (o:BinOp) (x:Nat) (n:Int):iC d o x n=⟨some d,.bin o (.tmp x) (.const (.int .i64 n)),none⟩:=(rfl)
@[go_sem] theorem bFV (d s:Nat):iL d s=⟨some d,.load none (.tmp s),none⟩:=(rfl)
@[go_sem] theorem bGD (d n x y:Nat):iX d n x y=⟨some d,.bHD n (.tmp x) (.tmp y),none⟩:=(rfl)
@[go_sem] theorem bFX (d x:Nat):iN d x=⟨some d,.len (.tmp x),none⟩:=(rfl)
@[go_sem] theorem bFR (d n x:Nat):iF d n x=⟨some d,.bHU n (.tmp x),none⟩:=(rfl)
@[go_sem] theorem bGB (n p x:Nat):iS n p x=⟨none,.store n (.tmp p) (.tmp x),none⟩:=(rfl)
@[go_sem] theorem bFN (d:Nat) (o:POp):iA d o=⟨some d,o,none⟩:=(rfl)
@[go_sem] theorem bFS (d:Nat) (o:POp) (g:Nat) (b:Bool):iG d o g b=⟨some d,o,some (g,b)⟩:=(rfl)
@[go_sem] theorem bFZ (d a b:Nat):iP d a b=⟨some d,.pick (.tmp a) (.tmp b) (.const (.bool false)),none⟩:=(rfl)
@[go_sem] theorem bGA (d a b:Nat):iQ d a b=⟨some d,.pick (.tmp a) (.const (.bool true)) (.tmp b),none⟩:=(rfl)
@[go_sem] theorem bFY (d s a:Nat):iO d s a=⟨some d,.load (some s) (.tmp a),none⟩:=(rfl)
@[go_sem] theorem bFQ (d a n:Nat):iE d a n=⟨some d,.extract (.tmp a) n,none⟩:=(rfl)
@[go_sem] theorem bFU (d f a:Nat):iK d f a=⟨some d,.call f [.tmp a],none⟩:=(rfl)
@[go_sem] theorem bFA (d f a b:Nat):iK2 d f a b=⟨some d,.call f [.tmp a,.tmp b],none⟩:=(rfl)
@[go_sem] theorem bGC (d:Nat) (b:Bool):iT d b=⟨some d,.mv (.const (.bool b)),none⟩:=(rfl)
@[go_sem] theorem bGE (d:Nat):iZ d=⟨some d,.mv (.const .bGI),none⟩:=(rfl)
@[go_sem] theorem bFK (d s g:Nat) (b:Bool):gM d s g b=⟨some d,.mv (.tmp s),some (g,b)⟩:=(rfl)
@[go_sem] theorem bFJ (d s g:Nat) (b:Bool):gL d s g b=⟨some d,.load none (.tmp s),some (g,b)⟩:=(rfl)
@[go_sem] theorem bFH (d n s g:Nat) (b:Bool):gF d n s g b=⟨some d,.bHU n (.tmp s),some (g,b)⟩:=(rfl)
@[go_sem] theorem bFL (d s g:Nat) (b:Bool):gN d s g b=⟨some d,.len (.tmp s),some (g,b)⟩:=(rfl)
@[go_sem] theorem bFM (d n s g:Nat) (b:Bool):gO d n s g b=⟨some d,.load (some n) (.tmp s),some (g,b)⟩:=(rfl)
@[go_sem] theorem bFI (d f a g:Nat) (b:Bool):gK d f a g b=⟨some d,.call f [.tmp a],some (g,b)⟩:=(rfl)
@[go_sem] theorem bEZ (d f a c g:Nat) (b:Bool):gK2 d f a c g b=⟨some d,.call f [.tmp a,.tmp c],some (g,b)⟩:=(rfl)
@[go_sem] theorem bFG (d:Nat) (o:BinOp) (x:Nat) (n:Int) (g:Nat) (b:Bool):gC d o x n g b=⟨some d,.bin o (.tmp x) (.const (.int .i64 n)),some (g,b)⟩:=(rfl)
@[go_sem] theorem bFF (d:Nat) (o:BinOp) (x y g:Nat) (b:Bool):gB d o x y g b=⟨some d,.bin o (.tmp x) (.tmp y),some (g,b)⟩:=(rfl)
@[go_sem] theorem bGF (r:Rg) (c:aB):sq r c=.seq (.region r) c:=(rfl)
@[go_sem] theorem bFE (r:Rd) (c:aB):dq r c=.seq (.draw r) c:=(rfl)
@[go_sem] theorem bFD (n:Nat):Tm n=.tmp n:=(rfl)
@[go_sem] theorem bFC (n:Int):Ci n=.const (.int .i64 n):=(rfl)
end Go.PM
namespace Go.PM
open Go
def aAE:Rg:=[iT 4 false]
def aAF:Rg:=[iM 6 0,iN 7 6,iM 8 1,iN 9 8,iB 10 .neq 7 9]
def bjC:Rg:=[iT 4 false]
def aAG:Rg:=[iI 5 0]
def aAH:Rg:=[iM 11 5,iM 12 0,iN 13 12,iB 14 .lss 11 13]
def aAI:Rd:=[(iM 17 0,false),(iM 18 5,false),(iX 19 1 17 18,false),(iL 20 19,false),(iM 21 1,false),(iM 22 5,false),(iX 23 1 21 22,false),(iL 24 23,false),(iB 25 .neq 20 24,false)]
def bjD:Rg:=[iT 4 false]
def aAJ:Rg:=[iM 15 5,iC 16 .add 15 1,iM 5 16]
def aAD:aB:=(.seq (sq aAH (.cond (Tm 14) .skip (.exit 0))) (.seq (.block 1 (dq aAI (.cond (Tm 25) (sq bjD .ret) .skip))) (.region aAJ)))
def aAK:Rg:=[iT 4 true]
def EQ:aB:=(sq aAE (.seq (sq aAF (.cond (Tm 10) (sq bjC .ret) .skip)) (.seq (sq aAG (.block 0 (.loop aAD))) (sq aAK .ret))))
def bjE:List Nat:=[]
def axK:aS:=⟨2,26,EQ,[.tmp 4]⟩
def anZ:Rg:=[iA 0 (.alloc [(.int .i64 0),.bGI,.bGI,.bGI,.bGI,.bGI,.bGI])]
def aoA:Rg:=[iA 2 (.call 27 [(.const .bGI),(Ci 1),(Ci 0)]),iA 1 (.alloc [(.int .i64 0),.bGI,.bGI,.bGI,.bGI,.bGI,.bGI]),iS 7 1 2]
def aoB:Rg:=[iA 3 (.build [(.str []),(.int .i64 0)] [(0,1,(.const (.str [118,48])))]),iA 4 (.bGN true 2 1 [(.str []),(.int .i64 0)] [(0,(Tm 3))]),iF 5 6 1,iS 1 5 4]
def aoC:Rg:=[iO 6 7 1,iS 7 0 6]
def AX:aB:=(sq anZ (sq aoA (sq aoB (sq aoC .ret))))
def bcV:List Nat:=[4]
def abS:aS:=⟨0,7,AX,[.cell 0 (some 7)]⟩
def anK:Rg:=[iT 0 false]
def anL:Rg:=[iA 3 (.call 23 []),iA 1 (.alloc [(.int .i64 0),.bGI,.bGI,.bGI,.bGI,.bGI,.bGI]),iS 7 1 3]
def anM:Rg:=[iO 4 7 1,iA 5 (.bGN true 1 1 [(.int .i64 0)] [(0,(Ci (-1)))]),iA 6 (.bGN true 1 1 [.bGI] [(0,(Tm 5))]),iA 7 (.call 154 [(Tm 4),(Tm 6),(.const .bGI)]),iM 2 7]
def anN:Rg:=[iO 8 7 1,iA 9 (.call 147 [(Tm 8),(Ci 0),(Ci 4)]),iC 10 .eql 9 4,iM 11 10,gO 12 7 1 11 true,iG 13 (.call 149 [(Tm 12),(Ci 0)]) 11 true,gN 14 13 11 true,gC 15 .eql 14 1 11 true,iP 16 11 15,iM 17 16,gM 18 2 17 true,gN 19 18 17 true,gC 20 .eql 19 1 17 true,iP 21 17 20,iM 22 21,gM 23 2 22 true,iG 24 (.bHD 3 (Tm 23) (Ci 0)) 22 true,gO 25 3 24 22 true,iG 26 (.build [(.int .i64 0),(.int .i64 0),(.int .i64 0)] [(0,1,(Ci 2))]) 22 true,iG 27 (.eqs false [.int,.int,.int] (Tm 25) (Tm 26)) 22 true,iP 28 22 27,iM 29 28,gO 30 7 1 29 true,iG 31 (.bGN true 1 1 [(.int .i64 0)] [(0,(Ci 0))]) 29 true,iG 32 (.bGN true 1 1 [.bGI] [(0,(Tm 31))]) 29 true,iG 33 (.call 150 [(Tm 30),(Tm 32),(.const .bGI)]) 29 true,iP 34 29 33,iM 35 34,iG 36 (.build [(.int .i64 0),.bGI,.bGI,.bGI,.bGI,.bGI,.bGI] []) 35 true,iG 37 (.call 150 [(Tm 36),(.const .bGI),(.const .bGI)]) 35 true,iG 38 (.un .not (Tm 37)) 35 true,iP 39 35 38,iM 0 39]
def AS:aB:=(sq anK (sq anL (sq anM (sq anN .ret))))
def bbU:List Nat:=[5,6,31,32]
def abO:aS:=⟨0,40,AS,[.tmp 0]⟩
def aEG:Rg:=[iT 4 false]
def aEH:Rg:=[iM 6 0,iN 7 6,iM 8 1,iN 9 8,iB 10 .neq 7 9]
def bkM:Rg:=[iT 4 false]
def aEI:Rg:=[iI 5 0]
def aEJ:Rg:=[iM 11 5,iM 12 0,iN 13 12,iB 14 .lss 11 13]
def aEK:Rd:=[(iM 17 0,false),(iM 18 5,false),(iX 19 3 17 18,false),(iO 20 3 19,false),(iM 21 1,false),(iM 22 5,false),(iX 23 3 21 22,false),(iO 24 3 23,false),(iA 25 (.eqs true [.int,.int,.int] (Tm 20) (Tm 24)),false)]
def bkN:Rg:=[iT 4 false]
def aEL:Rg:=[iM 15 5,iC 16 .add 15 1,iM 5 16]
def aEF:aB:=(.seq (sq aEJ (.cond (Tm 14) .skip (.exit 0))) (.seq (.block 1 (dq aEK (.cond (Tm 25) (sq bkN .ret) .skip))) (.region aEL)))
def aEM:Rg:=[iT 4 true]
def FU:aB:=(sq aEG (.seq (sq aEH (.cond (Tm 10) (sq bkM .ret) .skip)) (.seq (sq aEI (.block 0 (.loop aEF))) (sq aEM .ret))))
def bkO:List Nat:=[]
def axT:aS:=⟨2,26,FU,[.tmp 4]⟩
def anP:Rg:=[iT 2 false]
def anQ:Rg:=[iM 5 0,iN 6 5,iM 3 6]
def anR:Rg:=[iI 4 0]
def anS:Rg:=[iM 7 4,iM 8 0,iN 9 8,iB 10 .lss 7 9,iM 11 10,gM 12 3 11 true,gC 13 .lss 12 300 11 true,iP 14 11 13]
def anT:Rg:=[iM 17 3,iM 18 0,iM 19 4,iX 20 1 18 19,iL 21 20,iN 22 21,iB 23 .add 17 22,iM 3 23]
def anU:Rg:=[iM 15 4,iC 16 .add 15 1,iM 4 16]
def anO:aB:=(.seq (sq anS (.cond (Tm 14) .skip (.exit 0))) (.seq (.block 1 (.region anT)) (.region anU)))
def ML:Rg:=[iM 24 3,iC 25 .geq 24 300,iM 2 25]
def AV:aB:=(sq anP (sq anQ (.seq (sq anR (.block 0 (.loop anO))) (sq ML .ret))))
def bcF:List Nat:=[]
def abP:aS:=⟨1,26,AV,[.tmp 2]⟩
def abM:Rg:=[iA 6 (.box true (Tm 0)),iT 12 false]
def abN:Rd:=[(iO 13 7 6,false),(iM 14 3,false),(iM 15 4,false),(iA 16 (.call 147 [(Tm 13),(Tm 14),(Tm 15)]),true),(iO 17 7 6,true),(iM 18 3,true),(iM 19 4,true),(iA 20 (.call 78 [(Tm 17),(Tm 18),(Tm 19)]),true),(iB 21 .eql 16 20,false),(iM 22 21,false),(gO 23 7 6 22 true,false),(gM 24 5 22 true,false),(gK2 25 149 23 24 22 true,true),(gO 26 7 6 22 true,true),(gM 27 5 22 true,true),(gK2 28 81 26 27 22 true,true),(gK2 29 94 25 28 22 true,true),(iP 30 22 29,false),(iM 31 30,false),(gO 32 7 6 31 true,false),(gM 33 5 31 true,false),(gK2 34 148 32 33 31 true,true),(gO 35 7 6 31 true,true),(gM 36 5 31 true,true),(gK2 37 79 35 36 31 true,true),(gK2 38 94 34 37 31 true,true),(iP 39 31 38,false),(iM 40 39,false),(gO 41 7 6 40 true,false),(gM 42 1 40 true,false),(gK2 43 151 41 42 40 true,true),(gO 44 7 6 40 true,true),(gM 45 1 40 true,true),(gK2 46 84 44 45 40 true,true),(gK2 47 94 43 46 40 true,true),(iP 48 40 47,false),(iM 49 48,false),(gO 50 7 6 49 true,false),(gM 51 2 49 true,false),(gK2 52 152 50 51 49 true,true),(gO 53 7 6 49 true,true),(gM 54 2 49 true,true),(gK2 55 85 53 54 49 true,true),(gK2 56 94 52 55 49 true,true),(iP 57 49 56,false),(iM 58 57,false),(gO 59 7 6 58 true,false),(gM 60 1 58 true,false),(gK2 61 153 59 60 58 true,true),(gO 62 7 6 58 true,true),(gM 63 1 58 true,true),(gK2 64 86 62 63 58 true,true),(iG 65 (.eqb false (Tm 61) (Tm 64)) 58 true,false),(iP 66 58 65,false),(iM 67 66,false),(gO 68 7 6 67 true,false),(gM 69 1 67 true,false),(gM 70 2 67 true,false),(iG 71 (.call 154 [(Tm 68),(Tm 69),(Tm 70)]) 67 true,true),(gO 72 7 6 67 true,true),(gM 73 1 67 true,true),(gM 74 2 67 true,true),(iG 75 (.call 87 [(Tm 72),(Tm 73),(Tm 74)]) 67 true,true),(gK2 76 22 71 75 67 true,true),(iP 77 67 76,false),(iM 78 77,false),(gO 79 7 6 78 true,false),(gM 80 1 78 true,false),(gM 81 2 78 true,false),(iG 82 (.call 150 [(Tm 79),(Tm 80),(Tm 81)]) 78 true,true),(gO 83 7 6 78 true,true),(gM 84 1 78 true,true),(gM 85 2 78 true,true),(iG 86 (.call 83 [(Tm 83),(Tm 84),(Tm 85)]) 78 true,true),(iG 87 (.eqb false (Tm 82) (Tm 86)) 78 true,false),(iP 88 78 87,false),(iM 12 88,false)]
def xW:aB:=(sq abM (dq abN .ret))
def a4P:List Nat:=[6]
def RD:aS:=⟨6,89,xW,[.tmp 12]⟩
def bbM:Rg:=[iZ 2]
def bbN:Rg:=[iM 4 0,iA 5 (.call 0 [(Tm 4),(Ci 8),(Ci 4)]),iA 3 (.alloc [(.int .i64 0),.bGI,.bGI,.bGI,.bGI,.bGI,.bGI]),iS 7 3 5]
def bbO:Rg:=[iM 6 0,iO 7 7 3,iK2 8 3 6 7]
def bbP:Rg:=[iM 9 0,iO 10 7 3,iK2 11 6 9 10,iM 2 11]
def aPL:aB:=(sq bbM (sq bbN (sq bbO (sq bbP .ret))))
def bbQ:List Nat:=[]
def bbL:aS:=⟨1,12,aPL,[.tmp 2]⟩
def a4R:Rg:=[iT 2 false]
def a4S:Rg:=[iM 20 0,iK 21 28 20,iM 3 21]
def a4T:Rg:=[iM 22 3,iA 23 (.call 0 [(Tm 22),(Ci 8),(Ci 4)]),iA 4 (.alloc [(.int .i64 0),.bGI,.bGI,.bGI,.bGI,.bGI,.bGI]),iS 7 4 23]
def a4U:Rg:=[iM 24 3,iO 25 7 4,iK2 26 3 24 25,iM 5 26]
def a4V:Rd:=[(iO 27 7 4,true),(iM 28 3,false),(iO 29 7 4,false),(iK2 30 6 28 29,true),(iK2 31 152 27 30,true),(iM 6 31,false)]
def a4W:Rg:=[iM 32 6,iN 33 32,iF 34 4 4,iL 35 34,iN 36 35,iB 37 .neq 33 36]
def a4X:Rg:=[iT 2 false]
def a4Y:Rg:=[iT 7 true]
def a4Z:Rg:=[iI 8 0]
def a5A:Rg:=[iM 38 8,iM 39 5,iN 40 39,iB 41 .lss 38 40]
def aPU:Rd:=[(iF 44 5 4,false),(iL 45 44,false),(iF 46 6 4,false),(iL 47 46,false),(iM 48 8,false),(iX 49 2 47 48,false),(iF 50 1 49,false),(iL 51 50,false),(iX 52 17 45 51,false),(iO 53 17 52,false),(iA 9 (.alloc [(.str []),(.int .i64 0),(.int .i64 0),(.int .i64 0),(.int .i64 0),(.int .i64 0),(.int .i64 0),(.int .i64 0),(.int .i64 0),.bGI,.bGI,(.bool false),.bGI,.bGI,(.bool false),.bGI,.bGI]),true),(iS 17 9 53,true)]
def aPV:Rg:=[iI 10 0]
def aPW:Rg:=[iM 54 10,iM 55 5,iM 56 8,iX 57 1 55 56,iL 58 57,iN 59 58,iB 60 .lss 54 59]
def aPX:Rg:=[iM 63 5,iM 64 8,iX 65 1 63 64,iL 66 65,iM 67 10,iX 68 1 66 67,iL 69 68,iM 11 69]
def aPY:Rg:=[iM 70 11,iC 71 .lss 70 0]
def aPZ:Rg:=[iT 7 false]
def aQA:Rg:=[iM 72 6,iM 73 11,iX 74 1 72 73,iL 75 74,iC 76 .sub 75 1,iX 77 1 72 73,iS 1 77 76]
def aQB:Rg:=[iI 12 0]
def aQC:Rg:=[iM 78 12,iM 79 10,iB 80 .lss 78 79]
def aQD:Rg:=[iM 83 7,iM 84 83,gM 85 5 84 true,gM 86 8 84 true,iG 87 (.bHD 1 (Tm 85) (Tm 86)) 84 true,gL 88 87 84 true,gM 89 12 84 true,iG 90 (.bHD 1 (Tm 88) (Tm 89)) 84 true,gL 91 90 84 true,gM 92 11 84 true,gB 93 .neq 91 92 84 true,iP 94 84 93,iM 7 94]
def aQE:Rg:=[iM 81 12,iC 82 .add 81 1,iM 12 82]
def aPN:aB:=(.seq (sq aQC (.cond (Tm 80) .skip (.exit 4))) (.seq (.block 5 (.region aQD)) (.region aQE)))
def aQF:Rg:=[iT 13 false]
def aQG:Rg:=[iI 14 0]
def aQH:Rg:=[iM 95 14,iF 96 9 9,iL 97 96,iN 98 97,iB 99 .lss 95 98]
def aQI:Rd:=[(iM 102 13,false),(iM 103 102,false),(gF 104 9 9 103 false,false),(gL 105 104 103 false,false),(gM 106 14 103 false,false),(iG 107 (.bHD 1 (Tm 105) (Tm 106)) 103 false,false),(gL 108 107 103 false,false),(gF 109 4 4 103 false,false),(gL 110 109 103 false,false),(gM 111 11 103 false,false),(iG 112 (.bHD 3 (Tm 110) (Tm 111)) 103 false,false),(gF 113 1 112 103 false,false),(gL 114 113 103 false,false),(gB 115 .eql 108 114 103 false,false),(iQ 116 103 115,false),(iM 13 116,false)]
def aQJ:Rg:=[iM 100 14,iC 101 .add 100 1,iM 14 101]
def aPO:aB:=(.seq (sq aQH (.cond (Tm 99) .skip (.exit 6))) (.seq (.block 7 (.draw aQI)) (.region aQJ)))
def aQK:Rg:=[iM 117 7,iM 118 117,gM 119 13 118 true,iP 120 118 119,iM 7 120]
def aQL:Rg:=[iI 15 1]
def aQM:Rg:=[iM 121 15,iC 122 .lss 121 5]
def aQN:Rg:=[iI 16 0]
def aQO:Rg:=[iI 17 0]
def aQP:Rg:=[iM 125 17,iM 126 5,iM 127 8,iX 128 1 126 127,iL 129 128,iN 130 129,iB 131 .lss 125 130]
def aQQ:Rd:=[(iM 134 5,false),(iM 135 8,false),(iX 136 1 134 135,false),(iL 137 136,false),(iM 138 17,false),(iX 139 1 137 138,false),(iL 140 139,false),(iC 141 .geq 140 0,false),(iM 142 141,false),(gO 143 7 4 142 true,false),(gM 144 5 142 true,false),(gM 145 8 142 true,false),(iG 146 (.bHD 1 (Tm 144) (Tm 145)) 142 true,false),(gL 147 146 142 true,false),(gM 148 17 142 true,false),(iG 149 (.bHD 1 (Tm 147) (Tm 148)) 142 true,false),(gL 150 149 142 true,false),(gM 151 15 142 true,false),(iG 152 (.call 147 [(Tm 143),(Tm 150),(Tm 151)]) 142 true,true),(gO 153 7 4 142 true,true),(gM 154 11 142 true,true),(gM 155 15 142 true,true),(iG 156 (.call 147 [(Tm 153),(Tm 154),(Tm 155)]) 142 true,true),(gB 157 .eql 152 156 142 true,false),(iP 158 142 157,false)]
def aQR:Rg:=[iM 159 16,iC 160 .add 159 1,iM 16 160]
def aQS:Rg:=[iM 132 17,iC 133 .add 132 1,iM 17 133]
def aPP:aB:=(.seq (sq aQP (.cond (Tm 131) .skip (.exit 10))) (.seq (.block 11 (dq aQQ (.cond (Tm 158) (.region aQR) .skip))) (.region aQS)))
def aQT:Rg:=[iM 161 7,iM 162 161,gM 163 15 162 true,gF 164 4 9 162 true,iG 165 (.idxA 5 1 (Tm 164) (Tm 163)) 162 true,gL 166 165 162 true,gC 167 .eql 166 0 162 true,gM 168 167 162 true,gM 169 16 168 false,gM 170 15 168 false,gF 171 4 9 168 false,iG 172 (.idxA 5 1 (Tm 171) (Tm 170)) 168 false,gL 173 172 168 false,gB 174 .leq 169 173 168 false,iG 175 (.pick (Tm 168) (.const (.bool true)) (Tm 174)) 162 true,iP 176 162 175,iM 7 176]
def aQU:Rg:=[iM 123 15,iC 124 .add 123 1,iM 15 124]
def aPQ:aB:=(.seq (sq aQM (.cond (Tm 122) .skip (.exit 8))) (.seq (.block 9 (sq aQN (.seq (sq aQO (.block 10 (.loop aPP))) (.region aQT)))) (.region aQU)))
def aQV:Rg:=[iM 61 10,iC 62 .add 61 1,iM 10 62]
def aPR:aB:=(.seq (sq aPW (.cond (Tm 60) .skip (.exit 2))) (.seq (.block 3 (sq aPX (.seq (sq aPY (.cond (Tm 71) (sq aPZ (.exit 3)) .skip)) (sq aQA (.seq (sq aQB (.block 4 (.loop aPN))) (sq aQF (.seq (sq aQG (.block 6 (.loop aPO))) (sq aQK (sq aQL (.block 8 (.loop aPQ))))))))))) (.region aQV)))
def aQW:Rg:=[iM 42 8,iC 43 .add 42 1,iM 8 43]
def aPS:aB:=(.seq (sq a5A (.cond (Tm 41) .skip (.exit 0))) (.seq (.block 1 (dq aPU (sq aPV (.block 2 (.loop aPR))))) (.region aQW)))
def aQX:Rg:=[iI 18 0]
def aQY:Rg:=[iM 177 18,iM 178 6,iN 179 178,iB 180 .lss 177 179]
def aQZ:Rg:=[iM 183 7,iM 184 183,gM 185 6 184 true,gM 186 18 184 true,iG 187 (.bHD 1 (Tm 185) (Tm 186)) 184 true,gL 188 187 184 true,gC 189 .geq 188 0 184 true,iP 190 184 189,iM 7 190]
def aRA:Rg:=[iM 181 18,iC 182 .add 181 1,iM 18 182]
def aPT:aB:=(.seq (sq aQY (.cond (Tm 180) .skip (.exit 12))) (.seq (.block 13 (.region aQZ)) (.region aRA)))
def aRB:Rg:=[iM 191 0,iK 192 28 191,iM 19 192]
def aRC:Rd:=[(iO 193 7 4,true),(iM 194 5,true),(iM 195 19,false),(iK 196 18 195,true),(iA 197 (.call 150 [(Tm 193),(Tm 194),(Tm 196)]),true),(iM 198 7,true),(iA 199 (.eqb false (Tm 197) (Tm 198)),false),(iM 200 199,false),(iG 201 (.call 20 []) 200 true,true),(iP 202 200 201,false),(iM 2 202,false)]
def aED:aB:=(sq a4R (sq a4S (sq a4T (sq a4U (dq a4V (.seq (sq a4W (.cond (Tm 37) (sq a4X .ret) .skip)) (sq a4Y (.seq (sq a4Z (.block 0 (.loop aPS))) (.seq (sq aQX (.block 12 (.loop aPT))) (sq aRB (dq aRC .ret)))))))))))
def a5B:List Nat:=[]
def brU:aS:=⟨1,203,aED,[.tmp 2]⟩
def bbZ:Rg:=[iT 12 false]
def bcA:Rg:=[iM 13 1,iK 14 21 13,iM 15 14,gM 16 2 15 false,gN 17 16 15 false,gC 18 .gtr 17 60 15 false,iQ 19 15 18]
def bcB:Rg:=[iA 20 (.call 20 []),iM 12 20]
def bcC:Rg:=[iM 21 0,iA 22 (.call 27 [(Tm 21),(Ci 12),(Ci 5)]),iM 23 1,iM 24 2,iM 25 3,iM 26 4,iM 27 5,iA 28 (.call 19 [(Tm 22),(Tm 23),(Tm 24),(Tm 25),(Tm 26),(Tm 27)]),iM 29 28,iG 30 (.call 20 []) 29 true,iP 31 29 30,iM 12 31]
def aRD:aB:=(sq bbZ (.seq (sq bcA (.cond (Tm 19) (sq bcB .ret) .skip)) (sq bcC .ret)))
def bcD:List Nat:=[]
def bvU:aS:=⟨6,32,aRD,[.tmp 12]⟩
def bkP:Rg:=[iT 2 false]
def bkQ:Rg:=[iM 7 0,iK 8 28 7,iM 3 8]
def bkR:Rg:=[iM 9 3,iA 10 (.call 0 [(Tm 9),(Ci 10),(Ci 4)]),iA 4 (.alloc [(.int .i64 0),.bGI,.bGI,.bGI,.bGI,.bGI,.bGI]),iS 7 4 10]
def bkS:Rg:=[iM 11 3,iO 12 7 4,iK2 13 3 11 12,iM 5 13]
def bkT:Rg:=[iM 14 3,iO 15 7 4,iK2 16 6 14 15,iM 6 16]
def bkU:Rg:=[iO 17 7 4,iM 18 5,iK2 19 153 17 18,iM 20 19,gO 21 7 4 20 true,gM 22 5 20 true,gM 23 6 20 true,iG 24 (.call 19 [(Tm 21),(Tm 22),(Tm 23),(Ci 0),(Ci 4),(Ci 0)]) 20 true,iP 25 20 24,iM 26 25,iG 27 (.call 20 []) 26 true,iP 28 26 27,iM 2 28]
def a5E:aB:=(sq bkP (sq bkQ (sq bkR (sq bkS (sq bkT (sq bkU .ret))))))
def bkV:List Nat:=[]
def bzD:aS:=⟨1,29,a5E,[.tmp 2]⟩
def bcJ:Rg:=[iT 8 false]
def bcK:Rg:=[iM 21 0,iK 22 28 21,iM 9 22]
def bcL:Rg:=[iM 23 9,iA 24 (.call 0 [(Tm 23),(Ci 8),(Ci 4)]),iA 10 (.alloc [(.int .i64 0),.bGI,.bGI,.bGI,.bGI,.bGI,.bGI]),iS 7 10 24]
def bcM:Rg:=[iM 25 9,iO 26 7 10,iK2 27 3 25 26,iM 11 27]
def bcN:Rg:=[iM 28 11,iN 29 28,iC 30 .eql 29 0,iM 31 30,gF 32 4 10 31 false,gL 33 32 31 false,gN 34 33 31 false,gC 35 .eql 34 0 31 false,iQ 36 31 35]
def bcO:Rg:=[iA 37 (.call 20 []),iM 8 37]
def bcP:Rg:=[iM 38 1,iA 39 (.conv .i64 (Tm 38)),iM 40 11,iN 41 40,iB 42 .rem 39 41,iM 12 42]
def bcQ:Rd:=[(iM 43 2,false),(iA 44 (.conv .i64 (Tm 43)),false),(iM 45 11,false),(iM 46 12,false),(iX 47 1 45 46,false),(iL 48 47,false),(iN 49 48,false),(iB 50 .rem 44 49,false),(iM 51 3,false),(iA 52 (.conv .i64 (Tm 51)),false),(iF 53 4 10,false),(iL 54 53,false),(iN 55 54,false),(iB 56 .rem 52 55,false),(iM 13 50,false),(iM 14 56,false)]
def bcR:Rg:=[iO 57 7 10,iM 58 11,iA 59 (.call 154 [(Tm 57),(Tm 58),(.const .bGI)]),iM 15 59]
def bcS:Rg:=[iA 60 (.bGN false 1 0 [.bGI] []),iM 61 11,iA 62 (.append 1 24 (Tm 60) (Tm 61)),iM 16 62]
def a5H:Rg:=[iM 63 16,iM 64 12,iA 65 (.bGN false 1 0 [(.int .i64 0)] []),iM 66 11,iM 67 12,iX 68 1 66 67,iL 69 68,iA 70 (.append 1 8 (Tm 65) (Tm 69)),iX 71 1 63 64,iS 1 71 70]
def a5I:Rg:=[iM 72 16,iM 73 12,iX 74 1 72 73,iL 75 74,iM 76 13,iM 77 14,iX 78 1 75 76,iS 1 78 77]
def a5J:Rg:=[iO 79 7 10,iM 80 16,iA 81 (.call 154 [(Tm 79),(Tm 80),(.const .bGI)]),iM 17 81]
def a5K:Rg:=[iI 18 0]
def a5L:Rg:=[iM 82 18,iM 83 17,iN 84 83,iB 85 .lss 82 84]
def a5M:Rg:=[iT 19 false]
def a5N:Rg:=[iI 20 0]
def a5O:Rg:=[iM 88 20,iM 89 15,iN 90 89,iB 91 .lss 88 90]
def a5P:Rd:=[(iM 94 19,false),(iM 95 94,false),(gM 96 15 95 false,false),(gM 97 20 95 false,false),(iG 98 (.bHD 3 (Tm 96) (Tm 97)) 95 false,false),(gO 99 3 98 95 false,false),(gM 100 17 95 false,false),(gM 101 18 95 false,false),(iG 102 (.bHD 3 (Tm 100) (Tm 101)) 95 false,false),(gO 103 3 102 95 false,false),(iG 104 (.eqs false [.int,.int,.int] (Tm 99) (Tm 103)) 95 false,false),(iQ 105 95 104,false),(iM 19 105,false)]
def a5Q:Rg:=[iM 92 20,iC 93 .add 92 1,iM 20 93]
def a5F:aB:=(.seq (sq a5O (.cond (Tm 91) .skip (.exit 2))) (.seq (.block 3 (.draw a5P)) (.region a5Q)))
def a5R:Rg:=[iM 106 19,iA 107 (.un .not (Tm 106)),iM 108 107,gM 109 17 108 true,gM 110 18 108 true,iG 111 (.bHD 3 (Tm 109) (Tm 110)) 108 true,gF 112 1 111 108 true,gL 113 112 108 true,gM 114 12 108 true,gB 115 .neq 113 114 108 true,iP 116 108 115,iM 117 116,gM 118 17 117 true,gM 119 18 117 true,iG 120 (.bHD 3 (Tm 118) (Tm 119)) 117 true,gF 121 0 120 117 true,gL 122 121 117 true,gC 123 .neq 122 6 117 true,gM 124 123 117 true,gM 125 17 124 false,gM 126 18 124 false,iG 127 (.bHD 3 (Tm 125) (Tm 126)) 124 false,gF 128 2 127 124 false,gL 129 128 124 false,gM 130 14 124 false,gB 131 .neq 129 130 124 false,iG 132 (.pick (Tm 124) (.const (.bool true)) (Tm 131)) 117 true,iP 133 117 132]
def a5S:Rg:=[iT 8 false]
def a5T:Rg:=[iM 86 18,iC 87 .add 86 1,iM 18 87]
def a5G:aB:=(.seq (sq a5L (.cond (Tm 85) .skip (.exit 0))) (.seq (.block 1 (sq a5M (.seq (sq a5N (.block 2 (.loop a5F))) (sq a5R (.cond (Tm 133) (sq a5S .ret) .skip))))) (.region a5T)))
def a5U:Rg:=[iA 134 (.call 20 []),iM 8 134]
def aRE:aB:=(sq bcJ (sq bcK (sq bcL (sq bcM (.seq (sq bcN (.cond (Tm 36) (sq bcO .ret) .skip)) (sq bcP (dq bcQ (sq bcR (sq bcS (sq a5H (sq a5I (sq a5J (.seq (sq a5K (.block 0 (.loop a5G))) (sq a5U .ret))))))))))))))
def bcT:List Nat:=[]
def bvV:aS:=⟨4,135,aRE,[.tmp 8]⟩
def aVK:Rg:=[iA 6 (.box true (Tm 0)),iT 12 false]
def aVL:Rg:=[iM 13 1,iK 14 21 13,iM 15 14,gM 16 2 15 false,gN 17 16 15 false,gC 18 .gtr 17 60 15 false,iQ 19 15 18,iM 20 19,gF 21 1 6 20 false,gL 22 21 20 false,gN 23 22 20 false,gF 24 2 6 20 false,gL 25 24 20 false,gN 26 25 20 false,gB 27 .add 23 26 20 false,gF 28 5 6 20 false,gL 29 28 20 false,gN 30 29 20 false,gB 31 .add 27 30 20 false,gC 32 .gtr 31 12 20 false,iQ 33 20 32,iM 34 33,gF 35 3 6 34 false,gL 36 35 34 false,gN 37 36 34 false,gC 38 .gtr 37 40 34 false,iQ 39 34 38,iM 40 39,gF 41 4 6 40 false,gL 42 41 40 false,gN 43 42 40 false,gC 44 .gtr 43 30 40 false,iQ 45 40 44,iM 46 45,gF 47 6 6 46 false,gL 48 47 46 false,gN 49 48 46 false,gC 50 .gtr 49 20 46 false,iQ 51 46 50]
def sX:Rg:=[iA 52 (.call 20 []),iM 12 52]
def aVM:Rg:=[iO 53 7 6,iM 54 1,iM 55 2,iM 56 3,iM 57 4,iM 58 5,iA 59 (.call 19 [(Tm 53),(Tm 54),(Tm 55),(Tm 56),(Tm 57),(Tm 58)]),iM 60 59,iG 61 (.call 20 []) 60 true,iP 62 60 61,iM 12 62]
def MN:aB:=(sq aVK (.seq (sq aVL (.cond (Tm 51) (sq sX .ret) .skip)) (sq aVM .ret)))
def brY:List Nat:=[6]
def a5V:aS:=⟨6,63,MN,[.tmp 12]⟩
def GY:Rg:=[iI 2 0]
def GZ:Rg:=[iM 4 0,iN 5 4,iM 3 5]
def HA:Rg:=[iM 6 3,iC 7 .gtr 6 0,iM 8 7,gM 9 0 8 true,gM 10 3 8 true,gC 11 .sub 10 1 8 true,iG 12 (.bHD 1 (Tm 9) (Tm 11)) 8 true,gL 13 12 8 true,iG 14 (.bin .eql (Tm 13) (.const (.int .u32 0))) 8 true,iP 15 8 14]
def HB:Rg:=[iM 16 3,iC 17 .sub 16 1,iM 3 17]
def GX:aB:=(.seq (sq HA (.cond (Tm 15) .skip (.exit 0))) (.block 1 (.region HB)))
def rU:Rg:=[iM 18 3,iM 2 18]
def oH:aB:=(sq GY (sq GZ (.seq (.block 0 (.loop GX)) (sq rU .ret))))
def a7F:List Nat:=[]
def xC:aS:=⟨1,19,oH,[.tmp 2]⟩
def apA:Rg:=[iT 2 false]
def apB:Rg:=[iM 3 0,iK 4 138 3,iC 5 .gtr 4 512,iM 2 5]
def BN:aB:=(sq apA (sq apB .ret))
def bdM:List Nat:=[]
def adH:aS:=⟨1,6,BN,[.tmp 2]⟩
def apN:Rg:=[iZ 2,iI 3 0]
def apO:Rg:=[iM 5 0,iK 6 138 5,iM 4 6]
def apP:Rg:=[iM 7 4,iC 8 .gtr 7 512]
def apQ:Rg:=[iZ 2,iI 3 2]
def apR:Rg:=[iM 9 0,iM 10 4,iM 11 4,iA 12 (.slice 1 (Tm 9) none (some (Tm 10)) (some (Tm 11))),iM 2 12,iI 3 0]
def BP:aB:=(sq apN (sq apO (.seq (sq apP (.cond (Tm 8) (sq apQ .ret) .skip)) (sq apR .ret))))
def bdR:List Nat:=[]
def adK:aS:=⟨1,13,BP,[.tmp 2,.tmp 3]⟩
def aHD:Rg:=[iZ 2]
def aHE:Rg:=[iM 4 0,iA 5 (.conv .u32 (Tm 4)),iM 6 0,iA 7 (.bin .shr (Tm 6) (.const (.int .u64 32))),iA 8 (.conv .u32 (Tm 7)),iA 9 (.bGN true 1 2 [(.int .u32 0)] [(0,(Tm 5)),(1,(Tm 8))]),iM 3 9]
def aHF:Rg:=[iM 10 3,iM 11 3,iK 12 138 11,iA 13 (.slice 1 (Tm 10) none (some (Tm 12)) none),iM 2 13]
def HC:aB:=(sq aHD (sq aHE (sq aHF .ret)))
def bmA:List Nat:=[9]
def axX:aS:=⟨1,14,HC,[.tmp 2]⟩
def aHV:Rg:=[iZ 2]
def aHW:Rg:=[iM 3 0,iM 4 0,iK 5 138 4,iA 6 (.slice 1 (Tm 3) none (some (Tm 5)) none),iA 7 (.append 1 4 (.const .bGI) (Tm 6)),iM 2 7]
def HE:aB:=(sq aHV (sq aHW .ret))
def bmD:List Nat:=[]
def axY:aS:=⟨1,8,HE,[.tmp 2]⟩
def aWQ:Rg:=[iI 4 0]
def aWR:Rg:=[iM 8 0,iK 9 138 8,iM 10 1,iK 11 138 10,iM 5 9,iM 6 11]
def aWS:Rg:=[iM 13 5,iM 14 6,iB 15 .lss 13 14,iM 12 15]
def aWT:Rg:=[iI 4 (-1)]
def aWU:Rg:=[iM 17 5,iM 18 6,iB 19 .gtr 17 18,iM 16 19]
def aWV:Rg:=[iI 4 1]
def aWW:Rg:=[iM 20 5,iC 21 .sub 20 1,iM 7 21]
def aWX:Rg:=[iM 22 7,iC 23 .geq 22 0]
def aWY:Rd:=[(iM 27 0,false),(iM 28 7,false),(iX 29 1 27 28,false),(iL 30 29,false),(iM 31 1,false),(iM 32 7,false),(iX 33 1 31 32,false),(iL 34 33,false),(iB 35 .lss 30 34,false),(iM 26 35,false)]
def aWZ:Rg:=[iI 4 (-1)]
def aGV:Rd:=[(iM 37 0,false),(iM 38 7,false),(iX 39 1 37 38,false),(iL 40 39,false),(iM 41 1,false),(iM 42 7,false),(iX 43 1 41 42,false),(iL 44 43,false),(iB 45 .gtr 40 44,false),(iM 36 45,false)]
def aGW:Rg:=[iI 4 1]
def aGX:Rg:=[iM 24 7,iC 25 .sub 24 1,iM 7 25]
def aGU:aB:=(.seq (sq aWX (.cond (Tm 23) .skip (.exit 1))) (.seq (.block 2 (.block 3 (dq aWY (.cond (Tm 26) (sq aWZ .ret) (dq aGV (.cond (Tm 36) (sq aGW .ret) .skip)))))) (.region aGX)))
def aGY:Rg:=[iI 4 0]
def MW:aB:=(sq aWQ (sq aWR (.seq (.block 0 (sq aWS (.cond (Tm 12) (sq aWT .ret) (sq aWU (.cond (Tm 16) (sq aWV .ret) .skip))))) (.seq (sq aWW (.block 1 (.loop aGU))) (sq aGY .ret)))))
def bsL:List Nat:=[]
def a6T:aS:=⟨2,46,MW,[.tmp 4]⟩
def aWJ:Rg:=[iZ 4,iI 5 0]
def aWK:Rg:=[iM 9 0,iK 10 137 9,iM 11 10,gM 12 1 11 false,gK 13 137 12 11 false,iQ 14 11 13]
def akS:Rg:=[iZ 4,iI 5 2]
def aWL:Rd:=[(iM 15 0,true),(iM 16 0,false),(iK 17 138 16,true),(iA 18 (.slice 1 (Tm 15) none (some (Tm 17)) none),true),(iM 19 1,true),(iM 20 1,true),(iK 21 138 20,true),(iA 22 (.slice 1 (Tm 19) none (some (Tm 21)) none),false),(iM 0 18,false),(iM 1 22,false)]
def aWM:Rg:=[iM 23 0,iN 24 23,iM 25 1,iN 26 25,iB 27 .lss 24 26]
def aWN:Rg:=[iM 28 1,iM 29 0,iM 0 28,iM 1 29]
def akT:Rg:=[iM 30 0,iN 31 30,iC 32 .add 31 1,iA 33 (.bGS 1 4 [(.int .u32 0)] (Tm 32) (Tm 32)),iM 6 33]
def akU:Rg:=[iA 7 (.mv (.const (.int .u64 0)))]
def akV:Rg:=[iM 34 0,iN 35 34,iI 36 0]
def aWO:Rg:=[iB 37 .lss 36 35]
def aGF:Rg:=[iM 38 36,iM 8 38]
def aGG:Rg:=[iM 39 7,iM 40 0,iM 41 8,iX 42 1 40 41,iL 43 42,iA 44 (.conv .u64 (Tm 43)),iB 45 .add 39 44,iM 7 45]
def aGH:Rg:=[iM 46 8,iM 47 1,iN 48 47,iB 49 .lss 46 48]
def aGI:Rg:=[iM 50 7,iM 51 1,iM 52 8,iX 53 1 51 52,iL 54 53,iA 55 (.conv .u64 (Tm 54)),iB 56 .add 50 55,iM 7 56]
def XB:Rg:=[iM 57 6,iM 58 8,iM 59 7,iA 60 (.conv .u32 (Tm 59)),iX 61 1 57 58,iS 1 61 60]
def XC:Rg:=[iM 62 7,iA 63 (.bin .shr (Tm 62) (.const (.int .u64 32))),iM 7 63]
def XD:Rg:=[iC 64 .add 36 1,iM 36 64]
def XA:aB:=(sq aWO (.seq (.cond (Tm 37) .skip (.exit 0)) (.seq (.block 1 (sq aGF (sq aGG (.seq (sq aGH (.cond (Tm 49) (.region aGI) .skip)) (sq XB (.region XC)))))) (.region XD))))
def XE:Rg:=[iM 65 6,iM 66 0,iN 67 66,iM 68 7,iA 69 (.conv .u32 (Tm 68)),iX 70 1 65 67,iS 1 70 69]
def XF:Rg:=[iM 71 6,iK 72 141 71,iE 73 72 0,iE 74 72 1,iM 4 73,iM 5 74]
def MV:aB:=(sq aWJ (.seq (sq aWK (.cond (Tm 14) (sq akS .ret) .skip)) (dq aWL (.seq (sq aWM (.cond (Tm 27) (.region aWN) .skip)) (sq akT (sq akU (.seq (sq akV (.block 0 (.loop XA))) (sq XE (sq XF .ret)))))))))
def bsI:List Nat:=[]
def a6R:aS:=⟨2,75,MV,[.tmp 4,.tmp 5]⟩
def aXS:Rg:=[iZ 4,iI 5 0]
def aXT:Rg:=[iM 11 0,iK 12 137 11,iM 13 12,gM 14 1 13 false,gK 15 137 14 13 false,iQ 16 13 15,iM 10 16]
def alF:Rg:=[iZ 4,iI 5 2]
def aXU:Rg:=[iM 18 0,iM 19 1,iK2 20 129 18 19,iC 21 .lss 20 0,iM 17 21]
def aXV:Rg:=[iZ 4,iI 5 4]
def aXW:Rd:=[(iM 22 0,true),(iM 23 0,false),(iK 24 138 23,true),(iA 25 (.slice 1 (Tm 22) none (some (Tm 24)) none),true),(iM 26 1,true),(iM 27 1,true),(iK 28 138 27,true),(iA 29 (.slice 1 (Tm 26) none (some (Tm 28)) none),false),(iM 0 25,false),(iM 1 29,false)]
def alG:Rg:=[iM 30 0,iN 31 30,iA 32 (.bGS 1 4 [(.int .u32 0)] (Tm 31) (Tm 31)),iM 6 32]
def alH:Rg:=[iA 7 (.mv (.const (.int .u64 0)))]
def alI:Rg:=[iM 33 0,iN 34 33,iI 35 0]
def aXX:Rg:=[iB 36 .lss 35 34]
def aHO:Rg:=[iM 37 35,iM 8 37]
def aHP:Rg:=[iM 38 0,iM 39 8,iX 40 1 38 39,iL 41 40,iA 42 (.conv .u64 (Tm 41)),iM 43 7,iB 44 .sub 42 43,iM 9 44]
def aHQ:Rg:=[iM 45 8,iM 46 1,iN 47 46,iB 48 .lss 45 47]
def aHR:Rg:=[iM 49 9,iM 50 1,iM 51 8,iX 52 1 50 51,iL 53 52,iA 54 (.conv .u64 (Tm 53)),iB 55 .sub 49 54,iM 9 55]
def XL:Rg:=[iM 56 6,iM 57 8,iM 58 9,iA 59 (.conv .u32 (Tm 58)),iX 60 1 56 57,iS 1 60 59]
def XM:Rg:=[iM 61 9,iA 62 (.bin .shr (Tm 61) (.const (.int .u64 63))),iM 7 62]
def XN:Rg:=[iC 63 .add 35 1,iM 35 63]
def XK:aB:=(sq aXX (.seq (.cond (Tm 36) .skip (.exit 1)) (.seq (.block 2 (sq aHO (sq aHP (.seq (sq aHQ (.cond (Tm 48) (.region aHR) .skip)) (sq XL (.region XM)))))) (.region XN))))
def XO:Rg:=[iM 64 6,iK 65 141 64,iE 66 65 0,iE 67 65 1,iM 4 66,iM 5 67]
def NE:aB:=(sq aXS (.seq (.block 0 (sq aXT (.cond (Tm 10) (sq alF .ret) (sq aXU (.cond (Tm 17) (sq aXV .ret) .skip))))) (dq aXW (sq alG (sq alH (.seq (sq alI (.block 1 (.loop XK))) (sq XO .ret)))))))
def bsT:List Nat:=[]
def a7K:aS:=⟨2,68,NE,[.tmp 4,.tmp 5]⟩
def aXO:Rg:=[iZ 4,iI 5 0]
def aXP:Rg:=[iM 12 0,iK 13 137 12,iM 14 13,gM 15 1 14 false,gK 16 137 15 14 false,iQ 17 14 16]
def akY:Rg:=[iZ 4,iI 5 2]
def aXQ:Rd:=[(iM 18 0,true),(iM 19 0,false),(iK 20 138 19,true),(iA 21 (.slice 1 (Tm 18) none (some (Tm 20)) none),true),(iM 22 1,true),(iM 23 1,true),(iK 24 138 23,true),(iA 25 (.slice 1 (Tm 22) none (some (Tm 24)) none),false),(iM 0 21,false),(iM 1 25,false)]
def akZ:Rg:=[iM 26 0,iN 27 26,iM 28 1,iN 29 28,iB 30 .add 27 29,iA 31 (.bGS 1 4 [(.int .u32 0)] (Tm 30) (Tm 30)),iM 6 31]
def alA:Rg:=[iM 32 0,iN 33 32,iI 34 0]
def aXR:Rg:=[iB 35 .lss 34 33]
def alB:Rg:=[iM 36 34,iX 37 1 32 34,iL 38 37,iM 7 36,iM 8 38]
def alC:Rg:=[iA 9 (.mv (.const (.int .u64 0)))]
def alD:Rg:=[iM 39 1,iN 40 39,iI 41 0]
def aHG:Rg:=[iB 42 .lss 41 40]
def aHH:Rg:=[iM 43 41,iX 44 1 39 41,iL 45 44,iM 10 43,iM 11 45]
def aHI:Rg:=[iM 46 9,iM 47 8,iA 48 (.conv .u64 (Tm 47)),iM 49 11,iA 50 (.conv .u64 (Tm 49)),iB 51 .mul 48 50,iM 52 6,iM 53 7,iM 54 10,iB 55 .add 53 54,iX 56 1 52 55,iL 57 56,iA 58 (.conv .u64 (Tm 57)),iB 59 .add 51 58,iB 60 .add 46 59,iM 9 60]
def aHJ:Rg:=[iM 61 6,iM 62 7,iM 63 10,iB 64 .add 62 63,iM 65 9,iA 66 (.conv .u32 (Tm 65)),iX 67 1 61 64,iS 1 67 66]
def aHK:Rg:=[iM 68 9,iA 69 (.bin .shr (Tm 68) (.const (.int .u64 32))),iM 9 69]
def aHL:Rg:=[iC 70 .add 41 1,iM 41 70]
def XG:aB:=(sq aHG (.seq (.cond (Tm 42) .skip (.exit 2)) (.seq (.block 3 (sq aHH (sq aHI (sq aHJ (.region aHK))))) (.region aHL))))
def XI:Rg:=[iM 71 6,iM 72 7,iM 73 1,iN 74 73,iB 75 .add 72 74,iM 76 9,iA 77 (.conv .u32 (Tm 76)),iX 78 1 71 75,iS 1 78 77]
def aHM:Rg:=[iC 79 .add 34 1,iM 34 79]
def XH:aB:=(sq aXR (.seq (.cond (Tm 35) .skip (.exit 0)) (.seq (.block 1 (sq alB (sq alC (.seq (sq alD (.block 2 (.loop XG))) (.region XI))))) (.region aHM))))
def XJ:Rg:=[iM 80 6,iK 81 141 80,iE 82 81 0,iE 83 81 1,iM 4 82,iM 5 83]
def NC:aB:=(sq aXO (.seq (sq aXP (.cond (Tm 17) (sq akY .ret) .skip)) (dq aXQ (sq akZ (.seq (sq alA (.block 0 (.loop XH))) (sq XJ .ret))))))
def bsR:List Nat:=[]
def a7G:aS:=⟨2,84,NC,[.tmp 4,.tmp 5]⟩
def aGL:Rg:=[iI 2 0]
def aGM:Rg:=[iM 6 0,iK 7 138 6,iM 3 7]
def aGN:Rg:=[iM 8 3,iC 9 .eql 8 0]
def aGO:Rg:=[iI 2 0]
def aGP:Rg:=[iM 10 3,iC 11 .sub 10 1,iC 12 .mul 11 32,iM 4 12]
def aGQ:Rg:=[iM 13 0,iM 14 3,iC 15 .sub 14 1,iX 16 1 13 15,iL 17 16,iM 5 17]
def aGR:Rg:=[iM 18 5,iA 19 (.bin .gtr (Tm 18) (.const (.int .u32 0)))]
def aGS:Rg:=[iM 22 4,iC 23 .add 22 1,iM 4 23]
def aGT:Rg:=[iM 20 5,iA 21 (.bin .shr (Tm 20) (.const (.int .u64 1))),iM 5 21]
def aGK:aB:=(.seq (sq aGR (.cond (Tm 19) .skip (.exit 0))) (.seq (.block 1 (.region aGS)) (.region aGT)))
def aoZ:Rg:=[iM 24 4,iM 2 24]
def GW:aB:=(sq aGL (sq aGM (.seq (sq aGN (.cond (Tm 9) (sq aGO .ret) .skip)) (sq aGP (.seq (sq aGQ (.block 0 (.loop aGK))) (sq aoZ .ret))))))
def blY:List Nat:=[]
def axW:aS:=⟨1,25,GW,[.tmp 2]⟩
def aXH:Rg:=[iZ 4,iI 5 0]
def aXI:Rg:=[iM 8 0,iK 9 137 8,iM 10 9,gM 11 1 10 false,gK 12 137 11 10 false,iQ 13 10 12]
def akX:Rg:=[iZ 4,iI 5 2]
def aXJ:Rg:=[iM 14 0,iK 15 135 14,iM 16 1,iK 17 135 16,iM 0 15,iM 1 17]
def aXK:Rg:=[iM 18 1,iN 19 18,iC 20 .gtr 19 0]
def aXL:Rg:=[iM 22 0,iM 23 1,iK2 24 136 22 23,iM 21 24,iE 25 21 0,iE 26 21 1,iM 6 25,iM 7 26]
def aXM:Rg:=[iM 27 1,iM 28 7,iM 0 27,iM 1 28]
def aXG:aB:=(.seq (sq aXK (.cond (Tm 20) .skip (.exit 0))) (.block 1 (sq aXL (.region aXM))))
def aXN:Rg:=[iM 29 0,iM 4 29,iI 5 0]
def NA:aB:=(sq aXH (.seq (sq aXI (.cond (Tm 13) (sq akX .ret) .skip)) (sq aXJ (.seq (.block 0 (.loop aXG)) (sq aXN .ret)))))
def bsP:List Nat:=[]
def a7A:aS:=⟨2,30,NA,[.tmp 4,.tmp 5]⟩
def aXA:Rg:=[iZ 4,iZ 5,iI 6 0]
def aXB:Rg:=[iM 10 0,iK 11 137 10,iM 12 11,gM 13 1 12 false,gK 14 137 13 12 false,iQ 15 12 14,iM 9 15]
def akW:Rg:=[iZ 4,iZ 5,iI 6 2]
def aXC:Rg:=[iM 17 1,iK 18 138 17,iC 19 .eql 18 0,iM 16 19]
def aXD:Rg:=[iZ 4,iZ 5,iI 6 3]
def aXE:Rd:=[(iM 21 0,true),(iM 22 0,false),(iK 23 138 22,true),(iA 24 (.slice 1 (Tm 21) none (some (Tm 23)) none),true),(iM 25 1,true),(iM 26 1,true),(iK 27 138 26,true),(iA 28 (.slice 1 (Tm 25) none (some (Tm 27)) none),false),(iK2 29 136 24 28,true),(iM 20 29,false),(iE 30 20 0,false),(iE 31 20 1,false),(iM 7 30,false),(iM 8 31,false)]
def aXF:Rg:=[iM 32 7,iM 33 8,iM 4 32,iM 5 33,iI 6 0]
def MY:aB:=(sq aXA (.seq (.block 0 (sq aXB (.cond (Tm 9) (sq akW .ret) (sq aXC (.cond (Tm 16) (sq aXD .ret) .skip))))) (dq aXE (sq aXF .ret))))
def bsN:List Nat:=[]
def a6V:aS:=⟨2,34,MY,[.tmp 4,.tmp 5,.tmp 6]⟩
def apE:Rg:=[iZ 4,iA 5 (.mv (.const (.int .u32 0)))]
def apF:Rg:=[iM 9 0,iN 10 9,iA 11 (.bGS 1 4 [(.int .u32 0)] (Tm 10) (Tm 10)),iM 6 11]
def apG:Rg:=[iA 7 (.mv (.const (.int .u64 0)))]
def apH:Rg:=[iM 12 0,iN 13 12,iC 14 .sub 13 1,iM 8 14]
def apI:Rg:=[iM 15 8,iC 16 .geq 15 0]
def apJ:Rg:=[iM 19 7,iA 20 (.bin .shl (Tm 19) (.const (.int .u64 32))),iM 21 0,iM 22 8,iX 23 1 21 22,iL 24 23,iA 25 (.conv .u64 (Tm 24)),iB 26 .or 20 25,iM 7 26]
def apK:Rg:=[iM 27 6,iM 28 8,iM 29 7,iM 30 1,iA 31 (.conv .u64 (Tm 30)),iB 32 .quo 29 31,iA 33 (.conv .u32 (Tm 32)),iX 34 1 27 28,iS 1 34 33]
def apL:Rg:=[iM 35 7,iM 36 1,iA 37 (.conv .u64 (Tm 36)),iB 38 .rem 35 37,iM 7 38]
def apM:Rg:=[iM 17 8,iC 18 .sub 17 1,iM 8 18]
def apD:aB:=(.seq (sq apI (.cond (Tm 16) .skip (.exit 0))) (.seq (.block 1 (sq apJ (sq apK (.region apL)))) (.region apM)))
def adJ:Rg:=[iM 39 6,iM 40 6,iK 41 138 40,iA 42 (.slice 1 (Tm 39) none (some (Tm 41)) none),iM 43 7,iA 44 (.conv .u32 (Tm 43)),iM 4 42,iM 5 44]
def BO:aB:=(sq apE (sq apF (sq apG (.seq (sq apH (.block 0 (.loop apD))) (sq adJ .ret)))))
def bdP:List Nat:=[]
def adI:aS:=⟨2,45,BO,[.tmp 4,.tmp 5]⟩
def bdT:Rg:=[iZ 4]
def bdU:Rg:=[iM 9 0,iN 10 9,iC 11 .add 10 1,iA 12 (.bGS 1 4 [(.int .u32 0)] (Tm 11) (Tm 11)),iM 5 12]
def bdV:Rg:=[iA 6 (.mv (.const (.int .u64 0)))]
def bdW:Rg:=[iM 13 0,iN 14 13,iI 15 0]
def bdX:Rg:=[iB 16 .lss 15 14]
def bdY:Rg:=[iM 17 15,iX 18 1 13 15,iL 19 18,iM 7 17,iM 8 19]
def bdZ:Rg:=[iM 20 6,iM 21 8,iA 22 (.conv .u64 (Tm 21)),iM 23 1,iB 24 .shl 22 23,iB 25 .or 20 24,iM 6 25]
def beA:Rg:=[iM 26 5,iM 27 7,iM 28 6,iA 29 (.conv .u32 (Tm 28)),iX 30 1 26 27,iS 1 30 29]
def beB:Rg:=[iM 31 6,iA 32 (.bin .shr (Tm 31) (.const (.int .u64 32))),iM 6 32]
def beC:Rg:=[iC 33 .add 15 1,iM 15 33]
def aXY:aB:=(sq bdX (.seq (.cond (Tm 16) .skip (.exit 0)) (.seq (.block 1 (sq bdY (sq bdZ (sq beA (.region beB))))) (.region beC))))
def aXZ:Rg:=[iM 34 5,iM 35 0,iN 36 35,iM 37 6,iA 38 (.conv .u32 (Tm 37)),iX 39 1 34 36,iS 1 39 38]
def aYA:Rg:=[iM 40 5,iM 4 40]
def XP:aB:=(sq bdT (sq bdU (sq bdV (.seq (sq bdW (.block 0 (.loop aXY))) (sq aXZ (sq aYA .ret))))))
def bwC:List Nat:=[]
def nup:aS:=⟨2,41,XP,[.tmp 4]⟩
def acX:Rg:=[iZ 4,iZ 5]
def acY:Rg:=[iM 21 0,iM 22 1,iK2 23 129 21 22,iC 24 .lss 23 0]
def acZ:Rg:=[iM 25 0,iK 26 135 25,iZ 4,iM 5 26]
def adA:Rg:=[iM 27 1,iN 28 27,iC 29 .eql 28 1]
def adB:Rg:=[iM 31 0,iM 32 1,iA 33 (.bHD 1 (Tm 32) (Ci 0)),iL 34 33,iK2 35 140 31 34,iM 30 35,iE 36 30 0,iE 37 30 1,iM 6 36,iM 7 37]
def adC:Rg:=[iM 38 6,iM 39 7,iA 40 (.conv .u64 (Tm 39)),iK 41 132 40,iM 4 38,iM 5 41]
def adD:Rg:=[iA 8 (.mv (.const (.int .u64 0)))]
def adE:Rg:=[iM 42 1,iM 43 1,iN 44 43,iC 45 .sub 44 1,iX 46 1 42 45,iL 47 46,iM 48 8,iB 49 .shl 47 48,iA 50 (.bin .lss (Tm 49) (.const (.int .u32 2147483648)))]
def adF:Rg:=[iM 51 8,iA 52 (.bin .add (Tm 51) (.const (.int .u64 1))),iM 8 52]
def acW:aB:=(.seq (sq adE (.cond (Tm 50) .skip (.exit 0))) (.block 1 (.region adF)))
def SP:Rd:=[(iM 53 0,false),(iM 54 8,false),(iK2 55 143 53 54,true),(iM 56 1,true),(iM 57 8,true),(iK2 58 143 56 57,true),(iM 59 1,true),(iN 60 59,true),(iA 61 (.slice 1 (Tm 58) none (some (Tm 60)) none),false),(iM 9 55,false),(iM 10 61,false)]
def SQ:Rg:=[iM 62 10,iN 63 62,iM 11 63]
def SR:Rg:=[iM 64 9,iN 65 64,iM 66 11,iB 67 .sub 65 66,iA 68 (.bGS 1 4 [(.int .u32 0)] (Tm 67) (Tm 67)),iM 12 68]
def SS:Rd:=[(iM 69 10,false),(iM 70 11,false),(iC 71 .sub 70 1,false),(iX 72 1 69 71,false),(iL 73 72,false),(iA 74 (.conv .u64 (Tm 73)),false),(iM 75 10,false),(iM 76 11,false),(iC 77 .sub 76 2,false),(iX 78 1 75 77,false),(iL 79 78,false),(iA 80 (.conv .u64 (Tm 79)),false),(iM 13 74,false),(iM 14 80,false)]
def ST:Rg:=[iM 81 12,iN 82 81,iC 83 .sub 82 1,iM 15 83]
def SU:Rg:=[iM 84 15,iC 85 .geq 84 0]
def BD:Rd:=[(iM 88 9,false),(iM 89 15,false),(iM 90 11,false),(iB 91 .add 89 90,false),(iX 92 1 88 91,false),(iL 93 92,false),(iA 94 (.conv .u64 (Tm 93)),false),(iA 95 (.bin .shl (Tm 94) (.const (.int .u64 32))),false),(iM 96 9,false),(iM 97 15,false),(iM 98 11,false),(iB 99 .add 97 98,false),(iC 100 .sub 99 1,false),(iX 101 1 96 100,false),(iL 102 101,false),(iA 103 (.conv .u64 (Tm 102)),false),(iB 104 .or 95 103,false),(iM 16 104,false)]
def BE:Rd:=[(iM 105 16,false),(iM 106 13,false),(iB 107 .quo 105 106,false),(iM 108 16,false),(iM 109 13,false),(iB 110 .rem 108 109,false),(iM 17 107,false),(iM 18 110,false)]
def SV:Rg:=[iM 111 17,iA 112 (.bin .geq (Tm 111) (.const (.int .u64 4294967296))),iM 113 112,gM 114 17 113 false,gM 115 14 113 false,gB 116 .mul 114 115 113 false,gM 117 18 113 false,iG 118 (.bin .shl (Tm 117) (.const (.int .u64 32))) 113 false,gM 119 9 113 false,gM 120 15 113 false,gM 121 11 113 false,gB 122 .add 120 121 113 false,gC 123 .sub 122 2 113 false,iG 124 (.bHD 1 (Tm 119) (Tm 123)) 113 false,gL 125 124 113 false,iG 126 (.conv .u64 (Tm 125)) 113 false,gB 127 .or 118 126 113 false,gB 128 .gtr 116 127 113 false,iQ 129 113 128]
def BF:Rg:=[iM 130 17,iA 131 (.bin .sub (Tm 130) (.const (.int .u64 1))),iM 17 131]
def BG:Rg:=[iM 132 18,iM 133 13,iB 134 .add 132 133,iM 18 134]
def BH:Rg:=[iM 135 18,iA 136 (.bin .geq (Tm 135) (.const (.int .u64 4294967296)))]
def tP:aB:=(.seq (sq SV (.cond (Tm 129) .skip (.exit 4))) (.block 5 (sq BF (sq BG (sq BH (.cond (Tm 136) (.exit 4) .skip))))))
def BI:Rg:=[iM 137 9,iM 138 15,iM 139 15,iM 140 11,iB 141 .add 139 140,iC 142 .add 141 1,iA 143 (.slice 1 (Tm 137) (some (Tm 138)) (some (Tm 142)) none),iM 144 10,iM 145 17,iA 146 (.call 142 [(Tm 143),(Tm 144),(Tm 145)])]
def BJ:Rg:=[iM 147 17,iA 148 (.bin .sub (Tm 147) (.const (.int .u64 1))),iM 17 148]
def BK:Rg:=[iM 149 9,iM 150 15,iM 151 15,iM 152 11,iB 153 .add 151 152,iC 154 .add 153 1,iA 155 (.slice 1 (Tm 149) (some (Tm 150)) (some (Tm 154)) none),iM 156 10,iK2 157 139 155 156]
def tQ:Rg:=[iM 158 12,iM 159 15,iM 160 17,iA 161 (.conv .u32 (Tm 160)),iX 162 1 158 159,iS 1 162 161]
def SW:Rg:=[iM 86 15,iC 87 .sub 86 1,iM 15 87]
def BB:aB:=(.seq (sq SU (.cond (Tm 85) .skip (.exit 2))) (.seq (.block 3 (dq BD (dq BE (.seq (.block 4 (.loop tP)) (.seq (sq BI (.cond (Tm 146) (sq BJ (.region BK)) .skip)) (.region tQ)))))) (.region SW)))
def BL:Rg:=[iM 163 11,iA 164 (.bGS 1 4 [(.int .u32 0)] (Tm 163) (Tm 163)),iM 19 164]
def BM:Rg:=[iM 165 19,iN 166 165,iI 167 0]
def SX:Rg:=[iB 168 .lss 167 166]
def SY:Rg:=[iM 169 167,iM 20 169]
def SZ:Rd:=[(iM 170 19,false),(iM 171 20,false),(iM 172 9,false),(iM 173 20,false),(iC 174 .add 173 1,false),(iX 175 1 172 174,false),(iL 176 175,false),(iA 177 (.conv .u64 (Tm 176)),false),(iA 178 (.bin .shl (Tm 177) (.const (.int .u64 32))),false),(iM 179 9,false),(iM 180 20,false),(iX 181 1 179 180,false),(iL 182 181,false),(iA 183 (.conv .u64 (Tm 182)),false),(iB 184 .or 178 183,false),(iM 185 8,false),(iB 186 .shr 184 185,false),(iA 187 (.conv .u32 (Tm 186)),false),(iX 188 1 170 171,false),(iS 1 188 187,true)]
def TA:Rg:=[iC 189 .add 167 1,iM 167 189]
def BC:aB:=(sq SX (.seq (.cond (Tm 168) .skip (.exit 6)) (.seq (.block 7 (sq SY (.draw SZ))) (.region TA))))
def TB:Rd:=[(iM 190 12,true),(iM 191 12,false),(iK 192 138 191,true),(iA 193 (.slice 1 (Tm 190) none (some (Tm 192)) none),true),(iM 194 19,true),(iM 195 19,true),(iK 196 138 195,true),(iA 197 (.slice 1 (Tm 194) none (some (Tm 196)) none),false),(iM 4 193,false),(iM 5 197,false)]
def yA:aB:=(sq acX (.seq (sq acY (.cond (Tm 24) (sq acZ .ret) .skip)) (.seq (sq adA (.cond (Tm 29) (sq adB (sq adC .ret)) .skip)) (sq adD (.seq (.block 0 (.loop acW)) (dq SP (sq SQ (sq SR (dq SS (.seq (sq ST (.block 2 (.loop BB))) (sq BL (.seq (sq BM (.block 6 (.loop BC))) (dq TB .ret)))))))))))))
def a6Z:List Nat:=[]
def RI:aS:=⟨2,198,yA,[.tmp 4,.tmp 5]⟩
def NF:Rg:=[iT 6 false]
def NG:Rg:=[iA 7 (.mv (.const (.int .u64 0))),iA 8 (.mv (.const (.int .u64 0)))]
def NH:Rg:=[iM 13 1,iN 14 13,iI 15 0]
def NI:Rg:=[iB 16 .lss 15 14]
def NJ:Rg:=[iM 17 15,iX 18 1 13 15,iL 19 18,iM 9 17,iM 10 19]
def NK:Rg:=[iM 20 7,iM 21 2,iM 22 10,iA 23 (.conv .u64 (Tm 22)),iB 24 .mul 21 23,iB 25 .add 20 24,iM 7 25]
def NL:Rg:=[iM 26 0,iM 27 9,iX 28 1 26 27,iL 29 28,iA 30 (.conv .u64 (Tm 29)),iM 31 7,iA 32 (.bin .and (Tm 31) (.const (.int .u64 4294967295))),iB 33 .sub 30 32,iM 34 8,iB 35 .sub 33 34,iM 11 35]
def NM:Rg:=[iM 36 0,iM 37 9,iM 38 11,iA 39 (.conv .u32 (Tm 38)),iX 40 1 36 37,iS 1 40 39]
def NN:Rg:=[iM 41 11,iA 42 (.bin .shr (Tm 41) (.const (.int .u64 63))),iM 8 42]
def NO:Rg:=[iM 43 7,iA 44 (.bin .shr (Tm 43) (.const (.int .u64 32))),iM 7 44]
def KT:Rg:=[iC 45 .add 15 1,iM 15 45]
def KR:aB:=(sq NI (.seq (.cond (Tm 16) .skip (.exit 0)) (.seq (.block 1 (sq NJ (sq NK (sq NL (sq NM (sq NN (.region NO))))))) (.region KT))))
def KU:Rg:=[iM 46 0,iM 47 1,iN 48 47,iX 49 1 46 48,iL 50 49,iA 51 (.conv .u64 (Tm 50)),iM 52 7,iB 53 .sub 51 52,iM 54 8,iB 55 .sub 53 54,iM 12 55]
def KV:Rg:=[iM 56 0,iM 57 1,iN 58 57,iM 59 12,iA 60 (.conv .u32 (Tm 59)),iX 61 1 56 58,iS 1 61 60]
def KW:Rg:=[iM 62 12,iA 63 (.bin .shr (Tm 62) (.const (.int .u64 63))),iA 64 (.bin .eql (Tm 63) (.const (.int .u64 1))),iM 6 64]
def sZ:aB:=(sq NF (sq NG (.seq (sq NH (.block 0 (.loop KR))) (sq KU (sq KV (sq KW .ret))))))
def aHU:List Nat:=[]
def zK:aS:=⟨3,65,sZ,[.tmp 6]⟩
def TD:Rg:=[iA 4 (.mv (.const (.int .u64 0)))]
def TE:Rg:=[iM 7 1,iN 8 7,iI 9 0]
def TF:Rg:=[iB 10 .lss 9 8]
def TG:Rg:=[iM 11 9,iX 12 1 7 9,iL 13 12,iM 5 11,iM 6 13]
def TH:Rg:=[iM 14 4,iM 15 0,iM 16 5,iX 17 1 15 16,iL 18 17,iA 19 (.conv .u64 (Tm 18)),iM 20 6,iA 21 (.conv .u64 (Tm 20)),iB 22 .add 19 21,iB 23 .add 14 22,iM 4 23]
def TI:Rg:=[iM 24 0,iM 25 5,iM 26 4,iA 27 (.conv .u32 (Tm 26)),iX 28 1 24 25,iS 1 28 27]
def TJ:Rg:=[iM 29 4,iA 30 (.bin .shr (Tm 29) (.const (.int .u64 32))),iM 4 30]
def TK:Rg:=[iC 31 .add 9 1,iM 9 31]
def TC:aB:=(sq TF (.seq (.cond (Tm 10) .skip (.exit 0)) (.seq (.block 1 (sq TG (sq TH (sq TI (.region TJ))))) (.region TK))))
def TL:Rg:=[iM 32 0,iM 33 1,iN 34 33,iX 35 1 32 34,iL 36 35,iM 37 4,iA 38 (.conv .u32 (Tm 37)),iB 39 .add 36 38,iX 40 1 32 34,iS 1 40 39]
def uZ:aB:=(sq TD (.seq (sq TE (.block 0 (.loop TC))) (.region TL)))
def aRW:List Nat:=[]
def HD:aS:=⟨2,41,uZ,[]⟩
open Go Go.RowKit Go.ChangeShapes Go.WideShapes
inductive AT where
 | one (ct:CT)
 | struct (cts:List CT)
 deriving Inhabited
def a2S (P:Program) (n:Nat) (t:TypeId):Option AT :=
 match P.underlying t with
 | some .bool=>some (.one .bool)
 | some (.int k)=>some (.one (.int k))
 | some .string=>some (.one .str)
 | some (.slice _)=>match fY P n t with
  | some [ct]=>some (.one ct)
  | _=>none
 | some (.struct _)=>(fY P n t).map .struct
 | _=>none
def DL (P:Program) (n:Nat):List TypeId→Option (List AT)
 | []=>some []
 | t::ts=>match a2S P n t,DL P n ts with
  | some a,some az=>some (a::az)
  | _,_=>none
inductive AT.Ty:AT→PV→Prop
 | one {ct:CT} {pv:PV} (h:PV.Ty ct pv):AT.Ty (.one ct) pv
 | struct {cts:List CT} {pvs:List PV} (hl:pvs.length=cts.length) (h:∀ (j:Nat) pv ct,pvs[j]?=some pv→cts[j]?=some ct→PV.Ty ct pv):AT.Ty (.struct cts) (.agg pvs)
def AT.TyL:List AT→List PV→Prop
 | [],[]=>True
 | a::az,p::ps=>AT.Ty a p∧AT.TyL az ps
 | _,_=>False
section
variable {H:Type} {enc:TypeId × Value→H} {P:Program} {W:World} {sp:Nat→Bool} {held:Bool}
theorem TrodAll.length:∀ {ts:List TypeId} {vs:List Value} {ds:List (DataW H)} {ps:List MemPlace},DataW.TrodAll enc P W 0 sp held ts vs ds ps→ds.length=ts.length
 | [],[],[],_,_=>rfl
 | [],[],_::_,_,h=>h.elim
 | [],_::_,_,_,h=>h.elim
 | _::_,[],[],_,h=>h.elim
 | _::_,[],_::_,_,h=>h.elim
 | _::_,_::_,[],_,h=>h.elim
 | t::ts,v::vs,d::ds,ps,h=>by
  obtain⟨p,q,h1,h2,rfl⟩:=h
  simp[TrodAll.length h2]
end
attribute [go_sem] oR fW setCells PV.cells PV.one bU storeAt cR loadCells dT bnd PV.slice PV.intOf PV.eqs PV.eq1 PV.un keyOf KS.of KS.ofs KS.sh List.all_cons List.all_nil List.set_cons_zero List.set_cons_succ bJC bKZ bIV bJW bJL Bool.and_self
attribute [go_sem] Bool.bne_false Bool.bne_true Int.le_refl Int.lt_irrefl decide_true decide_false exists_eq_left exists_eq_left' bIM List.length_replicate Int.toNat_natCast Int.natCast_nonneg Option.isSome_some Option.isSome_none bKK Option.getD_none decide_eq_true_eq decide_eq_false_iff_not bJJ bKF bIU Nat.sub_zero
def cV (xs:List Int):List (List PV):=xs.map fun n=>[.int .i64 n]
theorem bF {a b:Int} (h:a≠b):(a==b)=false:=by simp[h]
theorem bO {a b:Int} (h:a=b):(a==b)=true:=by simp[h]
theorem cQ {a b:Int} (h:a≠b):(a != b)=true:=by simp[h]
theorem bV {a b:Int} (h:a=b):(a != b)=false:=by simp[h]
section
variable {H:PH}
@[go_sem] theorem PH.set_set (o:Nat) (x y:cE):(H.set o x).set o y=H.set o y:=PH.ext fun q=>by
 simp only[bA]; split<;>rfl
@[go_sem] theorem jD (o:Nat) (x:cE):(H.set o x) o=some x:=by simp only[bA,if_true]
end
section
variable {C:Ctx} {K:bX} {F:PF} {H:PH}
theorem PH.oJ (o:Nat) (x:cE):H.over .nil (PH.nil.set o x)=H.set o x:=PH.ext fun q=>by
 rw[nG]; simp only[bA,akG]; split<;>simp_all
theorem PH.rX (o:Nat) (x y:cE):H.over (PH.nil.set o x) (PH.nil.set o y)=H.set o y:=PH.ext fun q=>by
 rw[nG]; simp only[bA,akG]; split<;>simp_all
theorem mX {name:Nat} {vs:List PV} {H0:PH} {R:PV→PH→Prop} {args:List aP} {d:Option Nat} {K:PF→PH→Prop} (h:aH C name vs H0 R) (ha:aP.evs F args=some vs) (hle:H0.le H)
  (hk:∀ r H',R r H'→mM H H0 H'→K (F.put d r) (H.over H0 H')):gW C name args [] d K F H :=
 .inl ⟨vs,H0,R,by rw[ha]; simp,hle,h,hk⟩
theorem aV {res:List dW} {R:PV→PH→Prop} {vs:List PV} {e:lP} (he:e=.normal∨e=.ret) (H0:PH) (h:dW.evs F H res=some vs) (hle:H0.le H) (hR:R (bH vs) H0):aR res R e F H:=by
 have key:∃ vs,dW.evs F H res=some vs∧∃ F1 H1 H2,jI (PF.nil.set 0 (bH vs)) H F1 H1∧H2.le H1∧∃ u,F1 0=some u∧R u H2 :=
  ⟨vs,h,_,H,H0,.refl _ _,hle,bH vs,by rw[mJ,if_pos rfl],hR⟩
 rcases he with rfl | rfl<;>exact key
theorem XW {t o s k:Nat} {rs:List (List PV)} {R:PV→PH→Prop} {e:lP} (he:e=.normal∨e=.ret) (h:F t=some (.osl o s 0 k)) (ho:H o=some (.rows s rs)) (hk:k≤rs.length) (hR:R (.sl s (rs.take k)) .nil) :
  aR [.tmp t] R e F H:=by
 have key:∃ vs,dW.evs F H [.tmp t]=some vs∧∃ F1 H1 H2,jI (PF.nil.set 0 (bH vs)) H F1 H1∧H2.le H1∧∃ u,F1 0=some u∧R u H2:=by
  refine⟨[.osl o s 0 k],by rw[kP,nH,h,pC],_,_,.nil,.step o ho (.refl _ _),PH.nil_le,.sl s (rs.take k),?_,hR⟩
  have:0+k≤rs.length:=by omega
  simp only[PF.frz,mJ,if_true,bH,bJS,PV.frz,PV.rK,PV.dP,true_and,if_pos this,bJR]
 rcases he with rfl | rfl<;>exact key
def bP (v:PV) (r:PV) (H:PH):Prop:=Co r v∧H=PH.nil
theorem yV {s b:Nat} {y:PV} {src:List (List PV)} {K:PV→PH→Prop} (hy:dT H s y=some src) (hr:roomFor 0 src.length b) (h0:src=[]→K .bGI H)
  (h1:src≠[]→∀ o,H o=none→K (.osl o s 0 src.length) (H.set o (.rows s src))):mW H s b .bGI y K:=⟨src,hy,hr,h0,h1⟩
theorem aOM {o s b len:Nat} {rs:List (List PV)} {y:PV} {src:List (List PV)} {K:PV→PH→Prop} (hy:dT H s y=some src) (hr:roomFor len src.length b) (ho:H o=some (.rows s rs)) (hl:len≤rs.length)
  (h0:K (.osl o s 0 (len+src.length)) (H.set o (.rows s (rs.take len++src))))
  (h1:∀ o',H o'=none→K (.osl o' s 0 (len+src.length)) (H.set o' (.rows s (rs.take len++src)))):mW H s b (.osl o s 0 len) y K :=
 ⟨src,hy,rfl,rfl,hr,rs,ho,hl,h0,h1⟩
end
def aX (H:PH) (s:Nat) (v:PV) (rows:List (List PV)):Prop :=
 (rows=[]∧v=.bGI)∨∃ q rs,v=.osl q s 0 rows.length∧H q=some (.rows s rs)∧rows.length≤rs.length∧rs.take rows.length=rows
def Seen (s:Nat) (v:PV) (rows:List (List PV)):Prop:=(rows=[]∧v=.bGI)∨v=.sl s rows
section
variable {C:Ctx} {K:bX} {F:PF} {H:PH} {s b:Nat} {v y:PV} {rows src:List (List PV)}
theorem aX.nil:aX H s .bGI []:=.inl ⟨rfl,rfl⟩
theorem aX.view (h:aX H s v rows):dT H s v=some rows:=by
 rcases h with ⟨rfl,rfl⟩ | ⟨q,rs,rfl,h1,h2,h3⟩
 ·rfl
 ·have:0+rows.length≤rs.length:=by omega
  simp only[dT,if_true,h1,true_and,if_pos this,bJR,h3]
theorem Seen.view (h:Seen s v rows):dT H s v=some rows:=by
 rcases h with ⟨rfl,rfl⟩ | rfl
 ·rfl
 ·simp[dT]
theorem aX.ext {H':PH} (h:aX H s v rows) (hk:∀ o x,H o=some x→H' o=some x):aX H' s v rows:=by
 rcases h with h | ⟨q,rs,h0,h1,h2,h3⟩
 ·exact .inl h
 ·exact .inr ⟨q,rs,h0,hk q _ h1,h2,h3⟩
theorem cX {K:PV→PH→Prop} (h:aX H s v rows) (hy:dT H s y=some src) (hr:roomFor rows.length src.length b)
  (hk:∀ v' H',aX H' s v' (rows++src)→(∀ o x,H o=some x→(∀ l,v≠.osl o s 0 l)→H' o=some x)→K v' H'):mW H s b v y K:=by
 rcases h with ⟨rfl,rfl⟩ | ⟨q,rs,rfl,h1,h2,h3⟩
 ·refine⟨src,hy,hr,fun e=>?_,fun e o ho=>?_⟩
  ·subst e
   exact hk _ _ (.inl ⟨rfl,rfl⟩) fun o x ho _=>ho
  ·refine hk _ _ (.inr ⟨o,src,rfl,by simp only[bA,if_true],bIU _,by simp⟩) fun o' x ho' _=>?_
   have:o'≠o:=by rintro rfl; rw[ho] at ho'; cases ho'
   simp only[bA,if_neg this,ho']
 ·have hlen:(rows++src).length=rows.length+src.length:=bIQ
  refine⟨src,hy,rfl,rfl,hr,rs,h1,h2,?_,fun o ho=>?_⟩
  ·rw[h3]
   refine hk _ _ (.inr ⟨q,rows++src,by rw[hlen],by simp only[bA,if_true],bIU _,bJN⟩) fun o' x ho' hne=>?_
   have:o'≠q:=by rintro rfl; exact hne _ rfl
   simp only[bA,if_neg this,ho']
  ·rw[h3]
   refine hk _ _ (.inr ⟨o,rows++src,by rw[hlen],by simp only[bA,if_true],bIU _,bJN⟩) fun o' x ho' hne=>?_
   have h6:o'≠o:=by rintro rfl; rw[ho] at ho'; cases ho'
   simp only[bA,if_neg h6,ho']
def Pure (u:PV):Prop:=∀ q s rs,PV.frz q s rs u=u
theorem aX.frz (h:aX H s v rows):∃ v1,Seen s v1 rows∧∀ F:PF,∃ F1 H1,jI F H F1 H1∧(∀ t,F t=some v→F1 t=some v1)∧∀ i u,F i=some u→Pure u→F1 i=some u:=by
 rcases h with ⟨rfl,rfl⟩ | ⟨q,rs,rfl,h1,h2,h3⟩
 ·exact⟨.bGI,.inl ⟨rfl,rfl⟩,fun F=>⟨F,H,.refl _ _,fun t h=>h,fun i u h _=>h⟩⟩
 ·refine⟨.sl s rows,.inr rfl,fun F=>⟨_,_,.step q h1 (.refl _ _),fun t ht=>?_,fun i u hi hp=>?_⟩⟩
  ·have:0+rows.length≤rs.length:=by omega
   simp only[PF.frz,ht,bJS,PV.frz,PV.rK,PV.dP,if_true,true_and,if_pos this,bJR,h3]
  ·simp only[PF.frz,hi,bJS]
   rw[hp]
theorem jZ {t:Nat} {e:lP} (he:e=.normal∨e=.ret) (h:aX H s v rows) (ht:F t=some v):aR [.tmp t] (bP (.sl s rows)) e F H:=by
 rcases h with ⟨rfl,rfl⟩ | ⟨q,rs,rfl,h1,h2,h3⟩
 ·exact aV (vs:=[.bGI]) he .nil (by rw[kP,nH,ht,pC]) PH.nil_le ⟨.nil s,rfl⟩
 ·exact XW he ht h1 h2 ⟨by rw[h3]; exact .refl _,rfl⟩
end
end Go.PM
namespace Go.PM
open Go
section
variable {C:Ctx} {F:PF} {H:PH}
@[go_sem] theorem rL (o s:Nat) (rs:List (List PV)) (i:Nat):(F.frz o s rs) i=(F i).map (PV.frz o s rs):=(rfl)
theorem pF {name t o s k:Nat} {rs:List (List PV)} {v:PV} {d:Option Nat} {K:PF→PH→Prop} (h:aH C name [.sl s (rs.take k)] .nil (aD v)) (ht:F t=some (.osl o s 0 k)) (ho:H o=some (.rows s rs)) (hk:k≤rs.length)
  (hK:K ((F.frz o s rs).put d v) (H.frz o s rs)):gW C name [.tmp t] [] d K F H:=by
 refine .inr ⟨_,_,.step o ho (.refl _ _),[.sl s (rs.take k)],.nil,aD v,?_,PH.nil_le,h,?_⟩
 ·have:0+k≤rs.length:=by omega
  simp only[xN,QS,aaH,rL,ht,bJS,PV.frz,PV.rK,PV.dP,if_true,true_and,if_pos this,bJR,bJZ]
 ·rintro r H' ⟨rfl,rfl⟩ -
  rw[PH.yB]
  exact hK
end
end Go.PM
namespace Go.Na
def val:List Nat→Nat
 | []=>0
 | x::xs=>x+4294967296*val xs
def Lim (xs:List Nat):Prop:=∀ x∈xs,x<4294967296
def aG (n:Nat):List Nat:=if h:n=0 then [] else (n%4294967296)::aG (n/4294967296)
termination_by n
decreasing_by exact Nat.div_lt_self (bKP h) (by decide)
def nl (n:Nat):Nat:=(aG n).length
theorem fA:aG 0=[]:=by rw[aG]; simp
theorem qP {n:Nat} (h:n≠0):aG n=(n%4294967296)::aG (n/4294967296):=by rw[aG]; simp[h]
theorem nE {n:Nat} (h:n≠0) (hb:n<4294967296):aG n=[n]:=by
 rw[qP h,bJT hb,bLO hb,fA]
theorem aQ (n:Nat):val (aG n)=n:=by
 induction n using Nat.strongRecOn with
 | _ n ih =>
  by_cases h:n=0
  ·subst h; rw[fA]; rfl
  ·rw[qP h,val,ih _ (Nat.div_lt_self (bKP h) (by decide))]
   exact Nat.mod_add_div n 4294967296
theorem aU (n:Nat):Lim (aG n):=by
 induction n using Nat.strongRecOn with
 | _ n ih =>
  by_cases h:n=0
  ·subst h; rw[fA]; intro x hx; cases hx
  ·rw[qP h]
   intro x hx
   rw[bJB] at hx
   rcases hx with rfl | hx
   ·exact bJX _ (by decide)
   ·exact ih _ (Nat.div_lt_self (bKP h) (by decide)) x hx
theorem xB:nl 0=0:=by rw[nl,fA]; rfl
theorem bdK {n:Nat} (h:n≠0):nl n=nl (n/4294967296)+1:=by rw[nl,qP h]; rfl
theorem jE (n k:Nat):nl n≤k↔n<4294967296 ^ k:=by
 induction k generalizing n with
 | zero =>
  by_cases h:n=0
  ·subst h; simp[xB]
  ·rw[bdK h]; simp; omega
 | succ k ih =>
  by_cases h:n=0
  ·subst h; simp[xB,bKY]
  ·rw[bdK h,Nat.succ_le_succ_iff,ih,bKB,bLC (by decide)]
theorem gJ {n:Nat}:nl n=0↔n=0:=by
 have:=jE n 0
 simp at this
 exact this
theorem fL (xs ys:List Nat):val (xs++ys)=val xs+4294967296 ^ xs.length*val ys:=by
 induction xs with
 | nil=>simp[val]
 | cons x xs ih =>
  simp only[List.cons_append,val,bLG,ih,bKB]
  rw[bJA,bKS,← bJH,bJM 4294967296 (4294967296 ^ xs.length)]
theorem eM {xs:List Nat} (h:Lim xs):val xs<4294967296 ^ xs.length:=by
 induction xs with
 | nil=>simp[val]
 | cons x xs ih =>
  have h1:=h x (by simp)
  have h2:=ih fun y hy=>h y (by simp[hy])
  simp only[val,bLG,bKB]
  have:4294967296*(val xs+1)≤4294967296*4294967296 ^ xs.length:=bKO _ h2
  rw[bJA,Nat.mul_one] at this
  rw[bJM (4294967296 ^ xs.length)]
  omega
theorem Lim.app {xs ys:List Nat} (h:Lim xs) (k:Lim ys):Lim (xs++ys):=fun x hx=>by
 rw[bKL] at hx
 exact hx.elim (h x) (k x)
theorem Lim.take {xs:List Nat} (h:Lim xs) (n:Nat):Lim (xs.take n):=fun x hx=>h x (List.mem_of_mem_take hx)
theorem Lim.drop {xs:List Nat} (h:Lim xs) (n:Nat):Lim (xs.drop n):=fun x hx=>h x (List.mem_of_mem_drop hx)
theorem Lim.set {xs:List Nat} (h:Lim xs) (i:Nat) {v:Nat} (hv:v<4294967296):Lim (xs.set i v):=fun x hx=>by
 rcases List.mem_or_eq_of_mem_set hx with h1 | h1
 ·exact h x h1
 ·subst h1; exact hv
theorem uH (n:Nat):Lim (bIP n 0):=fun x hx=>by
 rw[List.mem_replicate] at hx; rw[hx.2]; decide
theorem qY (n:Nat):val (bIP n 0)=0:=by
 induction n with
 | zero=>rfl
 | succ n ih=>simp[List.replicate_succ,val,ih]
theorem bcG {xs:List Nat} (h:Lim xs) (hl:∀ x,xs.getLast?=some x→x≠0):aG (val xs)=xs:=by
 induction xs with
 | nil=>simp[val,fA]
 | cons x xs ih =>
  have hx:=h x (by simp)
  have hxs:Lim xs:=fun y hy=>h y (by simp[hy])
  cases xs with
  | nil =>
   have:=hl x (by simp)
   simp only[val,Nat.mul_zero,bKF]
   exact nE this hx
  | cons y ys =>
   have ih':=ih hxs fun z hz=>hl z (by rw[List.getLast?_cons_cons]; exact hz)
   have h0:val (y::ys)≠0:=fun e=>by rw[e,fA] at ih'; cases ih'
   have hne:x+4294967296*val (y::ys)≠0:=by
    have:0<4294967296*val (y::ys):=Nat.mul_pos (by decide) (bKP h0)
    omega
   show aG (x+4294967296*val (y::ys))=_
   rw[qP hne]
   have e1:(x+4294967296*val (y::ys))%4294967296=x:=by rw[Nat.add_mul_mod_self_left,bJT hx]
   have e2:(x+4294967296*val (y::ys))/4294967296=val (y::ys):=by rw[Nat.add_mul_div_left _ _ (by decide),bLO hx,bJJ]
   rw[e1,e2,ih']
theorem aNR {xs:List Nat} {n:Nat} (h:∀ j x,n≤j→xs[j]?=some x→x=0):val (xs.take n)=val xs:=by
 have e:xs.drop n=bIP (xs.drop n).length 0:=by
  apply bLI (by simp)
  intro i h1 h2
  rw[List.getElem_replicate,List.getElem_drop]
  exact h (n+i) _ Om (bIZ _)
 conv=>rhs; rw[← bLB n xs,fL,e,qY]
 simp
theorem IH {xs:List Nat} (hx:Lim xs) {n:Nat} (hn:n≤xs.length) (h:∀ j x,n≤j→xs[j]?=some x→x=0) (h0:∀ x,0<n→xs[n-1]?=some x→x≠0):xs.take n=aG (val xs):=by
 rw[← aNR h,bcG (hx.take n)]
 intro x hl
 rw[List.getLast?_eq_getElem?,bJF,bKJ hn] at hl
 rcases bKN n with e | e
 ·subst e; simp at hl
 ·rw[List.getElem?_take_of_lt Om] at hl
  exact h0 x e hl
theorem aZA {xs:List Nat} (hx:Lim xs) {n:Nat} (hn:n≤xs.length) (h:∀ j x,n≤j→xs[j]?=some x→x=0) (h0:∀ x,0<n→xs[n-1]?=some x→x≠0):nl (val xs)=n:=by
 rw[nl,← IH hx hn h h0,bJF]; omega
theorem eW {xs:List Nat} (h:Lim xs):nl (val xs)≤xs.length:=(jE _ _).2 (eM h)
theorem jO {xs : List Nat} (h : Lim xs) : xs.take (nl (val xs)) = aG (val xs) := by
  have hl := eW h
  have e : val (xs.take (nl (val xs)) ++ xs.drop (nl (val xs))) = val xs := by rw [bLB]
  rw [fL, bJF, bKJ hl] at e
  have h1 := eM (h.take (nl (val xs)))
  rw [bJF, bKJ hl] at h1
  have h2 := (jE (val xs) (nl (val xs))).1 (bIU _)
  have hd : val (xs.drop (nl (val xs))) = 0 := by
    rcases bKN (val (xs.drop (nl (val xs)))) with h | h
    · exact h
    · have := bKO (4294967296 ^ nl (val xs)) h
      omega
  have hz : ∀ j x, nl (val xs) ≤ j → xs[j]? = some x → x = 0 := by
    have zero : ∀ ys : List Nat, val ys = 0 → ∀ y ∈ ys, y = 0 := by
      intro ys
      induction ys with
      | nil => intro _ y hy; cases hy
      | cons z zs ih =>
        intro hv y hy
        simp only [val] at hv
        rw [bJB] at hy
        rcases hy with rfl | hy
        · omega
        · exact ih (by have : 4294967296 * val zs = 0 := by omega
                       rcases Nat.mul_eq_zero.1 this with h | h
                       · cases h
                       · exact h) y hy
    intro j x hj hx
    refine zero _ hd x ?_
    rw [List.mem_iff_getElem?]
    exact ⟨j - nl (val xs), by rw [List.getElem?_drop, Nat.add_sub_cancel' hj]; exact hx⟩
  refine IH h hl hz fun x hpos hx e => ?_
  subst e
  have hz2 : ∀ j x, nl (val xs) - 1 ≤ j → xs[j]? = some x → x = 0 := fun j y hj hy => by
    rcases bJG j (nl (val xs)) with h3 | h3
    · have : j = nl (val xs) - 1 := by omega
      subst this; rw [hx] at hy; cases hy; rfl
    · exact hz j y h3 hy
  have h3 := aNR hz2
  have h4 := eM (h.take (nl (val xs) - 1))
  rw [h3, bJF, bKJ Om] at h4
  have := (jE (val xs) (nl (val xs) - 1)).2 h4
  omega
theorem aKX {xs:List Nat} (h:Lim xs) {n:Nat} (hn:nl (val xs)=n+1):∃ x,xs[n]?=some x∧x≠0:=by
 have hl:=eW h
 refine⟨xs[n]'Om,bIZ _,fun e=>?_⟩
 have e1:=jO h
 have hv:=aQ (val xs)
 rw[← e1,hn,bKM Om,e,fL] at hv
 simp only[val,Nat.mul_zero,bKF] at hv
 have h4:=eM (h.take n)
 rw[hv,bJF,bKJ Om] at h4
 have:=(jE (val xs) n).2 h4
 omega
theorem qV (xs:List Nat) {k:Nat} (h:k<xs.length):val xs=val (xs.take k)+4294967296 ^ k*(xs[k]+4294967296*val (xs.drop (k+1))):=by
 conv=>lhs; rw[← bLB k xs,fL,bJF,bKJ Om,bKE h]
 rfl
theorem aaE {xs ys:List Nat} (hx:Lim xs) {k:Nat} (h1:k<xs.length) (h2:k<ys.length) (hd:xs.drop (k+1)=ys.drop (k+1)) (h:xs[k]<ys[k]):val xs<val ys:=by
 rw[qV xs h1,qV ys h2,hd]
 have h3:=eM (hx.take k)
 rw[bJF,bKJ Om] at h3
 have h4:4294967296 ^ k*(xs[k]+4294967296*val (ys.drop (k+1))+1)≤4294967296 ^ k*(ys[k]+4294967296*val (ys.drop (k+1))):=bKO _ Om
 rw[bJA _ _ 1,Nat.mul_one] at h4
 omega
def cY (a b:Nat):Int:=if a<b then -1 else if b<a then 1 else 0
theorem amM {xs ys:List Nat} {k:Nat} (h1:k<xs.length) (h2:k<ys.length) (hd:xs.drop (k+1)=ys.drop (k+1)) (h:xs[k]=ys[k]):xs.drop k=ys.drop k:=by
 rw[bKE h1,bKE h2,hd,h]
theorem fF {a b:Nat} (h:a≤b):nl a≤nl b:=(jE a _).2 (Nat.lt_of_le_of_lt h ((jE b _).1 (bIU _)))
theorem azQ {xs:List Nat} (h:Lim xs) {j:Nat} (hj:j<nl (val xs)):∃ (h1:j<xs.length) (h2:j<(aG (val xs)).length),xs[j]=(aG (val xs))[j]:=by
 have hl:=eW h
 refine⟨by omega,hj,?_⟩
 have e:=jO h
 have:(xs.take (nl (val xs)))[j]?=(aG (val xs))[j]?:=by rw[e]
 rw[List.getElem?_take_of_lt hj,bIZ Om,bIZ hj] at this
 exact bKT.inj this
def cC (n:Nat):Nat:=if h:n=0 then 0 else cC (n/2)+1
termination_by n
decreasing_by exact Nat.div_lt_self (bKP h) (by decide)
theorem jC:cC 0=0:=by rw[cC]; simp
theorem nZ {n:Nat} (h:n≠0):cC n=cC (n/2)+1:=by rw[cC]; simp[h]
theorem kZ (n k:Nat):cC n≤k↔n<2 ^ k:=by
 induction k generalizing n with
 | zero =>
  by_cases h:n=0
  ·subst h; simp[jC]
  ·rw[nZ h]; simp; omega
 | succ k ih =>
  by_cases h:n=0
  ·subst h; simp[jC,bKY]
  ·rw[nZ h,Nat.succ_le_succ_iff,ih,bKB,bLC (by decide)]
theorem jK {n:Nat}:cC n=0↔n=0:=by
 have:=kZ n 0
 simp at this
 exact this
theorem azR {hi lo k:Nat} (hl:lo<2 ^ k) (hh:hi≠0):cC (lo+2 ^ k*hi)=k+cC hi:=by
 apply Nat.le_antisymm
 ·rw[kZ,Nat.pow_add]
  have h1:=(kZ hi _).1 (bIU _)
  have:2 ^ k*(hi+1)≤2 ^ k*2 ^ cC hi:=bKO _ h1
  rw[bJA,Nat.mul_one] at this
  omega
 ·obtain⟨b,hb⟩:∃ b,cC hi=b+1:=⟨cC hi-1,by have:=mt jK.1 hh; omega⟩
  rw[hb]
  rcases bJG (cC (lo+2 ^ k*hi)) (k+(b+1)) with h | h
  ·have h1:=(kZ (lo+2 ^ k*hi) (k+b)).1 Om
   rw[Nat.pow_add] at h1
   have h2:¬ hi<2 ^ b:=fun h=>by have:=(kZ hi b).2 h; omega
   have:2 ^ k*2 ^ b≤2 ^ k*hi:=bKO _ Om
   omega
  ·exact h
theorem lC (n k:Nat):cC n≤32*k↔nl n≤k:=by
 rw[kZ,jE,Nat.pow_mul]
end Go.Na
namespace Go.PM
theorem Lq {F F':PF} (h:F.le F':=by (repeat' (first|exact PF.nil_le|refine PF.aF ?_ ?_))<;>first|(simp only[go_sem,γ,δ,ε,ζ,η,θ,ι,κ,μ,ν,ξ,ο,ρ,σ,τ,υ,reduceIte,reduceCtorEq]<;>rfl)|rfl|assumption):F.le F':=h
end Go.PM
namespace Go.PM
open Go Go.Na
abbrev aK (xs:List Nat):List (List PV):=xs.map fun (n:Nat)=>[PV.int .u32 (n:Int)]
abbrev aI (xs:List Nat):PV:=.sl 1 (xs.map fun (n:Nat)=>[PV.int .u32 (n:Int)])
theorem bT (xs:List Nat):(aK xs).length=xs.length:=by simp
theorem bN (xs:List Nat) {i:Nat} (h:i<xs.length):(aK xs)[i]?=some [.int .u32 (xs[i]:Nat)]:=by simp[h]
theorem aoY (xs:List Nat) (k:Nat):aI (xs.take k)=.sl 1 ((xs.map fun (n:Nat)=>[PV.int .u32 (n:Int)]).take k):=by rw[aI,List.map_take]
theorem cA (n:Nat):IntKind.u32.wrap (n:Int)=((n%4294967296:Nat):Int):=by
 have e:IntKind.u32.wrap (n:Int)=(n:Int)%4294967296:=by simp[IntKind.wrap,IntKind.bits,IntKind.signed]
 rw[e]; rfl
theorem uU {k:Nat} (h:k≤9223372036854775807) (h0:0<k):IntKind.i64.wrap ((k:Int)-1)=((k-1:Nat):Int):=by
 rw[wrap_i64 Om Om]; omega
def a7C (xs:List Nat) (n:Nat):PF:=((PF.nil.set 0 (aI xs)).set 3 (.int .i64 n))
theorem a7E {C:Ctx} (xs:List Nat) (hx:Lim xs) (hl:xs.length≤35184372087808):oH.wp C (aR xC.res (aD (.int .i64 (nl (val xs):Nat)))) (PF.args [aI xs]) .nil:=by
 simp only[go_sem,γ,reduceCtorEq,oH,GY,GZ,xC]
 refine wp_loop (α:=Nat) (a7C xs) (fun _=>.nil) (fun n=>n≤xs.length∧∀ j x,n≤j→xs[j]?=some x→x=0) (fun n=>n) xs.length ⟨bIU _,fun j x h e=>by rw[bJY h] at e; cases e⟩ ?_ PH.nil_le ?_
 ·unfold a7C
  exact Lq
 rintro n ⟨hn,hz⟩
 have out:(∀ x,0<n→xs[n-1]?=some x→x≠0)→nl (val xs)=n:=fun h=>aZA hx hn hz h
 simp only[go_sem,γ,reduceCtorEq,GX,HA,a7C]
 by_cases h0:(n:Int)>0
 ·have hp:0<n:=by omega
  have hi:=bN xs (Om:n-1<xs.length)
  simp only[go_sem,γ,reduceCtorEq,h0,uU (Om:n≤9223372036854775807) hp,hi]
  by_cases hz0:xs[n-1]=0
  ·simp only[go_sem,γ,reduceCtorEq,bO (Om:((xs[n-1]:Nat):Int)=0),HB,uU (Om:n≤9223372036854775807) hp]
   refine aC (n-1) ⟨by omega,fun j x hj he=>?_⟩ Om ?_ PH.nil_le
   ·rcases bJG j n with h | h
    ·have:j=n-1:=by omega
     subst this
     rw[bIZ Om] at he
     cases he; exact hz0
    ·exact hz j x h he
   ·exact Lq
  ·simp only[go_sem,γ,reduceCtorEq,bF (Om:((xs[n-1]:Nat):Int)≠0),rU]
   refine aM (.inr rfl) rfl ?_
   rw[out fun x _ he=>by rw[bIZ Om] at he; cases he; exact hz0]
   rfl
 ·simp only[go_sem,γ,reduceCtorEq,h0,rU]
  refine aM (.inr rfl) rfl ?_
  rw[out fun x h=>by omega]
  rfl
theorem bdL {C:Ctx} (xs:List Nat) (hlen:aH C 138 [aI xs] .nil (aD (.int .i64 (nl (val xs):Nat)))):BN.wp C (aR adH.res (aD (.bool (decide (nl (val xs)>512))))) (PF.args [aI xs]) .nil:=by
 simp only[go_sem,reduceCtorEq,BN,apA,apB,adH]
 refine aA hlen rfl ?_
 simp only[go_sem,γ]
 refine aM (.inr rfl) rfl ?_
 simp only[bH,PV.bool.injEq,decide_eq_decide]
 omega
def szL (n:Nat):List Nat:=if nl n>512 then [] else aG n
def szE (n:Nat):Int:=if nl n>512 then 2 else 0
def szV (n:Nat):PV:=.tup [aI (szL n),.int .i64 (szE n)]
theorem bdQ {C:Ctx} (xs:List Nat) (hx:Lim xs) (hlen:aH C 138 [aI xs] .nil (aD (.int .i64 (nl (val xs):Nat)))):BP.wp C (aR adK.res (bP (szV (val xs)))) (PF.args [aI xs]) .nil:=by
 simp only[go_sem,reduceCtorEq,BP,apN,apO,adK]
 refine aA hlen rfl ?_
 simp only[go_sem,γ,apP]
 by_cases h:nl (val xs)>512
 ·have h':((nl (val xs):Nat):Int)>512:=by omega
  simp only[go_sem,h',apQ]
  refine aV (vs:=[.bGI,.int .i64 2]) (.inr rfl) .nil rfl PH.nil_le ⟨?_,rfl⟩
  rw[szV,szL,szE,if_pos h,if_pos h]
  refine .tup rfl fun j p q hp hq=>?_
  match j with
  | 0=>simp at hp hq; subst hp; subst hq; exact .nil 1
  | 1=>simp at hp hq; subst hp; subst hq; exact .refl _
  | j+2=>simp at hp
 ·have h':¬ ((nl (val xs):Nat):Int)>512:=by omega
  have hl:=eW hx
  have hc:((nl (val xs):Nat):Int)≤(xs.length:Nat):=by omega
  simp only[go_sem,ν,γ,reduceCtorEq,h',apR,hc,or_true,bJR]
  refine aV (.inr rfl) .nil rfl PH.nil_le ⟨?_,rfl⟩
  rw[szV,szL,szE,if_neg h,if_neg h,← jO hx,aoY]
  exact .refl _
theorem blZ {C:Ctx} (v:Nat) (hv:v<18446744073709551616) (hlen:∀ xs,Lim xs→xs.length≤35184372087808→aH C 138 [aI xs] .nil (aD (.int .i64 (nl (val xs):Nat)))) :
  HC.wp C (aR axX.res (aD (aI (aG v)))) (PF.args [.int .u64 v]) .nil:=by
 have e1:IntKind.u32.wrap ((v:Nat):Int)=((v%4294967296:Nat):Int):=cA v
 have e2:Int.fdiv ((v:Nat):Int) 4294967296=((v/4294967296:Nat):Int):=by
  rw[Int.fdiv_eq_ediv_of_nonneg _ (by decide)]; rfl
 have hd:v/4294967296<4294967296:=by omega
 have e3:IntKind.u32.wrap ((v/4294967296:Nat):Int)=((v/4294967296:Nat):Int):=by rw[cA,bJT hd]
 have hL:Lim [v%4294967296,v/4294967296]:=by
  intro x hx
  simp only[bJB,List.mem_nil_iff,or_false] at hx
  rcases hx with rfl | rfl
  ·exact bJX _ (by decide)
  ·exact hd
 have bHB:val [v%4294967296,v/4294967296]=v:=by simp only[val,Nat.mul_zero,bKF]; exact Nat.mod_add_div v 4294967296
 have hs:∀ a b:Int,PV.bin .shr (.int .u64 a) (.int .u64 b)=shift .shr .u64 a b:=fun _ _=>rfl
 have hsh:shift .shr .u64 (v:Int) 32=some (.int .u64 ((v/4294967296:Nat):Int)):=by
  unfold shift
  rw[if_neg (by decide)]
  simp only
  have:min (Int.toNat 32) IntKind.u64.bits=32:=by decide
  rw[this]
  rw[show (2:Int) ^ 32=4294967296 by decide,e2]
 simp only[go_sem,υ,δ,γ,η,θ,ζ,reduceCtorEq,HC,aHD,aHE,axX,e1,hsh,e3]
 have hb:(2:Nat)*1≤16777216:=by decide
 simp only[go_sem,γ,aHF]
 refine aA (hlen [v%4294967296,v/4294967296] hL (by simp)) rfl ?_
 have hl:=eW hL
 rw[bHB] at hl ⊢
 have hc:((nl v:Nat):Int)≤((2:Nat):Int):=by simp at hl; omega
 simp only[go_sem,ν,δ,γ,reduceCtorEq,hc,or_true,bJR]
 refine aM (.inr rfl) rfl ?_
 have:=jO hL
 rw[bHB] at this
 rw[← this,aoY]
 rfl
theorem bmC {C:Ctx} (xs:List Nat) (hx:Lim xs) (hl:xs.length≤35184372087808) (hlen:aH C 138 [aI xs] .nil (aD (.int .i64 (nl (val xs):Nat)))) :
  HE.wp C (aR axY.res (bP (aI (aG (val xs))))) (PF.args [aI xs]) .nil:=by
 simp only[go_sem,reduceCtorEq,HE,aHV,aHW,axY]
 refine aA hlen rfl ?_
 have hn:=eW hx
 have hc:((nl (val xs):Nat):Int)≤(xs.length:Nat):=by omega
 simp only[go_sem,ν,γ,reduceCtorEq,hc,or_true,bJR]
 refine cX (rows:=[]) (src:=aK (aG (val xs))) .nil ?_ ?_ fun v H' ho _=>?_
 ·simp only[go_sem]
  rw[← jO hx,← List.map_take]
 ·unfold roomFor
  rw[bT]
  have:(aG (val xs)).length=nl (val xs):=rfl
  simp only[bLA,maxLen]
  omega
 ·exact jZ (.inr rfl) (by simpa using ho) rfl
end Go.PM
theorem Sq {p:Prop} (h:p:=by simp only[go_sem,γ,δ,ε,ζ,η,θ,ι,κ,μ,ν,ξ,ο,ρ,σ,τ,υ,reduceIte,reduceCtorEq]):p:=h
theorem Ev {p:Prop} (h:p:=by simp only[go_sem,γ,δ,ε,ζ,η,θ,ι,κ,μ,ν,ξ,ο,ρ,σ,τ,υ,reduceIte,reduceCtorEq]<;>rfl):p:=h
namespace Go.PM
open Go Go.Na
def a6U (xs ys:List Nat) (i:Int):PF:=(((PF.nil.set 0 (aI xs)).set 1 (aI ys)).set 7 (.int .i64 i))
theorem bsK {C:Ctx} (xs ys:List Nat) (hx:Lim xs) (hy:Lim ys) (lx:xs.length≤35184372087808) (ly:ys.length≤35184372087808) (hlx:aH C 138 [aI xs] .nil (aD (.int .i64 (nl (val xs):Nat)))) (hly:aH C 138 [aI ys] .nil (aD (.int .i64 (nl (val ys):Nat)))) :
  MW.wp C (aR a6T.res (aD (.int .i64 (cY (val xs) (val ys))))) (PF.args [aI xs,aI ys]) .nil:=by
 simp only[go_sem,reduceCtorEq,MW,aWQ,aWR,a6T]
 refine aA hlx Ev ?_
 simp only[go_sem,γ]
 refine aA hly Ev ?_
 simp only[go_sem,γ,aWS]
 have bx:=eW hx
 have by':=eW hy
 by_cases c1:nl (val xs)<nl (val ys)
 ·have c1':((nl (val xs):Nat):Int)<(nl (val ys):Nat):=by omega
  simp only[go_sem,ο,c1',aWT]
  refine aM (.inr rfl) Ev ?_
  have:val xs<val ys:=by
   rcases bJG (val xs) (val ys) with h | h
   ·exact h
   ·have:=fF h; omega
  simp[bH,cY,this]
 have c1':¬ ((nl (val xs):Nat):Int)<(nl (val ys):Nat):=by omega
 simp only[go_sem,γ,c1',aWU]
 by_cases c2:nl (val xs)>nl (val ys)
 ·have c2':((nl (val xs):Nat):Int)>(nl (val ys):Nat):=by omega
  simp only[go_sem,c2',aWV]
  refine aM (.inr rfl) Ev ?_
  have:val ys<val xs:=by
   rcases bJG (val ys) (val xs) with h | h
   ·exact h
   ·have:=fF h; omega
  have h2:¬ val xs<val ys:=by omega
  simp[bH,cY,this,h2]
 have c2':¬ ((nl (val xs):Nat):Int)>(nl (val ys):Nat):=by omega
 have hn:nl (val xs)=nl (val ys):=by omega
 simp only[go_sem,γ,c2',aWW]
 have ex:=aQ (val xs)
 have ey:=aQ (val ys)
 have LX:=aU (val xs)
 have LY:=aU (val ys)
 refine wp_loop (α:=Nat) (fun k=>a6U xs ys ((k:Int)-1)) (fun _=>.nil) (fun k=>k≤nl (val xs)∧(aG (val xs)).drop k=(aG (val ys)).drop k) (fun k=>k) (nl (val xs)) ⟨bIU _,?_⟩ ?_ PH.nil_le ?_
 ·rw[bLT (by rw[nl]; exact bIU _),bLT (by rw[hn,nl]; exact bIU _)]
 ·unfold a6U
  (repeat' (first|exact PF.nil_le|refine PF.aF ?_ ?_))<;>first|(simp only[go_sem,γ,reduceCtorEq,wrap_i64 (show -9223372036854775808≤((nl (val xs):Nat):Int)-1 by omega) (show ((nl (val xs):Nat):Int)-1≤9223372036854775807 by omega)]<;>rfl)|rfl
 rintro k ⟨hk,hd⟩
 simp only[go_sem,γ,reduceCtorEq,aGU,aWX,a6U]
 by_cases h0:0<k
 ·obtain⟨m,rfl⟩:∃ m,k=m+1:=⟨k-1,by omega⟩
  have hz:((m+1:Nat):Int)-1=(m:Int):=by omega
  have hge:(m:Int)≥0:=by omega
  obtain⟨x1,x2,x3⟩:=azQ hx (Om:m<nl (val xs))
  obtain⟨y1,y2,y3⟩:=azQ hy (Om:m<nl (val ys))
  simp only[go_sem,hz,hge]
  refine bK .nil dC PH.nil_le ?_
  simp only[go_sem,γ,reduceCtorEq,aWY,bN xs x1,bN ys y1]
  by_cases c3:xs[m]<ys[m]
  ·simp only[go_sem,ο,show ((xs[m]:Nat):Int)<(ys[m]:Nat) by omega,aWZ]
   refine aM (.inr rfl) Ev ?_
   have:=aaE LX x2 y2 hd (by rw[← x3,← y3]; exact c3)
   rw[ex,ey] at this
   simp[bH,cY,this]
  ·simp only[go_sem,show ¬ ((xs[m]:Nat):Int)<(ys[m]:Nat) by omega]
   refine bK .nil dC PH.nil_le ?_
   simp only[go_sem,γ,reduceCtorEq,aGV,bN xs x1,bN ys y1]
   by_cases c4:xs[m]>ys[m]
   ·simp only[go_sem,show ((xs[m]:Nat):Int)>(ys[m]:Nat) by omega,aGW]
    refine aM (.inr rfl) Ev ?_
    have:=aaE LY y2 x2 hd.symm (by rw[← x3,← y3]; exact c4)
    rw[ex,ey] at this
    have h2:¬ val xs<val ys:=by omega
    simp[bH,cY,this,h2]
   ·simp only[go_sem,γ,reduceCtorEq,show ¬ ((xs[m]:Nat):Int)>(ys[m]:Nat) by omega,aGX]
    refine aC m ⟨by omega,amM x2 y2 hd (by rw[← x3,← y3]; omega)⟩ Om ?_ PH.nil_le
    (repeat' (first|exact PF.nil_le|refine PF.aF ?_ ?_))<;>first|(simp only[go_sem,γ,reduceCtorEq,wrap_i64 (Om:-9223372036854775808≤(m:Int)-1) (Om:(m:Int)-1≤9223372036854775807)]<;>rfl)|rfl
 ·have:k=0:=by omega
  subst this
  have hz:¬ ((0:Nat):Int)-1≥0:=by decide
  simp only[go_sem,hz,aGY]
  refine aM (.inr rfl) Ev ?_
  rw[bJR,bJR] at hd
  have:val xs=val ys:=by rw[← ex,← ey,hd]
  simp[bH,cY,this]
def aGJ (k:Nat) (v:Nat):PF:=((PF.nil.set 4 (.int .i64 k)).set 5 (.int .u32 v))
theorem blX {C:Ctx} (xs:List Nat) (hx:Lim xs) (lx:xs.length≤35184372087808) (hlx:aH C 138 [aI xs] .nil (aD (.int .i64 (nl (val xs):Nat)))) :
  GW.wp C (aR axW.res (aD (.int .i64 (cC (val xs):Nat)))) (PF.args [aI xs]) .nil:=by
 simp only[go_sem,reduceCtorEq,GW,aGL,aGM,axW]
 refine aA hlx Ev ?_
 simp only[go_sem,γ,aGN]
 have bx:=eW hx
 by_cases c1:nl (val xs)=0
 ·simp only[go_sem,bO (show ((nl (val xs):Nat):Int)=0 by omega),aGO]
  refine aM (.inr rfl) Ev ?_
  have:val xs=0:=gJ.1 c1
  simp[bH,this,jC]
 obtain⟨n,hn⟩:∃ n,nl (val xs)=n+1:=⟨nl (val xs)-1,by omega⟩
 obtain⟨t,ht,ht0⟩:=aKX hx hn
 have htl:t<4294967296:=hx t (bKX ht)
 have hnl:n<xs.length:=by omega
 have hv:val xs=val (xs.take n)+4294967296 ^ n*t:=by
  have e:=jO hx
  have:=aQ (val xs)
  have hg:xs[n]=t:=by rw[bIZ hnl] at ht; exact bKT.inj ht
  rw[← e,hn,bKM hnl,hg,fL,bJF,bKJ Om] at this
  simp only[val,Nat.mul_zero,bKF] at this
  exact this.symm
 have hb:cC (val xs)=32*n+cC t:=by
  have h3:=eM (hx.take n)
  rw[bJF,bKJ Om] at h3
  rw[hv,show (4294967296:Nat) ^ n=2 ^ (32*n) by rw[Nat.pow_mul]] at *
  exact azR h3 ht0
 have bGV:(aK xs)[n]?=some [.int .u32 (t:Nat)]:=by
  rw[bN xs hnl]
  rw[bIZ hnl] at ht
  rw[bKT.inj ht]
 have e1:IntKind.i64.wrap (((nl (val xs):Nat):Int)-1)=(n:Int):=by rw[wrap_i64 Om Om]; omega
 have e2:IntKind.i64.wrap ((n:Int)*32)=((32*n:Nat):Int):=by rw[wrap_i64 Om Om]; omega
 simp only[go_sem,γ,reduceCtorEq,bF (show ((nl (val xs):Nat):Int)≠0 by omega),aGP,aGQ,e1,e2,bGV]
 refine wp_loop (α:=Nat × Nat) (fun a=>aGJ a.1 a.2) (fun _=>.nil) (fun a=>a.1+cC a.2=32*n+cC t∧a.2<4294967296) (fun a=>a.2) (32*n,t) ⟨rfl,htl⟩ ?_ PH.nil_le ?_
 ·unfold aGJ
  exact Lq
 rintro⟨k,v⟩ ⟨hk,hlt⟩
 simp only at hk hlt
 have hk32:cC t≤32:=(kZ t 32).2 htl
 simp only[go_sem,γ,aGK,aGR,aGJ]
 by_cases c2:(v:Int)>0
 ·have hv0:v≠0:=by omega
  have hsh:PV.bin .shr (.int .u32 (v:Int)) (.int .u64 1)=some (.int .u32 ((v/2:Nat):Int)):=by
   show shift .shr .u32 (v:Int) 1=_
   unfold shift
   rw[if_neg (by decide)]
   simp only
   have:min (Int.toNat 1) IntKind.u32.bits=1:=by decide
   rw[this,show (2:Int) ^ 1=2 by decide,Int.fdiv_eq_ediv_of_nonneg _ (by decide)]
   rfl
  have hsh':shift .shr .u32 (v:Int) 1=some (.int .u32 ((v/2:Nat):Int)):=hsh
  simp only[go_sem,γ,c2,aGS,aGT,hsh,hsh',ws k]
  refine aC (k+1,v/2) ⟨?_,?_⟩ (Nat.div_lt_self Om (by decide)) ?_ PH.nil_le
  ·have:=nZ hv0
   simp only; omega
  ·simp only; omega
  ·exact Lq
 ·have:v=0:=by omega
  subst this
  simp only[go_sem,γ,c2,aoZ]
  refine aM (.inr rfl) Ev ?_
  rw[jC] at hk
  simp only[bH,PV.int.injEq,true_and]
  omega
structure pQ (C:Ctx):Prop where
 length:∀ xs,Lim xs→xs.length≤35184372087808→aH C 138 [aI xs] .nil (aD (.int .i64 (nl (val xs):Nat)))
 large:∀ xs,Lim xs→xs.length≤35184372087808→aH C 137 [aI xs] .nil (aD (.bool (decide (nl (val xs)>512))))
 sized:∀ xs,Lim xs→xs.length≤35184372087808→aH C 141 [aI xs] .nil (aD (szV (val xs)))
 trim:∀ xs,Lim xs→xs.length≤35184372087808→aH C 135 [aI xs] .nil (aD (aI (aG (val xs))))
 make:∀ v:Nat,v<18446744073709551616→aH C 132 [.int .u64 v] .nil (aD (aI (aG v)))
 cmp:∀ xs ys,Lim xs→Lim ys→xs.length≤35184372087808→ys.length≤35184372087808→aH C 129 [aI xs,aI ys] .nil (aD (.int .i64 (cY (val xs) (val ys))))
def iD:PV→List Nat
 | .sl _ rows=>rows.map fun r=>match r with | [.int _ n]=>n.toNat | _=>0
 | _=>[]
theorem dU (xs:List Nat):iD (aI xs)=xs:=by
 simp[iD,List.map_map,Function.comp_def]
def a6S:Spec:=fun name vs=>match name,vs with
 | 138,[x]=>some ([],fun _=>aD (.int .i64 (nl (val (iD x)):Nat)))
 | _,_=>none
theorem nF (xs:List Nat):a6S 138 [aI xs]=some ([],fun _=>aD (.int .i64 (nl (val xs):Nat))):=by
 show some _=_; rw[dU]
theorem xE (P:List Nat) (k v:Nat):(P++bIP (k+1) 0).set P.length v=(P++[v])++bIP k 0:=by
 rw[bLM _ _ (bIU _),Nat.sub_self,List.replicate_succ,List.set_cons_zero,bJO]
 rfl
theorem eX (L:List Nat) (i v:Nat):(aK L).set i [.int .u32 (v:Int)]=aK (L.set i v):=by
 unfold aK; rw[List.map_set]
theorem iY (P:List Nat) (v:Nat):val (P++[v])=val P+4294967296 ^ P.length*v:=by
 rw[fL]; simp[val]
theorem bW (xs:List Nat) {i:Nat} (h:i<xs.length):val (xs.take (i+1))=val (xs.take i)+4294967296 ^ i*xs[i]:=by
 rw[bKM h,iY,bJF,bKJ Om]
theorem wD {v:Nat}:shift .shr .u64 (v:Int) 32=some (.int .u64 ((v/4294967296:Nat):Int)):=by
 unfold shift
 rw[if_neg (by decide)]
 simp only
 have:min (Int.toNat 32) IntKind.u64.bits=32:=by decide
 rw[this,show (2:Int) ^ 32=4294967296 by decide,Int.fdiv_eq_ediv_of_nonneg _ (by decide)]
 rfl
theorem eN {a b:Nat} (h:a+b<18446744073709551616):IntKind.u64.wrap ((a:Int)+(b:Int))=((a+b:Nat):Int):=by
 rw[wrap_u64 Om Om]; omega
theorem bE {a:Nat} (h:a<18446744073709551616):IntKind.u64.wrap (a:Int)=(a:Int):=wrap_u64 Om Om
def acV (a b:List Nat) (o i c:Nat):PF:=(((((((PF.nil.set 0 (aI a)).set 1 (aI b)).set 6 (.osl o 1 0 (a.length+1))).set 7 (.int .u64 c)).set 35 (.int .i64 (a.length:Nat))).set 34 (aI a)).set 36 (.int .i64 i))
theorem aoX {C:Ctx} (L:pQ C) (a b:List Nat) (ha:Lim a) (hb:Lim b) (hl:b.length≤a.length) (h1:a.length≤1000) (F:PF) (f0:F 0=some (aI a)) (f1:F 1=some (aI b)) :
  aB.wp C (.seq (.region akT) (.seq (.region akU) (.seq (.seq (.region akV) (.block 0 (.loop XA))) (.seq (.region XE) (.seq (.region XF) .ret))))) (aR [.tmp 4,.tmp 5] (bP (szV (val a+val b)))) F .nil:=by
 have hlen:IntKind.i64.wrap ((a.length:Int)+1)=((a.length+1:Nat):Int):=cS Om
 have hm1:((a.length+1:Nat):Int)*((4:Nat):Int)≤140737488355328:=by omega
 have hm2:((a.length+1:Nat):Int)≤9223372036854775807:=by omega
 have hz:bIP (a.length+1) [PV.int .u32 0]=aK ([]++bIP (a.length+1) 0):=by
  simp[aK]
 simp only[go_sem,γ,akT,f0,hlen,hm1,hm2,hz]
 refine aO fun o ho=>?_
 simp only[go_sem,γ,reduceCtorEq,akU,akV,f0]
 refine wp_loop (α:=List Nat × Nat × Nat) (fun s=>acV a b s.2.2 s.1.length s.2.1) (fun s=>PH.nil.set s.2.2 (.rows 1 (aK (s.1++bIP (a.length+1-s.1.length) 0))))
  (fun s=>s.1.length≤a.length∧Lim s.1∧s.2.1≤1∧val s.1+4294967296 ^ s.1.length*s.2.1=val (a.take s.1.length)+val (b.take s.1.length)) (fun s=>a.length-s.1.length) ([],0,o) ⟨by simp,by simp[Lim],by simp,by simp[val]⟩ ?_ ?_ ?_
 ·unfold acV
  exact Lq
 ·exact PH.aF PH.nil_le (by simp only[go_sem,bLA])
 rintro⟨P,c,q⟩ ⟨hP,bHF,hc,bHB⟩
 simp only at hP bHF hc bHB
 simp only[go_sem,γ,reduceCtorEq,XA,aWO,acV]
 by_cases c1:P.length<a.length
 ·have c1':(P.length:Int)<(a.length:Nat):=by omega
  have hai:=ha _ (bIS c1)
  obtain⟨k,hk⟩:∃ k,a.length+1-P.length=k+1:=⟨a.length-P.length,by omega⟩
  have hin:(aK (P++bIP (k+1) 0))[P.length]?=some [.int .u32 ((0:Nat):Int)]:=by
   rw[bN _ (by simp)]; simp
  have hlast:a.length+1-(P.length+1)=k:=by omega
  have c2':(P.length:Int)<((a.length+1:Nat):Int):=by omega
  have fin:∀ (t:Nat) (F':PF) (H':PH),t<2*4294967296→val P+4294967296 ^ P.length*t=val (a.take (P.length+1))+val (b.take (P.length+1)) →
    F' 0=some (aI a)→F' 1=some (aI b)→F' 6=some (.osl q 1 0 (a.length+1))→F' 7=some (.int .u64 (t:Nat))→F' 8=some (.int .i64 P.length)→F' 34=some (aI a)→F' 35=some (.int .i64 (a.length:Nat))→F' 36=some (.int .i64 P.length) →
    H' q=some (.rows 1 (aK (P++bIP (k+1) 0)))→∀ K:bX,(∀ P' c' F2 H2,P'.length=P.length+1→Lim P'→c'≤1→val P'+4294967296 ^ P'.length*c'=val (a.take (P.length+1))+val (b.take (P.length+1))→(acV a b q P'.length c').le F2→H2 q=some (.rows 1 (aK (P'++bIP k 0)))→K .normal F2 H2) →
    aB.wp C (.seq (.region XB) (.region XC)) (dJ 1 (hC C (aB.wp C (.region XD)) K)) F' H':=by
   intro t F' H' ht hv g0 g1 g6 g7 g8 g34 g35 g36 gH K hK
   have bGV:(aK (P++bIP (k+1) 0)).set P.length [.int .u32 ((t%4294967296:Nat):Int)]=aK ((P++[t%4294967296])++bIP k 0):=by
    rw[eX,xE]
   simp only[go_sem,γ,XB,g6,g8,g7,cA,c2',gH,hin,bGV,XC,wD,XD,g36,cS (Om:P.length<9223372036854775807)]
   refine hK (P++[t%4294967296]) (t/4294967296) _ _ (by simp) (bHF.app fun x hx=>by simp at hx; subst hx; exact bJX _ (by decide)) Om ?_ ?_ Sq
   ·rw[iY,bIQ,bIX,bKB,bJH,bKS,← bJA,Nat.mod_add_div]
    exact hv
   ·unfold acV
    rw[bIQ,bIX]
    refine PF.aF (PF.aF (PF.aF (PF.aF (PF.aF (PF.aF (PF.aF PF.nil_le ?_) ?_) ?_) ?_) ?_) ?_) ?_<;>simp only[go_sem,γ,reduceCtorEq,g0,g1,g6,g34,g35]
  have hta:=bW a c1
  have ea:IntKind.u64.wrap ((a[P.length]:Nat):Int)=((a[P.length]:Nat):Int):=bE Om
  have es:IntKind.u64.wrap ((c:Nat)+((a[P.length]:Nat):Int))=((c+a[P.length]:Nat):Int):=eN Om
  simp only[go_sem,γ,reduceCtorEq,c1',aGF,aGG,bN a c1,ea,es,aGH]
  by_cases c3:P.length<b.length
  ·have c3':(P.length:Int)<(b.length:Nat):=by omega
   have hbi:=hb _ (bIS c3)
   have htb:=bW b c3
   have eb:IntKind.u64.wrap ((b[P.length]:Nat):Int)=((b[P.length]:Nat):Int):=bE Om
   have es2:IntKind.u64.wrap (((c+a[P.length]:Nat):Int)+((b[P.length]:Nat):Int))=((c+a[P.length]+b[P.length]:Nat):Int):=eN Om
   simp only[go_sem,γ,reduceCtorEq,c3',aGI,bN b c3,eb,es2]
   refine fin (c+a[P.length]+b[P.length]) _ _ Om ?_ ?_ ?_ ?_ ?_ ?_ ?_ ?_ ?_ ?_ _ ?_
   ·rw[hta,htb,bJA,bJA]; omega
   any_goals simp only[go_sem,γ,reduceCtorEq,hk]
   intro P' c' F2 H2 e1 e2 e3 e4 e5 e6
   rw[← e1] at e4
   refine aC (P',c',q) ⟨by simp only; omega,e2,e3,e4⟩ (by simp only; omega) e5 (PH.aF PH.nil_le ?_)
   simp only
   rw[e1,hlast]; exact e6
  ·have c3':¬ (P.length:Int)<(b.length:Nat):=by omega
   have htb:val (b.take (P.length+1))=val (b.take P.length):=by rw[bJD Om,bJD Om]
   simp only[go_sem,c3']
   refine fin (c+a[P.length]) _ _ Om ?_ ?_ ?_ ?_ ?_ ?_ ?_ ?_ ?_ ?_ _ ?_
   ·rw[hta,htb,bJA]; omega
   any_goals simp only[go_sem,γ,reduceCtorEq,hk]
   intro P' c' F2 H2 e1 e2 e3 e4 e5 e6
   rw[← e1] at e4
   refine aC (P',c',q) ⟨by simp only; omega,e2,e3,e4⟩ (by simp only; omega) e5 (PH.aF PH.nil_le ?_)
   simp only
   rw[e1,hlast]; exact e6
 ·have e:P.length=a.length:=by omega
  have c1':¬ (P.length:Int)<(a.length:Nat):=by omega
  have hk:bIP (a.length+1-P.length) 0=[0]:=by rw[show a.length+1-P.length=1 by omega]; rfl
  have hin:(aK (P++[0]))[a.length]?=some [.int .u32 ((0:Nat):Int)]:=by
   rw[bN _ (by simp; omega)]
   simp[e]
  have bGV:(aK (P++[0])).set a.length [.int .u32 ((c%4294967296:Nat):Int)]=aK (P++[c]):=by
   have:=xE P 0 (c%4294967296)
   simp only[List.replicate_zero,bJZ,bJJ,List.replicate_one] at this
   rw[← e,eX,this,bJT Om]
  have c2':(a.length:Int)<((a.length+1:Nat):Int):=by omega
  have hV:val (P++[c])=val a+val b:=by
   rw[iY,bHB,e,bJN,bJD hl]
  have hLc:Lim (P++[c]):=bHF.app fun x hx=>by simp at hx; omega
  simp only[go_sem,γ,reduceCtorEq,c1',XE,cA,hk,hin,c2',bGV,XF]
  have hs:=L.sized _ hLc (by simp; omega)
  rw[hV] at hs
  refine pF (o:=q) (s:=1) (k:=a.length+1) (rs:=aK (P++[c])) (v:=szV (val a+val b)) ?_ rfl Sq (by rw[bT]; simp; omega) ?_
  ·rw[bJD (by rw[bT]; simp; omega)]; exact hs
  ·simp only[go_sem,γ,reduceCtorEq,szV]
   exact aV (.inr rfl) .nil rfl PH.nil_le ⟨.refl _,rfl⟩
def opV (big:Bool) (n:Nat):PV:=if big then .tup [aI [],.int .i64 2] else szV n
def dK (a b:Nat):Bool:=decide (nl a>512)||decide (nl b>512)
theorem eE {res:List dW} {F:PF} {H:PH} {e:Int} (h:dW.evs F H res=some [.bGI,.int .i64 e]):aR res (bP (.tup [aI [],.int .i64 e])) .ret F H:=by
 refine aV (.inr rfl) .nil h PH.nil_le ⟨?_,rfl⟩
 refine .tup rfl fun j p q hp hq=>?_
 match j with
 | 0=>simp at hp hq; subst hp; subst hq; exact .nil 1
 | 1=>simp at hp hq; subst hp; subst hq; exact .refl _
 | j+2=>simp at hp
theorem aZ (n:Nat):(aG n).length=nl n:=rfl
theorem iV {xs:List Nat} (h:Lim xs):(xs.map fun (n:Nat)=>[PV.int .u32 (n:Int)]).take (nl (val xs))=(aG (val xs)).map fun (n:Nat)=>[PV.int .u32 (n:Int)]:=by
 rw[← List.map_take,jO h]
theorem bsH {C:Ctx} (L:pQ C) (a b:List Nat) (ha:Lim a) (hb:Lim b) (la:a.length≤35184372087808) (lb:b.length≤35184372087808) :
  MV.wp C (aR a6R.res (bP (opV (dK (val a) (val b)) (val a+val b)))) (PF.args [aI a,aI b]) .nil:=by
 simp only[go_sem,reduceCtorEq,MV,aWJ,aWK,a6R]
 refine aA (L.large a ha la) rfl ?_
 by_cases c1:nl (val a)>512
 ·simp only[go_sem,γ,c1,akS]
  rw[show opV (dK (val a) (val b)) (val a+val b)=.tup [aI [],.int .i64 2] by simp[opV,dK,c1]]
  exact eE rfl
 simp only[go_sem,γ,c1]
 refine aA (L.large b hb lb) rfl ?_
 by_cases c2:nl (val b)>512
 ·simp only[go_sem,γ,reduceCtorEq,c2,akS]
  rw[show opV (dK (val a) (val b)) (val a+val b)=.tup [aI [],.int .i64 2] by simp[opV,dK,c2]]
  exact eE rfl
 have e:opV (dK (val a) (val b)) (val a+val b)=szV (val a+val b):=by simp[opV,dK,c1,c2]
 rw[e]
 simp only[go_sem,γ,reduceCtorEq,c2]
 refine bK .nil a6S PH.nil_le ?_
 simp only[go_sem,reduceCtorEq,aWL]
 have h1:=eW ha
 have h2:=eW hb
 have h1':((nl (val a):Nat):Int)≤(a.length:Nat):=by omega
 have h2':((nl (val b):Nat):Int)≤(b.length:Nat):=by omega
 refine bC (nF a) (L.length a ha la) rfl PH.nil_le ?_
 simp only[go_sem,ν,γ,reduceCtorEq,h1',or_true,bJR,iV ha]
 refine bC (nF b) (L.length b hb lb) rfl PH.nil_le ?_
 simp only[go_sem,ν,γ,reduceCtorEq,h2',or_true,bJR,iV hb,aWM,aZ]
 have va:=aQ (val a)
 have vb:=aQ (val b)
 by_cases c3:nl (val a)<nl (val b)
 ·have c3':((nl (val a):Nat):Int)<(nl (val b):Nat):=by omega
  simp only[go_sem,γ,reduceCtorEq,c3',aWN]
  have:=aoX L (aG (val b)) (aG (val a)) (aU _) (aU _) (by rw[aZ,aZ]; omega) (by rw[aZ]; omega)
  rw[va,vb,Nat.add_comm] at this
  exact this _ rfl rfl
 ·have c3':¬ ((nl (val a):Nat):Int)<(nl (val b):Nat):=by omega
  simp only[go_sem,c3']
  have:=aoX L (aG (val a)) (aG (val b)) (aU _) (aU _) (by rw[aZ,aZ]; omega) (by rw[aZ]; omega)
  rw[va,vb] at this
  exact this _ rfl rfl
theorem fG (n:Int):IntKind.u64.wrap n=n%18446744073709551616:=by simp[IntKind.wrap,IntKind.bits,IntKind.signed]
theorem UQ (n:Int):IntKind.u32.wrap n=n%4294967296:=by simp[IntKind.wrap,IntKind.bits,IntKind.signed]
theorem a8D {v:Int}:shift .shr .u64 v 63=some (.int .u64 (v/9223372036854775808)):=by
 unfold shift
 rw[if_neg (by decide)]
 simp only
 have:min (Int.toNat 63) IntKind.u64.bits=63:=by decide
 rw[this,show (2:Int) ^ 63=9223372036854775808 by decide,Int.fdiv_eq_ediv_of_nonneg _ (by decide)]
def OM (a bor b:Nat):Nat:=(a+4294967296-bor-b)%4294967296
def YP (a bor b:Nat):Nat:=if a<bor+b then 1 else 0
theorem aKH {a bor b:Nat} (ha:a<4294967296) (hb:b<4294967296) (hc:bor≤1) (v:Int) (hv:v=((a:Int)-bor-b)%18446744073709551616) :
  IntKind.u32.wrap v=((OM a bor b:Nat):Int)∧v/9223372036854775808=((YP a bor b:Nat):Int)∧a+4294967296*YP a bor b=OM a bor b+b+bor∧OM a bor b<4294967296:=by
 rw[UQ]
 unfold OM YP
 split<;>omega
def adL (a b:List Nat) (o i c:Nat):PF:=(((((((PF.nil.set 0 (aI a)).set 1 (aI b)).set 6 (.osl o 1 0 a.length)).set 7 (.int .u64 c)).set 33 (aI a)).set 34 (.int .i64 (a.length:Nat))).set 35 (.int .i64 i))
theorem bdS {C:Ctx} (L:pQ C) (a b:List Nat) (ha:Lim a) (hb:Lim b) (hle:val b≤val a) (hl:b.length≤a.length) (h1:a.length≤1000) (F:PF) (f0:F 0=some (aI a)) (f1:F 1=some (aI b)) :
  aB.wp C (.seq (.region alG) (.seq (.region alH) (.seq (.seq (.region alI) (.block 1 (.loop XK))) (.seq (.region XO) .ret)))) (aR [.tmp 4,.tmp 5] (bP (szV (val a-val b)))) F .nil:=by
 have hm1:((a.length:Nat):Int)*((4:Nat):Int)≤140737488355328:=by omega
 have hm2:((a.length:Nat):Int)≤9223372036854775807:=by omega
 have hz:bIP a.length [PV.int .u32 0]=aK ([]++bIP a.length 0):=by
  simp[aK]
 simp only[go_sem,γ,alG,f0,hm1,hm2,hz]
 refine aO fun o ho=>?_
 simp only[go_sem,γ,reduceCtorEq,alH,alI,f0]
 refine wp_loop (α:=List Nat × Nat × Nat) (fun s=>adL a b s.2.2 s.1.length s.2.1) (fun s=>PH.nil.set s.2.2 (.rows 1 (aK (s.1++bIP (a.length-s.1.length) 0))))
  (fun s=>s.1.length≤a.length∧Lim s.1∧s.2.1≤1∧val (a.take s.1.length)+4294967296 ^ s.1.length*s.2.1=val s.1+val (b.take s.1.length)) (fun s=>a.length-s.1.length) ([],0,o) ⟨by simp,by simp[Lim],by simp,by simp[val]⟩ ?_ ?_ ?_
 ·unfold adL
  exact Lq
 ·exact PH.aF PH.nil_le (by simp only[go_sem,bLA])
 rintro⟨P,c,q⟩ ⟨hP,bHF,hc,bHB⟩
 simp only at hP bHF hc bHB
 simp only[go_sem,γ,reduceCtorEq,XK,aXX,adL]
 by_cases c1:P.length<a.length
 ·have c1':(P.length:Int)<(a.length:Nat):=by omega
  have hai:=ha _ (bIS c1)
  obtain⟨k,hk⟩:∃ k,a.length-P.length=k+1:=⟨a.length-P.length-1,by omega⟩
  have hin:(aK (P++bIP (k+1) 0))[P.length]?=some [.int .u32 ((0:Nat):Int)]:=by
   rw[bN _ (by simp)]; simp
  have hlast:a.length-(P.length+1)=k:=by omega
  have hta:=bW a c1
  have fin:∀ (t:Nat) (v:Int) (F':PF) (H':PH),t<4294967296→v=((a[P.length]:Int)-c-t)%18446744073709551616→val (b.take (P.length+1))=val (b.take P.length)+4294967296 ^ P.length*t →
    F' 0=some (aI a)→F' 1=some (aI b)→F' 6=some (.osl q 1 0 a.length)→F' 9=some (.int .u64 v)→F' 8=some (.int .i64 P.length)→F' 33=some (aI a)→F' 34=some (.int .i64 (a.length:Nat))→F' 35=some (.int .i64 P.length) →
    H' q=some (.rows 1 (aK (P++bIP (k+1) 0)))→∀ K:bX,(∀ P' c' F2 H2,P'.length=P.length+1→Lim P'→c'≤1→val (a.take (P.length+1))+4294967296 ^ P'.length*c'=val P'+val (b.take (P.length+1))→(adL a b q P'.length c').le F2→H2 q=some (.rows 1 (aK (P'++bIP k 0)))→K .normal F2 H2) →
    aB.wp C (.seq (.region XL) (.region XM)) (dJ 2 (hC C (aB.wp C (.region XN)) K)) F' H':=by
   intro t v F' H' ht hv htb g0 g1 g6 g9 g8 g33 g34 g35 gH K hK
   obtain⟨e1,e2,e3,e4⟩:=aKH hai ht hc v hv
   have bGV:(aK (P++bIP (k+1) 0)).set P.length [.int .u32 ((OM a[P.length] c t:Nat):Int)]=aK ((P++[OM a[P.length] c t])++bIP k 0):=by
    rw[eX,xE]
   simp only[go_sem,γ,XL,g6,g8,g9,e1,c1',gH,hin,bGV,XM,a8D,e2,XN,g35,cS (Om:P.length<9223372036854775807)]
   refine hK (P++[OM a[P.length] c t]) (YP a[P.length] c t) _ _ (by simp) (bHF.app fun x hx=>by simp at hx; subst hx; exact e4) (by unfold YP; split<;>omega) ?_ ?_ Sq
   ·rw[iY,bIQ,bIX,bKB,bJH,hta,htb,bKS,← bJA,e3,bJA,bJA]
    omega
   ·unfold adL
    rw[bIQ,bIX]
    refine PF.aF (PF.aF (PF.aF (PF.aF (PF.aF (PF.aF (PF.aF PF.nil_le ?_) ?_) ?_) ?_) ?_) ?_) ?_<;>simp only[go_sem,γ,reduceCtorEq,g0,g1,g6,g33,g34]
  have ea:IntKind.u64.wrap ((a[P.length]:Nat):Int)=((a[P.length]:Nat):Int):=bE Om
  simp only[go_sem,γ,reduceCtorEq,c1',aHO,aHP,bN a c1,ea,aHQ]
  by_cases c3:P.length<b.length
  ·have c3':(P.length:Int)<(b.length:Nat):=by omega
   have hbi:=hb _ (bIS c3)
   have htb:=bW b c3
   have eb:IntKind.u64.wrap ((b[P.length]:Nat):Int)=((b[P.length]:Nat):Int):=bE Om
   simp only[go_sem,γ,reduceCtorEq,c3',aHR,bN b c3,eb]
   refine fin b[P.length] (IntKind.u64.wrap (IntKind.u64.wrap ((a[P.length]:Int)-(c:Int))-(b[P.length]:Int))) _ _ hbi (by rw[fG,fG]; omega) htb ?_ ?_ ?_ ?_ ?_ ?_ ?_ ?_ ?_ _ ?_
   any_goals simp only[go_sem,γ,reduceCtorEq,hk]
   intro P' c' F2 H2 e1 e2 e3 e4 e5 e6
   rw[← e1] at e4
   refine aC (P',c',q) ⟨by simp only; omega,e2,e3,e4⟩ (by simp only; omega) e5 (PH.aF PH.nil_le ?_)
   simp only
   rw[e1,hlast]; exact e6
  ·have c3':¬ (P.length:Int)<(b.length:Nat):=by omega
   have htb:val (b.take (P.length+1))=val (b.take P.length)+4294967296 ^ P.length*0:=by rw[bJD Om,bJD Om]; simp
   simp only[go_sem,c3']
   refine fin 0 (IntKind.u64.wrap ((a[P.length]:Int)-(c:Int))) _ _ (by decide) (by rw[fG]; omega) htb ?_ ?_ ?_ ?_ ?_ ?_ ?_ ?_ ?_ _ ?_
   any_goals simp only[go_sem,γ,reduceCtorEq,hk]
   intro P' c' F2 H2 e1 e2 e3 e4 e5 e6
   rw[← e1] at e4
   refine aC (P',c',q) ⟨by simp only; omega,e2,e3,e4⟩ (by simp only; omega) e5 (PH.aF PH.nil_le ?_)
   simp only
   rw[e1,hlast]; exact e6
 ·have e:P.length=a.length:=by omega
  have c1':¬ (P.length:Int)<(a.length:Nat):=by omega
  have hk:bIP (a.length-P.length) 0=[]:=by rw[show a.length-P.length=0 by omega]; rfl
  have hV:val P=val a-val b:=by
   rw[e,bJN,bJD hl] at bHB
   have hlt:=eM bHF
   rw[e] at hlt
   rcases bKN c with h | h
   ·subst h; omega
   ·have:c=1:=by omega
    subst this; omega
  simp only[go_sem,γ,reduceCtorEq,c1',hk,bJZ,XO]
  have hs:=L.sized _ bHF Om
  rw[hV] at hs
  refine pF (o:=q) (s:=1) (k:=a.length) (rs:=aK P) (v:=szV (val a-val b)) ?_ rfl Sq (by rw[bT]; omega) ?_
  ·rw[bJD (by rw[bT]; omega)]; exact hs
  ·simp only[go_sem,γ,reduceCtorEq,szV]
   exact aV (.inr rfl) .nil rfl PH.nil_le ⟨.refl _,rfl⟩
def qH (a b:Nat):PV:=if dK a b then .tup [aI [],.int .i64 2] else if a<b then .tup [aI [],.int .i64 4] else szV (a-b)
theorem bsS {C:Ctx} (L:pQ C) (a b:List Nat) (ha:Lim a) (hb:Lim b) (la:a.length≤35184372087808) (lb:b.length≤35184372087808) :
  NE.wp C (aR a7K.res (bP (qH (val a) (val b)))) (PF.args [aI a,aI b]) .nil:=by
 simp only[go_sem,reduceCtorEq,NE,aXS,aXT,a7K]
 refine aA (L.large a ha la) rfl ?_
 by_cases c1:nl (val a)>512
 ·simp only[go_sem,γ,c1,alF]
  rw[show qH (val a) (val b)=.tup [aI [],.int .i64 2] by simp[qH,dK,c1]]
  exact eE rfl
 simp only[go_sem,γ,c1]
 refine aA (L.large b hb lb) rfl ?_
 by_cases c2:nl (val b)>512
 ·simp only[go_sem,γ,reduceCtorEq,c2,alF]
  rw[show qH (val a) (val b)=.tup [aI [],.int .i64 2] by simp[qH,dK,c2]]
  exact eE rfl
 simp only[go_sem,γ,reduceCtorEq,c2,aXU]
 refine aA (L.cmp a b ha hb la lb) rfl ?_
 by_cases c3:val a<val b
 ·have hc:cY (val a) (val b)<0:=by simp[cY,c3]
  simp only[go_sem,γ,hc,aXV]
  rw[show qH (val a) (val b)=.tup [aI [],.int .i64 4] by simp[qH,dK,c1,c2,c3]]
  exact eE rfl
 have hc:¬ cY (val a) (val b)<0:=by
  unfold cY
  rw[if_neg c3]
  split<;>decide
 rw[show qH (val a) (val b)=szV (val a-val b) by simp[qH,dK,c1,c2,c3]]
 simp only[go_sem,γ,hc]
 refine bK .nil a6S PH.nil_le ?_
 simp only[go_sem,reduceCtorEq,aXW]
 have h1:=eW ha
 have h2:=eW hb
 have h1':((nl (val a):Nat):Int)≤(a.length:Nat):=by omega
 have h2':((nl (val b):Nat):Int)≤(b.length:Nat):=by omega
 refine bC (nF a) (L.length a ha la) rfl PH.nil_le ?_
 simp only[go_sem,ν,γ,reduceCtorEq,h1',or_true,bJR,iV ha]
 refine bC (nF b) (L.length b hb lb) rfl PH.nil_le ?_
 simp only[go_sem,ν,γ,reduceCtorEq,h2',or_true,bJR,iV hb]
 have va:=aQ (val a)
 have vb:=aQ (val b)
 have hm:=fF (Om:val b≤val a)
 have:=bdS L (aG (val a)) (aG (val b)) (aU _) (aU _) Om (by rw[aZ,aZ]; omega) (by rw[aZ]; omega)
 rw[va,vb] at this
 exact this _ rfl rfl
end Go.PM
namespace Go.Na
def dE:Nat→Nat→List Nat
 | 0,_=>[]
 | k+1,n=>(n%4294967296)::dE k (n/4294967296)
theorem kI:∀ k n,(dE k n).length=k
 | 0,_=>rfl
 | k+1,n=>by simp[dE,kI k]
theorem EP {xs:List Nat} (h:Lim xs):dE xs.length (val xs)=xs:=by
 induction xs with
 | nil=>rfl
 | cons x xs ih =>
  have hx:=h x (by simp)
  have e1:(x+4294967296*val xs)%4294967296=x:=by omega
  have e2:(x+4294967296*val xs)/4294967296=val xs:=by omega
  simp only[bLG,dE,val]
  rw[e1,e2,ih fun y hy=>h y (by simp[hy])]
theorem lL:∀ k n,Lim (dE k n)
 | 0,_=>fun x hx=>by cases hx
 | k+1,n=>fun x hx=>by
  simp only[dE,bJB] at hx
  rcases hx with rfl | hx
  ·exact bJX _ (by decide)
  ·exact lL k _ x hx
theorem yP:∀ k n,val (dE k n)=n%4294967296 ^ k
 | 0,n=>by simp[dE,val,Nat.mod_one]
 | k+1,n=>by
  simp only[dE,val,yP k]
  rw[bKB,bJM (4294967296 ^ k) 4294967296,Nat.mod_mul]
theorem nI {k n:Nat} (h:n<4294967296 ^ k):val (dE k n)=n:=by rw[yP,bJT h]
end Go.Na
namespace Go.PM
open Go Go.Na
theorem byK {a b:Nat} (ha:a<18446744073709551616) (hb:b<18446744073709551616):(BitVec.ofInt 64 (a:Int) ||| BitVec.ofInt 64 (b:Int)).toNat=a ||| b:=by
 rw[BitVec.ofInt_natCast,BitVec.ofInt_natCast,BitVec.toNat_or,BitVec.toNat_ofNat,BitVec.toNat_ofNat,bJT (by simpa using ha),bJT (by simpa using hb)]
theorem aIC {c x s:Nat} (hc:c<2 ^ s) (h:c+2 ^ s*x<18446744073709551616):c ||| (2 ^ s*x)=c+2 ^ s*x:=by
 rw[Nat.or_comm,← Nat.two_pow_add_eq_or_of_lt hc,Nat.add_comm]
theorem orI {a b n:Nat} (ha:a<18446744073709551616) (hb:b<18446744073709551616) (h:a ||| b=n) (hn:n<18446744073709551616):kG .or .u64 (a:Int) (b:Int)=some (.int .u64 (n:Int)):=by
 show some (PV.int .u64 (IntKind.u64.wrap (((BitVec.ofInt 64 (a:Int) ||| BitVec.ofInt 64 (b:Int)).toNat:Nat):Int)))=_
 rw[byK ha hb,h,bE hn]
theorem HV {x s:Nat} (hs:s≤64) (h:x*2 ^ s<18446744073709551616):shift .shl .u64 (x:Int) (s:Int)=some (.int .u64 ((2 ^ s*x:Nat):Int)):=by
 unfold shift
 rw[if_neg Om]
 simp only
 have:min (Int.toNat (s:Int)) IntKind.u64.bits=s:=by
  rw[show IntKind.u64.bits=64 from rfl]; omega
 rw[this,show (x:Int)*2 ^ s=((x*2 ^ s:Nat):Int) by simp,bE h,bJM]
def bmE (a:List Nat) (s o i c:Nat):PF:=(((((((PF.nil.set 0 (aI a)).set 1 (.int .u64 s)).set 5 (.osl o 1 0 (a.length+1))).set 6 (.int .u64 c)).set 13 (aI a)).set 14 (.int .i64 (a.length:Nat))).set 15 (.int .i64 i))
def upR (a:List Nat) (s:Nat) (r:PV) (H:PH):Prop:=∃ o,r=.osl o 1 0 (a.length+1)∧H=PH.nil.set o (.rows 1 (aK (dE (a.length+1) (val a*2 ^ s))))
theorem bwB {C:Ctx} (a:List Nat) (s:Nat) (ha:Lim a) (hs:s<32) (h1:a.length≤1000):XP.wp C (aR nup.res (upR a s)) (PF.args [aI a,.int .u64 s]) .nil:=by
 have hlen:IntKind.i64.wrap ((a.length:Int)+1)=((a.length+1:Nat):Int):=cS Om
 have hm1:((a.length+1:Nat):Int)*((4:Nat):Int)≤140737488355328:=by omega
 have hm2:((a.length+1:Nat):Int)≤9223372036854775807:=by omega
 have hz:bIP (a.length+1) [PV.int .u32 0]=aK ([]++bIP (a.length+1) 0):=by
  simp[aK]
 have h2s:2 ^ s≤2147483648:=Nat.pow_le_pow_right (show 0<2 by decide) (Om:s≤31)
 have h2s0:0<2 ^ s:=bKY (by decide)
 simp only[go_sem,γ,reduceCtorEq,XP,bdT,bdU,nup,hlen,hm1,hm2,hz]
 refine aO fun o ho=>?_
 simp only[go_sem,γ,reduceCtorEq,bdV,bdW]
 refine wp_loop (α:=List Nat × Nat × Nat) (fun t=>bmE a s t.2.2 t.1.length t.2.1) (fun t=>PH.nil.set t.2.2 (.rows 1 (aK (t.1++bIP (a.length+1-t.1.length) 0))))
  (fun t=>t.1.length≤a.length∧Lim t.1∧t.2.1<2 ^ s∧val t.1+4294967296 ^ t.1.length*t.2.1=val (a.take t.1.length)*2 ^ s) (fun t=>a.length-t.1.length) ([],0,o) ⟨by simp,by simp[Lim],h2s0,by simp[val]⟩ ?_ ?_ ?_
 ·unfold bmE
  exact Lq
 ·exact PH.aF PH.nil_le (by simp only[go_sem,bLA])
 rintro⟨P,c,q⟩ ⟨hP,bHF,hc,bHB⟩
 simp only at hP bHF hc bHB
 simp only[go_sem,γ,reduceCtorEq,aXY,bdX,bmE]
 by_cases c1:P.length<a.length
 ·have c1':(P.length:Int)<(a.length:Nat):=by omega
  have hai:=ha _ (bIS c1)
  obtain⟨k,hk⟩:∃ k,a.length+1-P.length=k+1:=⟨a.length-P.length,by omega⟩
  have hin:(aK (P++bIP (k+1) 0))[P.length]?=some [.int .u32 ((0:Nat):Int)]:=by
   rw[bN _ (by simp)]; simp
  have hlast:a.length+1-(P.length+1)=k:=by omega
  have c2':(P.length:Int)<((a.length+1:Nat):Int):=by omega
  have hta:=bW a c1
  generalize hx:a[P.length]=x at *
  have hxs:x*2 ^ s≤4294967295*2147483648:=Nat.mul_le_mul Om h2s
  have ex:IntKind.u64.wrap ((x:Nat):Int)=((x:Nat):Int):=bE Om
  have hxs':2 ^ s*x=x*2 ^ s:=bJM _ _
  have esh:shift .shl .u64 (x:Int) (s:Int)=some (.int .u64 ((2 ^ s*x:Nat):Int)):=HV Om Om
  have eor:=orI (a:=c) (b:=2 ^ s*x) (n:=c+2 ^ s*x) Om Om (aIC hc Om) Om
  have hdig:(c+2 ^ s*x)/4294967296<2 ^ s:=by
   rw[bLC (by decide)]
   have:2 ^ s*(x+1)≤2 ^ s*4294967296:=bKO _ Om
   rw[bJA,Nat.mul_one] at this
   omega
  have bGV:(aK (P++bIP (k+1) 0)).set P.length [.int .u32 (((c+2 ^ s*x)%4294967296:Nat):Int)]=aK ((P++[(c+2 ^ s*x)%4294967296])++bIP k 0):=by
   rw[eX,xE]
  have hax:(aK a)[P.length]?=some [.int .u32 ((x:Nat):Int)]:=by rw[bN a c1,hx]
  simp only[go_sem,γ,reduceCtorEq,c1',bdY,bdZ,hax,ex,esh,eor,beA,cA,hk,c2',hin,bGV,beB,wD,beC,cS (Om:P.length<9223372036854775807)]
  refine aC (P++[(c+2 ^ s*x)%4294967296],(c+2 ^ s*x)/4294967296,q) ⟨by simp; omega,bHF.app fun y hy=>by simp at hy; subst hy; exact bJX _ (by decide),hdig,?_⟩ (by simp; omega) ?_ (PH.aF PH.nil_le ?_)
  ·simp only
   rw[iY,bIQ,bIX,bKB,bJH,bKS,← bJA,Nat.mod_add_div,hta,bJA,bJP,← bKS,bHB,hxs',bJH]
  ·simp only
   rw[bIQ,bIX]
   exact Lq
  ·simp only
   rw[bIQ,bIX,hlast]
   simp only[go_sem]
 ·have e:P.length=a.length:=by omega
  have c1':¬ (P.length:Int)<(a.length:Nat):=by omega
  have hk:bIP (a.length+1-P.length) 0=[0]:=by rw[show a.length+1-P.length=1 by omega]; rfl
  have hin:(aK (P++[0]))[a.length]?=some [.int .u32 ((0:Nat):Int)]:=by
   rw[bN _ (by simp; omega)]
   simp[e]
  have bGV:(aK (P++[0])).set a.length [.int .u32 ((c%4294967296:Nat):Int)]=aK (P++[c]):=by
   have:=xE P 0 (c%4294967296)
   simp only[List.replicate_zero,bJZ,bJJ,List.replicate_one] at this
   rw[← e,eX,this,bJT Om]
  have c2':(a.length:Int)<((a.length+1:Nat):Int):=by omega
  have hV:val (P++[c])=val a*2 ^ s:=by
   rw[iY,bHB,e,bJN]
  have hLc:Lim (P++[c]):=bHF.app fun x hx=>by simp at hx; omega
  have hD:dE (a.length+1) (val a*2 ^ s)=P++[c]:=by
   have:=EP hLc
   rw[hV,bIQ,bIX,e] at this
   exact this
  simp only[go_sem,γ,reduceCtorEq,c1',aXZ,cA,hk,hin,c2',bGV,aYA]
  exact aV (vs:=[.osl q 1 0 (a.length+1)]) (.inr rfl) (PH.nil.set q (.rows 1 (aK (P++[c])))) Ev (PH.aF PH.nil_le Sq) ⟨q,rfl,by rw[hD]⟩
def alE (a:List Nat) (d o k r:Nat):PF:=(((((PF.nil.set 0 (aI a)).set 1 (.int .u32 d)).set 6 (.osl o 1 0 a.length)).set 7 (.int .u64 r)).set 8 (.int .i64 ((k:Int)-1)))
theorem bdO {C:Ctx} (L:pQ C) (a:List Nat) (d:Nat) (ha:Lim a) (hd0:0<d) (hd:d<4294967296) (h1:a.length≤1000) :
  BO.wp C (aR adI.res (aD (.tup [aI (aG (val a/d)),.int .u32 ((val a%d:Nat):Int)]))) (PF.args [aI a,.int .u32 d]) .nil:=by
 have hm1:((a.length:Nat):Int)*((4:Nat):Int)≤140737488355328:=by omega
 have hm2:((a.length:Nat):Int)≤9223372036854775807:=by omega
 have hz:bIP a.length [PV.int .u32 0]=aK (bIP a.length 0++[]):=by
  simp[aK]
 simp only[go_sem,γ,reduceCtorEq,BO,apE,apF,adI,hm1,hm2,hz]
 refine aO fun o ho=>?_
 simp only[go_sem,γ,reduceCtorEq,apG,apH]
 refine wp_loop (α:=Nat × List Nat × Nat × Nat) (fun t=>alE a d t.2.2.2 t.1 t.2.2.1) (fun t=>PH.nil.set t.2.2.2 (.rows 1 (aK (bIP t.1 0++t.2.1))))
  (fun t=>t.1+t.2.1.length=a.length∧Lim t.2.1∧t.2.2.1<d∧val t.2.1*d+t.2.2.1=val (a.drop t.1)) (fun t=>t.1) (a.length,[],0,o) ⟨by simp,by simp[Lim],hd0,by simp[val]⟩ ?_ ?_ ?_
 ·unfold alE
  (repeat' (first|exact PF.nil_le|refine PF.aF ?_ ?_))<;>first|(simp only[go_sem,γ,reduceCtorEq,wrap_i64 (Om:-9223372036854775808≤((a.length:Nat):Int)-1) (Om:((a.length:Nat):Int)-1≤9223372036854775807)]<;>rfl)|rfl
 ·exact PH.aF PH.nil_le Sq
 rintro⟨k,S,r,q⟩ ⟨hk,bHF,hr,bHB⟩
 simp only at hk bHF hr bHB
 simp only[go_sem,γ,reduceCtorEq,apD,apI,alE]
 by_cases h0:0<k
 ·obtain⟨m,rfl⟩:∃ m,k=m+1:=⟨k-1,by omega⟩
  have hzz:((m+1:Nat):Int)-1=(m:Int):=by omega
  have hge:(m:Int)≥0:=by omega
  have hml:m<a.length:=by omega
  have hlt:(m:Int)<(a.length:Nat):=by omega
  have hai:=ha _ (bIS hml)
  have hdrop:val (a.drop m)=a[m]+4294967296*val (a.drop (m+1)):=by rw[bKE hml]; rfl
  generalize hx:a[m]=x at *
  have hax:(aK a)[m]?=some [.int .u32 ((x:Nat):Int)]:=by rw[bN a hml,hx]
  have ex:IntKind.u64.wrap ((x:Nat):Int)=((x:Nat):Int):=bE Om
  have ed:IntKind.u64.wrap ((d:Nat):Int)=((d:Nat):Int):=bE Om
  have esh:shift .shl .u64 (r:Int) 32=some (.int .u64 ((2 ^ 32*r:Nat):Int)):=HV (s:=32) Om Om
  have e32:(2:Nat) ^ 32=4294967296:=by decide
  have eor:=orI (a:=2 ^ 32*r) (b:=x) (n:=2 ^ 32*r+x) Om Om (Nat.two_pow_add_eq_or_of_lt Om r).symm Om
  rw[e32] at esh eor
  have hq:(4294967296*r+x)/d<4294967296:=by
   rw[bLC hd0]
   have:4294967296*(r+1)≤4294967296*d:=bKO _ hr
   omega
  have hdd:¬ ((d:Nat):Int)=0:=by omega
  have equo:IntKind.u64.wrap (Int.tdiv ((4294967296*r+x:Nat):Int) ((d:Nat):Int))=(((4294967296*r+x)/d:Nat):Int):=by
   rw[show Int.tdiv ((4294967296*r+x:Nat):Int) ((d:Nat):Int)=(((4294967296*r+x)/d:Nat):Int) from rfl]
   exact bE Om
  have erem:Int.tmod ((4294967296*r+x:Nat):Int) ((d:Nat):Int)=(((4294967296*r+x)%d:Nat):Int):=rfl
  have ec:IntKind.u32.wrap (((4294967296*r+x)/d:Nat):Int)=(((4294967296*r+x)/d:Nat):Int):=by rw[cA,bJT hq]
  have bIH:bIP (m+1) 0++S=bIP m 0++(0::S):=by
   rw[List.replicate_succ',bJO]; rfl
  have hin:(aK (bIP m 0++(0::S)))[m]?=some [.int .u32 ((0:Nat):Int)]:=by
   rw[bN _ (by simp)]; simp
  have bGV:(aK (bIP m 0++(0::S))).set m [.int .u32 (((4294967296*r+x)/d:Nat):Int)]=aK (bIP m 0++(((4294967296*r+x)/d)::S)):=by
   rw[eX,bLM _ _ (by simp)]; simp
  simp only[go_sem,γ,reduceCtorEq,hzz,hge,apJ,esh,hax,ex,eor,apK,ed,hdd,equo,ec,hlt,bIH,hin,bGV,apL,erem,apM]
  refine aC (m,((4294967296*r+x)/d)::S,(4294967296*r+x)%d,q) ⟨by simp only[bLG]; omega,fun y hy=>?_,bJX _ hd0,?_⟩ (by simp only; omega) ?_ (PH.aF PH.nil_le Sq)
  ·rw[bJB] at hy
   rcases hy with rfl | hy
   ·exact hq
   ·exact bHF y hy
  ·simp only[val]
   rw[hdrop,← bHB,bJP,bJA,bJH]
   have:=bLN (4294967296*r+x) d
   rw[bJM d] at this
   omega
  ·(repeat' (first|exact PF.nil_le|refine PF.aF ?_ ?_))<;>first|(simp only[go_sem,γ,reduceCtorEq,wrap_i64 (Om:-9223372036854775808≤(m:Int)-1) (Om:(m:Int)-1≤9223372036854775807)]<;>rfl)|rfl
 ·have:k=0:=by omega
  subst this
  have hzz:¬ ((0:Nat):Int)-1≥0:=by decide
  rw[bJR] at bHB
  have hS:S.length=a.length:=by omega
  have hq:val S=val a/d:=by
   rw[← bHB,bJM,Nat.mul_add_div hd0,bLO hr,bKF]
  have hrm:r=val a%d:=by rw[← bHB,bJM,Nat.mul_add_mod,bJT hr]
  have hn0:bIP 0 0++S=S:=by simp
  simp only[go_sem,υ,γ,reduceCtorEq,hzz,adJ,List.nil_append]
  have hl:=L.length S bHF Om
  have hnl:=eW bHF
  have hc:((nl (val S):Nat):Int)≤(S.length:Nat):=by omega
  refine pF (o:=q) (s:=1) (k:=a.length) (rs:=aK S) (v:=.int .i64 (nl (val S):Nat)) ?_ Sq Sq (by rw[bT]; omega) ?_
  ·rw[bJD (by rw[bT]; omega)]; exact hl
  ·have hfz:PV.frz q 1 (aK S) (.osl q 1 0 a.length)=aI S:=by
    have:0+a.length≤(aK S).length:=by rw[bT]; omega
    simp only[PV.frz,PV.rK,PV.dP,if_true,true_and,if_pos this,bJR]
    rw[bJD (by rw[bT]; omega)]
   have hfi:∀ n:Int,∀ k,PV.frz q 1 (aK S) (.int k n)=.int k n:=fun _ _=>rfl
   have er:IntKind.u32.wrap ((r:Nat):Int)=((r:Nat):Int):=by rw[cA,bJT Om]
   simp only[go_sem,ν,γ,reduceCtorEq,hfz,hfi,hc,or_true,bJR,iV bHF,er]
   refine aV (vs:=[aI (aG (val S)),.int .u32 ((r:Nat):Int)]) (.inr rfl) .nil Ev PH.nil_le ⟨?_,rfl⟩
   simp only[bH,← hq,← hrm]
end Go.PM
namespace Go.Na
theorem EG {L:List Nat} {i:Nat} (h:i<L.length) (v:Nat):val (L.set i v)+4294967296 ^ i*L[i]=val L+4294967296 ^ i*v:=by
 have h':i<(L.set i v).length:=by rw[bKU]; exact h
 rw[qV L h,qV (L.set i v) h',List.getElem_set_self,List.take_set_of_le (bIU _),List.drop_set_of_lt Om,bJA,bJA]
 omega
theorem ahV {L:List Nat} {i:Nat} (h:∀ (j x:Nat),i≤j→L[j]?=some x→x=0) (k v:Nat) (hk:k<i):∀ (j x:Nat),i≤j→(L.set k v)[j]?=some x→x=0:=fun j x hj hx=>by
 rw[List.getElem?_set_ne Om] at hx
 exact h j x hj hx
end Go.Na
namespace Go.PM
open Go Go.Na
def jW (a b:List Nat) (o i:Nat):PF:=((((((PF.nil.set 0 (aI a)).set 1 (aI b)).set 6 (.osl o 1 0 (a.length+b.length))).set 32 (aI a)).set 33 (.int .i64 (a.length:Nat))).set 34 (.int .i64 i))
def a7H (a b:List Nat) (o i x c j:Nat):PF:=((((((((((((PF.nil.set 0 (aI a)).set 1 (aI b)).set 6 (.osl o 1 0 (a.length+b.length))).set 32 (aI a)).set 33 (.int .i64 (a.length:Nat))).set 34 (.int .i64 i)).set 7 (.int .i64 i)).set 8 (.int .u32 x)).set 9 (.int .u64 c)).set 39 (aI b)).set 40 (.int .i64 (b.length:Nat))).set 41 (.int .i64 j))
structure DJ (a b L:List Nat) (i:Nat):Prop where
 len:L.length=a.length+b.length
 lim:Lim L
 v:val L=val (a.take i)*val b
 z:∀ j x,i+b.length≤j→L[j]?=some x→x=0
theorem aWI {x y:Nat} (hx:x<4294967296) (hy:y<4294967296):IntKind.u64.wrap ((x:Int)*(y:Int))=((x*y:Nat):Int):=by
 have:x*y≤4294967295*4294967295:=Nat.mul_le_mul Om Om
 rw[show (x:Int)*(y:Int)=((x*y:Nat):Int) by simp]
 exact bE Om
theorem fS {a b:Nat} (h:a+b≤9223372036854775807):IntKind.i64.wrap ((a:Int)+(b:Int))=((a+b:Nat):Int):=by
 rw[wrap_i64 Om Om]; omega
theorem bmB {C:Ctx} (a b:List Nat) (ha:Lim a) (hb:Lim b) (h1:a.length≤1000) (h2:b.length≤1000) (L:List Nat) (i:Nat) (hi:i<a.length) (hI:DJ a b L i) (q:Nat) (K:bX) (F:PF) (H:PH) (hF:(jW a b q i).le F) (hH:H q=some (.rows 1 (aK L)))
  (hK:∀ L' F' H',DJ a b L' (i+1)→(jW a b q i).le F'→H' q=some (.rows 1 (aK L'))→K .normal F' H') :
  aB.wp C (.block 1 (.seq (.region alB) (.seq (.region alC) (.seq (.seq (.region alD) (.block 2 (.loop XG))) (.region XI))))) K F H:=by
 have f0:=hF 0 _ (by unfold jW; simp only[go_sem,reduceCtorEq]; rfl)
 have f1:=hF 1 _ (by unfold jW; simp only[go_sem,γ,reduceCtorEq]; rfl)
 have f6:=hF 6 _ (by unfold jW; simp only[go_sem,γ,reduceCtorEq]; rfl)
 have f32:=hF 32 _ (by unfold jW; simp only[go_sem,γ,reduceCtorEq]; rfl)
 have f33:=hF 33 _ (by unfold jW; simp only[go_sem,γ,reduceCtorEq]; rfl)
 have f34:=hF 34 _ (by unfold jW; simp only[go_sem,γ,reduceCtorEq]; rfl)
 have hx:=ha _ (bIS hi)
 have hta:=bW a hi
 generalize hxe:a[i]=x at *
 have hax:(aK a)[i]?=some [.int .u32 ((x:Nat):Int)]:=by rw[bN a hi,hxe]
 simp only[go_sem,γ,alB,alC,alD,f32,f34,f1,hax]
 refine wp_loop (α:=List Nat × Nat × Nat) (fun t=>a7H a b q i x t.2.1 t.2.2) (fun t=>PH.nil.set q (.rows 1 (aK t.1)))
  (fun t=>t.2.2≤b.length∧t.1.length=a.length+b.length∧Lim t.1∧t.2.1<4294967296∧val t.1+4294967296 ^ (i+t.2.2)*t.2.1=val (a.take i)*val b+4294967296 ^ i*(x*val (b.take t.2.2))∧∀ j y,i+b.length≤j→t.1[j]?=some y→y=0) (fun t=>b.length-t.2.2) (L,0,0)
  ⟨by simp,hI.len,hI.lim,by simp,by simp[val,hI.v],hI.z⟩ ?_ (PH.aF PH.nil_le hH) ?_
 ·unfold a7H
  exact Lq
 rintro⟨M,c,j⟩ ⟨hj,hM,bHF,hc,bHB,hz⟩
 simp only at hj hM bHF hc bHB hz
 simp only[go_sem,γ,reduceCtorEq,XG,aHG,a7H]
 by_cases c1:j<b.length
 ·have c1':(j:Int)<(b.length:Nat):=by omega
  have hy:=hb _ (bIS c1)
  have htb:=bW b c1
  generalize hye:b[j]=y at *
  have hby:(aK b)[j]?=some [.int .u32 ((y:Nat):Int)]:=by rw[bN b c1,hye]
  have hij:i+j<M.length:=by omega
  have hz0:=bHF _ (bIS hij)
  have bIF:=EG hij
  generalize hze:M[i+j]=z at *
  have hMz:(aK M)[i+j]?=some [.int .u32 ((z:Nat):Int)]:=by rw[bN M hij,hze]
  have ex:IntKind.u64.wrap ((x:Nat):Int)=((x:Nat):Int):=bE Om
  have ey:IntKind.u64.wrap ((y:Nat):Int)=((y:Nat):Int):=bE Om
  have ez:IntKind.u64.wrap ((z:Nat):Int)=((z:Nat):Int):=bE Om
  have em:=aWI hx hy
  have hxy:x*y≤4294967295*4294967295:=Nat.mul_le_mul Om Om
  have e1:IntKind.u64.wrap (((x*y:Nat):Int)+(z:Int))=((x*y+z:Nat):Int):=eN Om
  have e2:IntKind.u64.wrap ((c:Int)+((x*y+z:Nat):Int))=((c+(x*y+z):Nat):Int):=eN Om
  have eij:IntKind.i64.wrap ((i:Int)+(j:Int))=((i+j:Nat):Int):=fS Om
  have hlt:((i+j:Nat):Int)<((a.length+b.length:Nat):Int):=by omega
  generalize ht:c+(x*y+z)=t at *
  have htt:t<4294967296*4294967296:=by omega
  have bGV:(aK M).set (i+j) [.int .u32 ((t%4294967296:Nat):Int)]=aK (M.set (i+j) (t%4294967296)):=eX M (i+j) _
  simp only[go_sem,γ,reduceCtorEq,c1',aHH,hby,aHI,ex,ey,em,eij,hlt,hMz,ez,e1,e2,aHJ,cA,bGV,aHK,wD,aHL,ws j]
  refine aC (M.set (i+j) (t%4294967296),t/4294967296,j+1) ⟨by simp only; omega,by simp only[bKU]; exact hM,bHF.set _ (bJX _ (by decide)),by simp only; omega,?_,ahV hz _ _ Om⟩ (by simp only; omega) ?_ (PH.aF PH.nil_le Sq)
  ·simp only
   have h3:=bIF (t%4294967296)
   have h4:4294967296 ^ (i+(j+1))*(t/4294967296)+4294967296 ^ (i+j)*(t%4294967296)=4294967296 ^ (i+j)*t:=by
    rw[← bKS,bKB,bJH,← bJA,bLN]
   have h5:4294967296 ^ (i+j)*t=4294967296 ^ (i+j)*c+(4294967296 ^ (i+j)*(x*y)+4294967296 ^ (i+j)*z):=by rw[← ht,bJA,bJA]
   have h6:4294967296 ^ i*(x*val (b.take (j+1)))=4294967296 ^ i*(x*val (b.take j))+4294967296 ^ (i+j)*(x*y):=by
    rw[htb,bJA,bJA,Nat.pow_add]
    congr 1
    rw[Nat.mul_left_comm x,bJH]
   omega
  ·exact Lq
 ·have he:j=b.length:=by omega
  have c1':¬ (j:Int)<(b.length:Nat):=by omega
  subst he
  have hij:i+b.length<M.length:=by omega
  have hz0:M[i+b.length]=0:=hz _ _ (bIU _) (bIZ hij)
  have bIF:=EG hij
  have hMz:(aK M)[i+b.length]?=some [.int .u32 ((0:Nat):Int)]:=by rw[bN M hij,hz0]
  have eij:IntKind.i64.wrap ((i:Int)+((b.length:Nat):Int))=((i+b.length:Nat):Int):=fS Om
  have hlt:((i+b.length:Nat):Int)<((a.length+b.length:Nat):Int):=by omega
  have bGV:(aK M).set (i+b.length) [.int .u32 ((c%4294967296:Nat):Int)]=aK (M.set (i+b.length) c):=by
   rw[bJT hc]; exact eX M _ _
  simp only[go_sem,γ,reduceCtorEq,c1',XI,eij,cA,hlt,hMz,bGV]
  refine hK (M.set (i+b.length) c) _ _ ⟨by rw[bKU]; exact hM,bHF.set _ hc,?_,fun j y hj hy=>?_⟩ (by unfold jW; exact Lq) Sq
  ·have h3:=bIF c
   rw[hz0,Nat.mul_zero,bKF] at h3
   rw[h3,bHB,bJN,hta,bJP,bJH]
  ·rw[List.getElem?_set_ne Om] at hy
   exact hz j y Om hy
theorem bdN {C:Ctx} (L:pQ C) (a b:List Nat) (ha:Lim a) (hb:Lim b) (h1:a.length≤1000) (h2:b.length≤1000) (F:PF) (f0:F 0=some (aI a)) (f1:F 1=some (aI b)) :
  aB.wp C (.seq (.region akZ) (.seq (.seq (.region alA) (.block 0 (.loop XH))) (.seq (.region XJ) .ret))) (aR [.tmp 4,.tmp 5] (bP (szV (val a*val b)))) F .nil:=by
 have hlen:IntKind.i64.wrap (((a.length:Nat):Int)+((b.length:Nat):Int))=((a.length+b.length:Nat):Int):=fS Om
 have hm1:((a.length+b.length:Nat):Int)*((4:Nat):Int)≤140737488355328:=by omega
 have hm2:((a.length+b.length:Nat):Int)≤9223372036854775807:=by omega
 have hz:bIP (a.length+b.length) [PV.int .u32 0]=aK (bIP (a.length+b.length) 0):=by
  simp[aK]
 simp only[go_sem,γ,akZ,f0,f1,hlen,hm1,hm2,hz]
 refine aO fun o ho=>?_
 simp only[go_sem,γ,reduceCtorEq,alA,f0]
 refine wp_loop (α:=List Nat × Nat) (fun t=>jW a b o t.2) (fun t=>PH.nil.set o (.rows 1 (aK t.1))) (fun t=>t.2≤a.length∧DJ a b t.1 t.2) (fun t=>a.length-t.2) (bIP (a.length+b.length) 0,0)
  ⟨by simp,by simp,uH _,by simp[val,qY],fun j x _ hx=>by rw[List.getElem?_replicate] at hx; split at hx<;>simp_all⟩ ?_ (PH.aF PH.nil_le Sq) ?_
 ·unfold jW
  exact Lq
 rintro⟨M,i⟩ ⟨hi,hI⟩
 simp only at hi hI
 simp only[go_sem,γ,reduceCtorEq,XH,aXR,jW]
 by_cases c1:i<a.length
 ·have c1':(i:Int)<(a.length:Nat):=by omega
  have key:=bmB (C:=C) a b ha hb h1 h2 M i c1 hI o
  simp only[go_sem] at key
  simp only[go_sem,c1']
  refine key _ _ _ (by unfold jW; exact Lq) Sq ?_
  intro L' F' H' hI' hF' hH'
  have g34:=hF' 34 _ (by unfold jW; simp only[go_sem,γ,reduceCtorEq]; rfl)
  have g0:=hF' 0 _ (by unfold jW; simp only[go_sem,reduceCtorEq]; rfl)
  have g1:=hF' 1 _ (by unfold jW; simp only[go_sem,γ,reduceCtorEq]; rfl)
  have g6:=hF' 6 _ (by unfold jW; simp only[go_sem,γ,reduceCtorEq]; rfl)
  have g32:=hF' 32 _ (by unfold jW; simp only[go_sem,γ,reduceCtorEq]; rfl)
  have g33:=hF' 33 _ (by unfold jW; simp only[go_sem,γ,reduceCtorEq]; rfl)
  simp only[go_sem,aHM,g34,ws i]
  refine aC (L',i+1) ⟨by simp only; omega,hI'⟩ (by simp only; omega) ?_ (PH.aF PH.nil_le hH')
  exact Lq
 ·have he:i=a.length:=by omega
  subst he
  have c1':¬ ((a.length:Nat):Int)<(a.length:Nat):=by omega
  have hV:val M=val a*val b:=by rw[hI.v,bJN]
  simp only[go_sem,γ,reduceCtorEq,XJ]
  have hs:=L.sized _ hI.lim (by rw[hI.len]; omega)
  rw[hV] at hs
  refine pF (o:=o) (s:=1) (k:=a.length+b.length) (rs:=aK M) (v:=szV (val a*val b)) ?_ rfl Sq (by rw[bT,hI.len]; exact bIU _) ?_
  ·rw[bJD (by rw[bT,hI.len]; exact bIU _)]; exact hs
  ·simp only[go_sem,γ,reduceCtorEq,szV]
   exact aV (.inr rfl) .nil rfl PH.nil_le ⟨.refl _,rfl⟩
theorem bsQ {C:Ctx} (L:pQ C) (a b:List Nat) (ha:Lim a) (hb:Lim b) (la:a.length≤35184372087808) (lb:b.length≤35184372087808) :
  NC.wp C (aR a7G.res (bP (opV (dK (val a) (val b)) (val a*val b)))) (PF.args [aI a,aI b]) .nil:=by
 simp only[go_sem,reduceCtorEq,NC,aXO,aXP,a7G]
 refine aA (L.large a ha la) rfl ?_
 by_cases c1:nl (val a)>512
 ·simp only[go_sem,γ,c1,akY]
  rw[show opV (dK (val a) (val b)) (val a*val b)=.tup [aI [],.int .i64 2] by simp[opV,dK,c1]]
  exact eE rfl
 simp only[go_sem,γ,c1]
 refine aA (L.large b hb lb) rfl ?_
 by_cases c2:nl (val b)>512
 ·simp only[go_sem,γ,reduceCtorEq,c2,akY]
  rw[show opV (dK (val a) (val b)) (val a*val b)=.tup [aI [],.int .i64 2] by simp[opV,dK,c2]]
  exact eE rfl
 have e:opV (dK (val a) (val b)) (val a*val b)=szV (val a*val b):=by simp[opV,dK,c1,c2]
 rw[e]
 simp only[go_sem,γ,reduceCtorEq,c2]
 refine bK .nil a6S PH.nil_le ?_
 simp only[go_sem,reduceCtorEq,aXQ]
 have h1:=eW ha
 have h2:=eW hb
 have h1':((nl (val a):Nat):Int)≤(a.length:Nat):=by omega
 have h2':((nl (val b):Nat):Int)≤(b.length:Nat):=by omega
 refine bC (nF a) (L.length a ha la) rfl PH.nil_le ?_
 simp only[go_sem,ν,γ,reduceCtorEq,h1',or_true,bJR,iV ha]
 refine bC (nF b) (L.length b hb lb) rfl PH.nil_le ?_
 simp only[go_sem,ν,γ,reduceCtorEq,h2',or_true,bJR,iV hb]
 have va:=aQ (val a)
 have vb:=aQ (val b)
 have:=bdN L (aG (val a)) (aG (val b)) (aU _) (aU _) (by rw[aZ]; omega) (by rw[aZ]; omega)
 rw[va,vb] at this
 have:=fun F f0 f1=>this F f0 f1
 simp only[go_sem] at this
 exact this _ rfl rfl
open Go Go.Na
theorem aeF {A P W Z:List Nat} {i:Nat} (hP:P.length=i) (hi:i<W.length):(aK (A++(P++W.drop i)++Z))[A.length+i]?=some [.int .u32 ((W[i]:Nat):Int)]:=by
 have hl:A.length+i<(A++(P++W.drop i)++Z).length:=by simp; omega
 rw[bN _ hl]
 congr 4
 rw[List.getElem_append_left (by simp; omega),List.getElem_append_right Om,List.getElem_append_right Om,List.getElem_drop]
 congr 1
 omega
theorem EC {A P W Z:List Nat} {i:Nat} (hP:P.length=i) (hi:i<W.length) (v:Nat):(aK (A++(P++W.drop i)++Z)).set (A.length+i) [.int .u32 (v:Int)]=aK (A++((P++[v])++W.drop (i+1))++Z):=by
 rw[eX]
 congr 1
 rw[List.set_append_left _ _ (by simp; omega),bLM _ _ Om,bLM _ _ Om,bKE hi]
 rw[show A.length+i-A.length-P.length=0 by omega,List.set_cons_zero]
 simp
theorem biN {t:Nat} (h:t<18446744073709551616):kG .and .u64 (t:Int) 4294967295=some (.int .u64 ((t%4294967296:Nat):Int)):=by
 show some (PV.int .u64 (IntKind.u64.wrap (((BitVec.ofInt 64 (t:Int) &&& BitVec.ofInt 64 (4294967295:Int)).toNat:Nat):Int)))=_
 have e:BitVec.ofInt 64 (4294967295:Int)=BitVec.ofNat 64 4294967295:=by rfl
 rw[e,BitVec.ofInt_natCast,BitVec.toNat_and,BitVec.toNat_ofNat,BitVec.toNat_ofNat,bJT (by simpa using h)]
 have e2:(4294967295:Nat)%2 ^ 64=2 ^ 32-1:=by decide
 rw[e2,Nat.and_two_pow_sub_one_eq_mod]
 rw[bE (Nat.lt_of_lt_of_le (bJX _ (by decide)) (by decide))]
theorem biQ {c f x:Nat} (hc:c<4294967296) (hf:f≤4294967296) (hx:x<4294967296):c+f*x<18446744073709551616∧(c+f*x)/4294967296<4294967296∧f*x≤4294967296*4294967295:=by
 have:f*x≤4294967296*4294967295:=Nat.mul_le_mul hf Om
 refine⟨by omega,?_,this⟩
 omega
def aHS (v:List Nat) (j o i c b:Nat) (f:Nat):PF:=((((((((PF.nil.set 0 (.osl o 1 j (v.length+1))).set 1 (aI v)).set 2 (.int .u64 f)).set 7 (.int .u64 c)).set 8 (.int .u64 b)).set 13 (aI v)).set 14 (.int .i64 (v.length:Nat))).set 15 (.int .i64 i))
def ID (n w m:Nat):Nat:=if w<m then w+4294967296 ^ n-m else w-m
theorem aHT {C:Ctx} (A W Z v:List Nat) (f:Nat) (hW:Lim W) (hv:Lim v) (hl:W.length=v.length+1) (h1:A.length+v.length≤100000) (hf:f≤4294967296) (bHX:val v*f≤val W+4294967296 ^ (v.length+1)) (o:Nat) :
  sZ.wp C (aR zK.res (fun r H'=>r=.bool (decide (val W<val v*f))∧H'=PH.nil.set o (.rows 1 (aK (A++dE (v.length+1) (ID (v.length+1) (val W) (val v*f))++Z)))))
   (PF.args [.osl o 1 A.length (v.length+1),aI v,.int .u64 f]) (PH.nil.set o (.rows 1 (aK (A++W++Z)))):=by
 simp only[go_sem,γ,sZ,NF,NG,NH,zK]
 refine wp_loop (α:=List Nat × Nat × Nat) (fun t=>aHS v A.length o t.1.length t.2.1 t.2.2 f) (fun t=>PH.nil.set o (.rows 1 (aK (A++(t.1++W.drop t.1.length)++Z))))
  (fun t=>t.1.length≤v.length∧Lim t.1∧t.2.1<4294967296∧t.2.2≤1∧val (W.take t.1.length)+4294967296 ^ t.1.length*t.2.2+4294967296 ^ t.1.length*t.2.1=val t.1+val (v.take t.1.length)*f) (fun t=>v.length-t.1.length) ([],0,0)
  ⟨by simp,by simp[Lim],by simp,by simp,by simp[val]⟩ ?_ (PH.aF PH.nil_le (by simp only[go_sem,bLA,bJR,List.nil_append])) ?_
 ·unfold aHS
  exact Lq
 rintro⟨P,c,b⟩ ⟨hP,bHF,hc,hb,bHB⟩
 simp only at hP bHF hc hb bHB
 simp only[go_sem,γ,reduceCtorEq,KR,NI,aHS]
 by_cases c1:P.length<v.length
 ·have c1':(P.length:Int)<(v.length:Nat):=by omega
  have c2:P.length<W.length:=by omega
  have c2':(P.length:Int)<((v.length+1:Nat):Int):=by omega
  have hx:=hv _ (bIS c1)
  have hw:=hW _ (bIS c2)
  have htv:=bW v c1
  have htw:=bW W c2
  have hat:=aeF (A:=A) (Z:=Z) (P:=P) rfl c2
  have bIF:=EC (A:=A) (Z:=Z) (P:=P) rfl c2
  generalize hxe:v[P.length]=x at *
  generalize hwe:W[P.length]=y at *
  have hvx:(aK v)[P.length]?=some [.int .u32 ((x:Nat):Int)]:=by rw[bN v c1,hxe]
  obtain⟨k1,k2,k3⟩:=biQ hc hf hx
  have ex:IntKind.u64.wrap ((x:Nat):Int)=((x:Nat):Int):=bE Om
  have ey:IntKind.u64.wrap ((y:Nat):Int)=((y:Nat):Int):=bE Om
  have em:IntKind.u64.wrap ((f:Int)*(x:Int))=((f*x:Nat):Int):=by
   rw[show (f:Int)*(x:Int)=((f*x:Nat):Int) by simp]
   exact bE Om
  have hlt64:c+f*x<18446744073709551616:=k1
  have ea:IntKind.u64.wrap ((c:Int)+((f*x:Nat):Int))=((c+f*x:Nat):Int):=eN hlt64
  have eand:=biN hlt64
  have hvt:val (v.take (P.length+1))*f=val (v.take P.length)*f+4294967296 ^ P.length*(f*x):=by rw[htv,bJP,bJH,bJM x f]
  generalize f*x=fx at *
  have hmod:(c+fx)%4294967296<4294967296:=bJX _ (by decide)
  obtain⟨s1,s2,s3,s4⟩:=aKH (a:=y) (bor:=b) (b:=(c+fx)%4294967296) hw hmod hb (IntKind.u64.wrap (IntKind.u64.wrap ((y:Int)-(((c+fx)%4294967296:Nat):Int))-(b:Int))) (by rw[fG,fG]; omega)
  generalize hd:OM y b ((c+fx)%4294967296)=d at *
  generalize hbb:YP y b ((c+fx)%4294967296)=b' at *
  have hb':b'≤1:=by rw[← hbb]; unfold YP; split<;>omega
  have hs:=bIF d
  simp only[go_sem,γ,reduceCtorEq,c1',NJ,hvx,NK,ex,em,ea,NL,c2',hat,ey,eand,NM,s1,hs,NN,a8D,s2,NO,wD,KT,cS (Om:P.length<9223372036854775807)]
  refine aC (P++[d],(c+fx)/4294967296,b') ⟨by simp; omega,bHF.app fun z hz=>by simp at hz; omega,k2,hb',?_⟩ (by simp; omega) ?_ (PH.aF PH.nil_le ?_)
  ·simp only
   rw[bIQ,bIX,iY,htw,hvt,bKB,bJH,bJH]
   have h4:4294967296 ^ P.length*y+4294967296 ^ P.length*(4294967296*b')=4294967296 ^ P.length*d+4294967296 ^ P.length*((c+fx)%4294967296)+4294967296 ^ P.length*b:=by
    rw[← bJA,s3,bJA,bJA]
   have h5:4294967296 ^ P.length*(4294967296*((c+fx)/4294967296))+4294967296 ^ P.length*((c+fx)%4294967296)=4294967296 ^ P.length*c+4294967296 ^ P.length*fx:=by
    rw[← bJA,bLN,bJA]
   omega
  ·simp only
   rw[bIQ,bIX]
   exact Lq
  ·simp only
   rw[bIQ,bIX]
   simp only[go_sem]
 ·have e:P.length=v.length:=by omega
  have c1':¬ (P.length:Int)<(v.length:Nat):=by omega
  have c2:v.length<W.length:=by omega
  have c2':((v.length:Nat):Int)<((v.length+1:Nat):Int):=by omega
  have hw:=hW _ (bIS c2)
  have htw:=bW W c2
  have hat:=aeF (A:=A) (Z:=Z) (P:=P) e c2
  have bIF:=EC (A:=A) (Z:=Z) (P:=P) e c2
  have hWall:val (W.take (v.length+1))=val W:=by rw[bJD Om]
  generalize hwe:W[v.length]=y at *
  have ey:IntKind.u64.wrap ((y:Nat):Int)=((y:Nat):Int):=bE Om
  have hP':=eM bHF
  rw[e] at bHB hP'
  rw[bJN] at bHB
  rw[hWall] at htw
  have hpow:4294967296 ^ (v.length+1)=4294967296 ^ v.length*4294967296:=bKB _ _
  have key:val W+4294967296 ^ v.length*(b+c)=val P+val v*f+4294967296 ^ v.length*y:=by rw[htw,bJA]; omega
  have hbc:b+c≤y+4294967296:=by
   rcases bJG (y+4294967296) (b+c) with h | h
   ·exfalso
    have:4294967296 ^ v.length*(y+4294967296+1)≤4294967296 ^ v.length*(b+c):=bKO _ h
    rw[bJA,bJA,Nat.mul_one] at this
    omega
   ·exact h
  have hlast:∃ d k:Nat,d<4294967296∧k≤1∧y+4294967296*k=d+(b+c)∧IntKind.u32.wrap (IntKind.u64.wrap (IntKind.u64.wrap ((y:Int)-(c:Int))-(b:Int)))=(d:Int)∧((IntKind.u64.wrap (IntKind.u64.wrap ((y:Int)-(c:Int))-(b:Int))/9223372036854775808==1)=decide (k=1)):=by
   rw[UQ,fG,fG]
   by_cases h:y<b+c
   ·refine⟨y+4294967296-(b+c),1,by omega,by omega,by omega,by omega,?_⟩
    simp only[decide_true]
    exact bO Om
   ·refine⟨y-(b+c),0,by omega,by omega,by omega,by omega,?_⟩
    exact bF Om
  obtain⟨d,k,hd,hk,hy,w1,w2⟩:=hlast
  have hs:=bIF d
  have hN:val (P++[d])+val v*f=val W+4294967296 ^ (v.length+1)*k:=by
   have:4294967296 ^ v.length*y+4294967296 ^ v.length*(4294967296*k)=4294967296 ^ v.length*d+4294967296 ^ v.length*(b+c):=by rw[← bJA,hy,bJA]
   rw[iY,e,hpow,bJH]
   omega
  have hLd:Lim (P++[d]):=bHF.app fun z hz=>by simp at hz; omega
  have hdl:=eM hLd
  rw[bIQ,bIX,e] at hdl
  have hk1:decide (k=1)=decide (val W<val v*f):=by
   congr 1
   apply propext
   constructor
   ·intro h; subst h; omega
   ·intro h
    rcases bKN k with h0 | h0
    ·subst h0; omega
    ·omega
  have hval':ID (v.length+1) (val W) (val v*f)=val (P++[d]):=by
   unfold ID
   split
   ·rename_i h
    have:k=1:=by simpa [h] using hk1
    subst this; omega
   ·rename_i h
    have:k=0:=by
     have:¬ k=1:=by simpa [h] using hk1
     omega
    subst this; omega
  have hD:dE (v.length+1) (ID (v.length+1) (val W) (val v*f))=P++[d]:=by
   have:=EP hLd
   rw[bIQ,bIX,e] at this
   rw[hval',this]
  have hdr:W.drop (v.length+1)=[]:=bLT Om
  simp only[go_sem,γ,reduceCtorEq,c1',KU,e,c2',hat,ey,KV,w1,hs,KW,a8D,w2,hk1]
  refine aV (vs:=[.bool (decide (val W<val v*f))]) (.inr rfl) (PH.nil.set o (.rows 1 (aK (A++(P++[d]++W.drop (v.length+1))++Z)))) rfl (PH.aF PH.nil_le Sq) ⟨rfl,?_⟩
  rw[hD,hdr,bJZ]
end Go.PM
namespace Go.Na
theorem aVJ {xs ys:List Nat} (hx:Lim xs) (hy:Lim ys) (hl:xs.length=ys.length) (hv:val xs=val ys):xs=ys:=by
 rw[← EP hx,← EP hy,hl,hv]
theorem bpY {k n:Nat} {xs:List Nat} (hx:Lim xs) (hl:xs.length=k) (hv:val xs=n%4294967296 ^ k):dE k n=xs :=
 aVJ (lL k n) hx (by rw[kI,hl]) (by rw[yP,hv])
end Go.Na
namespace Go.PM
open Go Go.Na
def aHN (v:List Nat) (j o i c:Nat):PF:=((((((PF.nil.set 0 (.osl o 1 j (v.length+1))).set 1 (aI v)).set 4 (.int .u64 c)).set 7 (aI v)).set 8 (.int .i64 (v.length:Nat))).set 9 (.int .i64 i))
theorem aRV {C:Ctx} (A W Z v:List Nat) (hW:Lim W) (hv:Lim v) (hl:W.length=v.length+1) (h1:A.length+v.length≤100000) (o:Nat) :
  uZ.wp C (aR HD.res (fun r H'=>r=.tup []∧H'=PH.nil.set o (.rows 1 (aK (A++dE (v.length+1) (val W+val v)++Z)))))
   (PF.args [.osl o 1 A.length (v.length+1),aI v]) (PH.nil.set o (.rows 1 (aK (A++W++Z)))):=by
 simp only[go_sem,γ,uZ,TD,TE,HD]
 refine wp_loop (α:=List Nat × Nat) (fun t=>aHN v A.length o t.1.length t.2) (fun t=>PH.nil.set o (.rows 1 (aK (A++(t.1++W.drop t.1.length)++Z))))
  (fun t=>t.1.length≤v.length∧Lim t.1∧t.2≤1∧val (W.take t.1.length)+val (v.take t.1.length)=val t.1+4294967296 ^ t.1.length*t.2) (fun t=>v.length-t.1.length) ([],0)
  ⟨by simp,by simp[Lim],by simp,by simp[val]⟩ ?_ (PH.aF PH.nil_le (by simp only[go_sem,bLA,bJR,List.nil_append])) ?_
 ·unfold aHN
  exact Lq
 rintro⟨P,c⟩ ⟨hP,bHF,hc,bHB⟩
 simp only at hP bHF hc bHB
 simp only[go_sem,γ,reduceCtorEq,TC,TF,aHN]
 by_cases c1:P.length<v.length
 ·have c1':(P.length:Int)<(v.length:Nat):=by omega
  have c2:P.length<W.length:=by omega
  have c2':(P.length:Int)<((v.length+1:Nat):Int):=by omega
  have hx:=hv _ (bIS c1)
  have hw:=hW _ (bIS c2)
  have htv:=bW v c1
  have htw:=bW W c2
  have hat:=aeF (A:=A) (Z:=Z) (P:=P) rfl c2
  have bIF:=EC (A:=A) (Z:=Z) (P:=P) rfl c2
  generalize hxe:v[P.length]=x at *
  generalize hwe:W[P.length]=y at *
  have hvx:(aK v)[P.length]?=some [.int .u32 ((x:Nat):Int)]:=by rw[bN v c1,hxe]
  have ex:IntKind.u64.wrap ((x:Nat):Int)=((x:Nat):Int):=bE Om
  have ey:IntKind.u64.wrap ((y:Nat):Int)=((y:Nat):Int):=bE Om
  have e1:IntKind.u64.wrap ((y:Int)+(x:Int))=((y+x:Nat):Int):=eN Om
  have e2:IntKind.u64.wrap ((c:Int)+((y+x:Nat):Int))=((c+(y+x):Nat):Int):=eN Om
  have hs:=bIF ((c+(y+x))%4294967296)
  simp only[go_sem,γ,reduceCtorEq,c1',TG,hvx,TH,c2',hat,ex,ey,e1,e2,TI,cA,hs,TJ,wD,TK,cS (Om:P.length<9223372036854775807)]
  refine aC (P++[(c+(y+x))%4294967296],(c+(y+x))/4294967296) ⟨by simp; omega,bHF.app fun z hz=>by simp at hz; subst hz; exact bJX _ (by decide),by simp only; omega,?_⟩ (by simp; omega) ?_ (PH.aF PH.nil_le ?_)
  ·simp only
   rw[bIQ,bIX,iY,htw,htv,bKB,bJH]
   have h5:4294967296 ^ P.length*(4294967296*((c+(y+x))/4294967296))+4294967296 ^ P.length*((c+(y+x))%4294967296)=4294967296 ^ P.length*c+(4294967296 ^ P.length*y+4294967296 ^ P.length*x):=by
    rw[← bJA,bLN,bJA,bJA]
   omega
  ·simp only
   rw[bIQ,bIX]
   exact Lq
  ·simp only
   rw[bIQ,bIX]
   simp only[go_sem]
 ·have e:P.length=v.length:=by omega
  have c1':¬ (P.length:Int)<(v.length:Nat):=by omega
  have c2:v.length<W.length:=by omega
  have c2':((v.length:Nat):Int)<((v.length+1:Nat):Int):=by omega
  have hw:=hW _ (bIS c2)
  have htw:=bW W c2
  have hat:=aeF (A:=A) (Z:=Z) (P:=P) e c2
  have bIF:=EC (A:=A) (Z:=Z) (P:=P) e c2
  have hWall:val (W.take (v.length+1))=val W:=by rw[bJD Om]
  generalize hwe:W[v.length]=y at *
  have hP':=eM bHF
  rw[e] at bHB hP'
  rw[bJN] at bHB
  rw[hWall] at htw
  have ec:IntKind.u32.wrap ((c:Nat):Int)=((c:Nat):Int):=by rw[cA,bJT Om]
  have ey:IntKind.u32.wrap ((y:Int)+(c:Int))=(((y+c)%4294967296:Nat):Int):=by
   rw[show (y:Int)+(c:Int)=((y+c:Nat):Int) by omega,cA]
  have hs:=bIF ((y+c)%4294967296)
  have hLd:Lim (P++[(y+c)%4294967296]):=bHF.app fun z hz=>by simp at hz; subst hz; exact bJX _ (by decide)
  have hdl:=eM hLd
  rw[bIQ,bIX,e] at hdl
  have hD:dE (v.length+1) (val W+val v)=P++[(y+c)%4294967296]:=by
   refine bpY hLd (by rw[bIQ,bIX,e]) ?_
   have:val W+val v=val (P++[(y+c)%4294967296])+4294967296 ^ (v.length+1)*((y+c)/4294967296):=by
    rw[iY,e,bKB,bJH,bKS,← bJA,Nat.mod_add_div,bJA]
    omega
   rw[this,Nat.add_mul_mod_self_left,bJT hdl]
  have hdr:W.drop (v.length+1)=[]:=bLT Om
  simp only[go_sem,γ,reduceCtorEq,c1',TL,e,c2',hat,ec,ey,hs]
  refine aV (vs:=[]) (.inl rfl) (PH.nil.set o (.rows 1 (aK (A++(P++[(y+c)%4294967296]++W.drop (v.length+1))++Z)))) rfl (PH.aF PH.nil_le Sq) ⟨rfl,?_⟩
  rw[hD,hdr,bJZ]
def a7D (o n:Nat) (len:Nat):PF:=((PF.nil.set 0 (.osl o 1 0 len)).set 3 (.int .i64 n))
theorem aRU {C:Ctx} (xs:List Nat) (hx:Lim xs) (hl:xs.length≤35184372087808) (o:Nat):oH.wp C (aR xC.res (fun r H'=>r=.int .i64 (nl (val xs):Nat)∧H'=PH.nil.set o (.rows 1 (aK xs)))) (PF.args [.osl o 1 0 xs.length]) (PH.nil.set o (.rows 1 (aK xs))):=by
 simp only[go_sem,γ,reduceCtorEq,oH,GY,GZ,xC]
 refine wp_loop (α:=Nat) (fun n=>a7D o n xs.length) (fun _=>PH.nil.set o (.rows 1 (aK xs))) (fun n=>n≤xs.length∧∀ j x,n≤j→xs[j]?=some x→x=0) (fun n=>n) xs.length ⟨bIU _,fun j x h e=>by rw[bJY h] at e; cases e⟩ ?_ PH.le_refl ?_
 ·unfold a7D
  exact Lq
 rintro n ⟨hn,hz⟩
 have out:(∀ x,0<n→xs[n-1]?=some x→x≠0)→nl (val xs)=n:=fun h=>aZA hx hn hz h
 simp only[go_sem,γ,reduceCtorEq,GX,HA,a7D]
 by_cases h0:(n:Int)>0
 ·have hp:0<n:=by omega
  have hi:=bN xs (Om:n-1<xs.length)
  have hlt:((n-1:Nat):Int)<(xs.length:Nat):=by omega
  simp only[go_sem,γ,reduceCtorEq,h0,uU (Om:n≤9223372036854775807) hp,hi,hlt]
  by_cases hz0:xs[n-1]=0
  ·simp only[go_sem,γ,reduceCtorEq,bO (Om:((xs[n-1]:Nat):Int)=0),HB,uU (Om:n≤9223372036854775807) hp]
   refine aC (n-1) ⟨by omega,fun j x hj he=>?_⟩ Om ?_ PH.le_refl
   ·rcases bJG j n with h | h
    ·have:j=n-1:=by omega
     subst this
     rw[bIZ Om] at he
     cases he; exact hz0
    ·exact hz j x h he
   ·exact Lq
  ·simp only[go_sem,γ,reduceCtorEq,bF (Om:((xs[n-1]:Nat):Int)≠0),rU]
   refine aV (.inr rfl) _ rfl PH.le_refl ⟨?_,rfl⟩
   rw[out fun x _ he=>by rw[bIZ Om] at he; cases he; exact hz0]
   rfl
 ·simp only[go_sem,γ,reduceCtorEq,h0,rU]
  refine aV (.inr rfl) _ rfl PH.le_refl ⟨?_,rfl⟩
  rw[out fun x h=>by omega]
  rfl
end Go.PM
namespace Go.Na
structure Kn (V W top next Vr head u2 Wr p:Nat):Prop where
 hV:V=top*(4294967296*p)+next*p+Vr
 hW:W=head*(4294967296*p)+u2*p+Wr
 hVr:Vr<p
 hWr:Wr<p
 htop:2147483648≤top
 bHK:next<4294967296
 hu2:u2<4294967296
 hlt:W<V*4294967296
section
variable {V W top next Vr head u2 Wr p:Nat}
theorem Kn.low (K:Kn V W top next Vr head u2 Wr p):next*p+Vr<4294967296*p∧u2*p+Wr<4294967296*p:=by
 have h1:(next+1)*p≤4294967296*p:=bJQ _ K.bHK
 have h2:(u2+1)*p≤4294967296*p:=bJQ _ K.hu2
 rw[bJP,Nat.one_mul] at h1 h2
 have:=K.hVr
 have:=K.hWr
 omega
theorem Kn.azJ (K:Kn V W top next Vr head u2 Wr p):0<V∧4294967296*p≤V∧0<p:=by
 have:=K.hVr
 have h:1*(4294967296*p)≤top*(4294967296*p):=bJQ _ (by have:=K.htop; omega)
 have:=K.hV
 omega
theorem Kn.bwF (K:Kn V W top next Vr head u2 Wr p):W/V<4294967296:=by
 rw[bLC K.azJ.1,bJM]; exact K.hlt
theorem Kn.g0 (K:Kn V W top next Vr head u2 Wr p):W/V≤head/top:=by
 have ht:0<top:=by have:=K.htop; omega
 rw[Nat.le_div_iff_mul_le ht]
 have h1:W/V*V≤W:=Nat.div_mul_le_self W V
 have h2:W/V*(top*(4294967296*p))≤W/V*V:=bKO _ (by have:=K.hV; omega)
 have h3:=K.low.2
 have h4:=K.hW
 have h5:(W/V*top)*(4294967296*p)<(head+1)*(4294967296*p):=by
  rw[bJH,bJP,Nat.one_mul]; omega
 have:=Nat.lt_of_mul_lt_mul_right h5
 omega
theorem Kn.g1 (K:Kn V W top next Vr head u2 Wr p) {g r:Nat} (hg:g*top+r=head) (hq:W/V≤g) (h:g≥4294967296∨g*next>r*4294967296+u2):1≤g∧W/V≤g-1:=by
 have hql:=K.bwF
 have hdiv:=Nat.div_mul_le_self W V
 generalize W/V=Q at *
 rcases h with h | h
 ·omega
 ·have hne:Q≠g:=by
   intro e
   have h1:g*V≤W:=by rw[← e]; exact hdiv
   have h2:g*V=g*top*(4294967296*p)+g*next*p+g*Vr:=by rw[K.hV,bJA,bJA,bJH,bJH]
   have h3:(r*4294967296+u2+1)*p≤g*next*p:=bJQ _ h
   rw[bJP,bJP,Nat.one_mul,bJH r] at h3
   have h4:g*top*(4294967296*p)+r*(4294967296*p)=head*(4294967296*p):=by rw[← bJP,hg]
   have:=K.hW
   have:=K.hWr
   omega
  omega
theorem Kn.g2 (K:Kn V W top next Vr head u2 Wr p) {g r:Nat} (hg:g*top+r=head) (hl:g≤4294967296) (h:g*next≤r*4294967296+u2):g≤W/V+1:=by
 rcases bKN g with e | e
 ·rw[e]; exact bIT _
 have h2:g*V=g*top*(4294967296*p)+g*next*p+g*Vr:=by rw[K.hV,bJA,bJA,bJH,bJH]
 have h3:g*next*p≤(r*4294967296+u2)*p:=bJQ _ h
 rw[bJP,bJH r] at h3
 have h4:g*top*(4294967296*p)+r*(4294967296*p)=head*(4294967296*p):=by rw[← bJP,hg]
 have h5:g*Vr≤4294967296*Vr:=bJQ _ hl
 have h6:4294967296*(Vr+1)≤4294967296*p:=bKO _ K.hVr
 have hV:=K.azJ
 have hW:=K.hW
 have h7:(g-1)*V≤W:=by
  have:g*V=(g-1)*V+V:=by
   obtain⟨k,rfl⟩:∃ k,g=k+1:=⟨g-1,by omega⟩
   rw[bJP,Nat.one_mul]; rfl
  omega
 have:=(Nat.le_div_iff_mul_le hV.1).2 h7
 generalize W/V=Q at *
 clear h2 h3 h4 h5 h7
 omega
theorem Kn.g3 (K:Kn V W top next Vr head u2 Wr p) {g r:Nat} (hg:g*top+r=head) (hl:g≤4294967296) (hr:4294967296≤r):g≤W/V+1:=by
 have hlow:=K.low.1
 have hV:=K.azJ
 have h2:g*V=g*top*(4294967296*p)+g*(next*p+Vr):=by rw[K.hV,bKS,bJA,bJH]
 have h3:g*(next*p+Vr)≤4294967296*(4294967296*p):=Nat.mul_le_mul hl Om
 have h4:g*top*(4294967296*p)+r*(4294967296*p)=head*(4294967296*p):=by rw[← bJP,hg]
 have h5:4294967296*(4294967296*p)≤r*(4294967296*p):=bJQ _ hr
 have hW:=K.hW
 have h7:g*V≤W:=by omega
 have:=(Nat.le_div_iff_mul_le hV.1).2 h7
 generalize W/V=Q at *
 clear h2 h3 h4 h5 h7
 omega
theorem Kn.g4 (K:Kn V W top next Vr head u2 Wr p):head/top≤4294967296+1:=by
 have hlow:=K.low.1
 have hV:=K.azJ
 have hW:=K.hW
 have hlt:=K.hlt
 have ht:=K.htop
 have h1:head<(top+1)*4294967296:=by
  have h2:V<(top+1)*(4294967296*p):=by rw[K.hV,bJP,Nat.one_mul]; omega
  have h3:V*4294967296≤(top+1)*(4294967296*p)*4294967296:=bJQ _ (Nat.le_of_lt h2)
  have h4:head*(4294967296*p)<(top+1)*4294967296*(4294967296*p):=by
   have:(top+1)*(4294967296*p)*4294967296=(top+1)*4294967296*(4294967296*p):=by rw[bJH,bJM (4294967296*p) 4294967296,← bJH]
   omega
  exact Nat.lt_of_mul_lt_mul_right h4
 have h5:head/top<4294967296+2:=by
  rw[bLC Om]
  omega
 omega
end
theorem uD:∀ (k n:Nat),dE (k+1) n=dE k n++[n/4294967296 ^ k%4294967296]
 | 0,n=>by simp[dE]
 | k+1,n=>by
  show (n%4294967296)::dE (k+1) (n/4294967296)=(n%4294967296)::dE k (n/4294967296)++[n/4294967296 ^ (k+1)%4294967296]
  rw[uD k (n/4294967296),Nat.div_div_eq_div_mul,bKB,bJM 4294967296]
  rfl
theorem tI {xs:List Nat} (h:Lim xs):∀ {k:Nat},k≤xs.length→val (xs.drop k)=val xs/4294967296 ^ k:=by
 intro k hk
 have e:val xs=val (xs.take k)+4294967296 ^ k*val (xs.drop k):=by
  conv=>lhs; rw[← bLB k xs,fL,bJF,bKJ hk]
 have hl:=eM (h.take k)
 rw[bJF,bKJ hk] at hl
 rw[e,Nat.add_mul_div_left _ _ (bKY (by decide)),bLO hl,bJJ]
theorem TV {R s i u0 u1 X:Nat} (hs:s<32) (h:R/4294967296 ^ i=u0+4294967296*(u1+4294967296*X)):(R/2 ^ s)/4294967296 ^ i%4294967296=(4294967296*u1+u0)/2 ^ s%4294967296:=by
 rw[Nat.div_div_eq_div_mul,bJM (2 ^ s),← Nat.div_div_eq_div_mul,h]
 have hp:4294967296*4294967296=2 ^ s*(2 ^ (32-s)*4294967296):=by
  rw[← bJH,← Nat.pow_add,show s+(32-s)=32 by omega]
 have e:u0+4294967296*(u1+4294967296*X)=(4294967296*u1+u0)+2 ^ s*(2 ^ (32-s)*X*4294967296):=by
  have:4294967296*(4294967296*X)=2 ^ s*(2 ^ (32-s)*X*4294967296):=by
   rw[← bJH,hp,bJH,bJH,bJH,bJM 4294967296 X]
  rw[bJA,this]; omega
 rw[e,Nat.add_mul_div_left _ _ (bKY (by decide)),Nat.add_mul_mod_self_right]
end Go.Na
namespace Go.PM
open Go Go.Na
theorem btI {A W Z:List Nat} {i:Nat} (hi:i<W.length):(aK (A++W++Z))[A.length+i]?=some [.int .u32 ((W[i]:Nat):Int)]:=by
 have hl:A.length+i<(A++W++Z).length:=by simp; omega
 rw[bN _ hl]
 congr 4
 rw[List.getElem_append_left (by simp; omega),List.getElem_append_right Om]
 congr 1
 omega
def dF (u v:PV) (n:Nat) (q:PV) (top next j s:Nat):PF:=((((((((PF.nil.set 8 (.int .u64 s)).set 9 (u)).set 10 (v)).set 11 (.int .i64 n)).set 12 (q)).set 13 (.int .u64 top)).set 14 (.int .u64 next)).set 15 (.int .i64 j))
def dG (u v:PV) (n:Nat) (q:PV) (top next j s g r:Nat):PF:=((((((((((PF.nil.set 8 (.int .u64 s)).set 9 (u)).set 10 (v)).set 11 (.int .i64 n)).set 12 (q)).set 13 (.int .u64 top)).set 14 (.int .u64 next)).set 15 (.int .i64 j)).set 17 (.int .u64 g)).set 18 (.int .u64 r))
theorem awZ {C:Ctx} {V Wv top next Vr head u2 Wr p:Nat} (Kk:Kn V Wv top next Vr head u2 Wr p) (htop:top<4294967296) (o lu m j s:Nat) (v q:PV) (hjm:j+m+2<lu) (hlu:lu≤100000) (U:List Nat) (hU:(aK U)[j+m]?=some [.int .u32 (u2:Nat)]) (K:bX) (F:PF) (H:PH)
  (hF:(dG (.osl o 1 0 lu) v (m+2) q top next j s (head/top) (head%top)).le F) (hH:H o=some (.rows 1 (aK U)))
  (hK:∀ g r F',Wv/V≤g→g≤Wv/V+1→g≤4294967296→(dG (.osl o 1 0 lu) v (m+2) q top next j s g r).le F'→K .normal F' H) :
  aB.wp C (.block 4 (.loop tP)) K F H:=by
 have ht0:0<top:=by have:=Kk.htop; omega
 have hn:=Kk.bHK
 have hu2:=Kk.hu2
 simp only[go_sem]
 refine wp_loop (α:=Nat × Nat) (fun t=>dG (.osl o 1 0 lu) v (m+2) q top next j s t.1 t.2) (fun _=>H) (fun t=>t.1*top+t.2=head∧Wv/V≤t.1∧t.1≤4294967296+1∧t.2<4294967296) (fun t=>t.1) (head/top,head%top)
  ⟨by simp only; rw[bJM]; exact bLN head top,Kk.g0,Kk.g4,Nat.lt_trans (bJX _ ht0) htop⟩ hF PH.le_refl ?_
 rintro⟨g,r⟩ ⟨hg,hq,hgl,hr⟩
 simp only at hg hq hgl hr
 have e1:IntKind.i64.wrap ((j:Int)+((m+2:Nat):Int))=((j+(m+2):Nat):Int):=fS Om
 have e2:IntKind.i64.wrap (((j+(m+2):Nat):Int)-2)=((j+m:Nat):Int):=by rw[wrap_i64 Om Om]; omega
 have hlt:((j+m:Nat):Int)<(lu:Nat):=by omega
 have eu2:IntKind.u64.wrap ((u2:Nat):Int)=((u2:Nat):Int):=bE Om
 have esh:shift .shl .u64 (r:Int) 32=some (.int .u64 ((2 ^ 32*r:Nat):Int)):=HV (s:=32) Om Om
 have e32:(2:Nat) ^ 32=4294967296:=by decide
 have eor:=orI (a:=2 ^ 32*r) (b:=u2) (n:=2 ^ 32*r+u2) Om Om (Nat.two_pow_add_eq_or_of_lt Om r).symm Om
 rw[e32] at esh eor
 have more:(g≥4294967296∨g*next>r*4294967296+u2)→∀ F':PF,(dG (.osl o 1 0 lu) v (m+2) q top next j s g r).le F'→aB.wp C (.block 5 (.seq (.region BF) (.seq (.region BG) (.seq (.region BH) (.cond (.tmp 136) (.exit 4) .skip)))))
   (dQ (fun t:Nat × Nat=>dG (.osl o 1 0 lu) v (m+2) q top next j s t.1 t.2) (fun _=>H) (fun t=>t.1*top+t.2=head∧Wv/V≤t.1∧t.1≤4294967296+1∧t.2<4294967296) (fun t=>t.1) g (dJ 4 K)) F' H:=by
  intro hc F' hF'
  obtain⟨g1,g2⟩:=Kk.g1 hg hq hc
  have f8:=hF' 8 _ (by unfold dG; simp only[go_sem,γ]; rfl)
  have f9:=hF' 9 _ (by unfold dG; simp only[go_sem,γ]; rfl)
  have f10:=hF' 10 _ (by unfold dG; simp only[go_sem,γ]; rfl)
  have f11:=hF' 11 _ (by unfold dG; simp only[go_sem,γ]; rfl)
  have f12:=hF' 12 _ (by unfold dG; simp only[go_sem,γ]; rfl)
  have f13:=hF' 13 _ (by unfold dG; simp only[go_sem,γ]; rfl)
  have f14:=hF' 14 _ (by unfold dG; simp only[go_sem,γ]; rfl)
  have f15:=hF' 15 _ (by unfold dG; simp only[go_sem,γ]; rfl)
  have f17:=hF' 17 _ (by unfold dG; simp only[go_sem,γ]; rfl)
  have f18:=hF' 18 _ (by unfold dG; simp only[go_sem,γ]; rfl)
  have w1:IntKind.u64.wrap ((g:Int)-1)=((g-1:Nat):Int):=by rw[wrap_u64 Om Om]; omega
  have w2:IntKind.u64.wrap ((r:Int)+(top:Int))=((r+top:Nat):Int):=eN Om
  have hg':(g-1)*top+(r+top)=head:=by
   obtain⟨k,rfl⟩:∃ k,g=k+1:=⟨g-1,by omega⟩
   rw[bJP,Nat.one_mul] at hg
   simp only[Nat.add_sub_cancel]
   omega
  simp only[go_sem,δ,γ,BF,BG,BH,f17,f18,f13,w1,w2]
  by_cases c:r+top≥4294967296
  ·have c':((r+top:Nat):Int)≥4294967296:=by omega
   simp only[go_sem,γ,c']
   refine hK (g-1) (r+top) _ g2 (Kk.g3 hg' Om c) Om ?_
   unfold dG
   exact Lq
  ·have c':¬ ((r+top:Nat):Int)≥4294967296:=by omega
   simp only[go_sem,c']
   refine aC (g-1,r+top) ⟨hg',g2,by simp only; omega,by simp only; omega⟩ (by simp only; omega) ?_ PH.le_refl
   unfold dG
   exact Lq
 simp only[go_sem,δ,γ,tP,SV,dG]
 by_cases c1:g≥4294967296
 ·have c1':(g:Int)≥4294967296:=by omega
  simp only[go_sem,γ,c1']
  have:=more (.inl c1)
  simp only[go_sem,δ,dG] at this
  refine this _ ?_
  exact Lq
 ·have c1':¬ (g:Int)≥4294967296:=by omega
  have hgn:g*next≤4294967295*4294967295:=Nat.mul_le_mul Om Om
  have em:IntKind.u64.wrap ((g:Int)*(next:Int))=((g*next:Nat):Int):=by
   rw[show (g:Int)*(next:Int)=((g*next:Nat):Int) by simp]
   exact bE Om
  simp only[go_sem,γ,reduceCtorEq,c1',em,esh,e1,e2,hlt,hH,hU,eu2,eor]
  by_cases c2:g*next>r*4294967296+u2
  ·have c2':((g*next:Nat):Int)>((4294967296*r+u2:Nat):Int):=by omega
   simp only[go_sem,c2']
   have:=more (.inr c2)
   simp only[go_sem,δ,dG] at this
   refine this _ ?_
   exact Lq
  ·have c2':¬ ((g*next:Nat):Int)>((4294967296*r+u2:Nat):Int):=by omega
   simp only[go_sem,c2']
   refine hK g r _ hq (Kk.g2 hg Om Om) Om ?_
   unfold dG
   exact Lq
end Go.PM
namespace Go.Na
theorem bzA {W v:List Nat} {m:Nat} (hW:Lim W) (hv:Lim v) (hlv:v.length=m+2) (hlW:W.length=m+3) (ht:2147483648≤v[m+1]) (hlt:val W<val v*4294967296) :
  Kn (val v) (val W) (v[m+1]) (v[m]) (val (v.take m)) (W[m+2]*4294967296+W[m+1]) (W[m]) (val (W.take m)) (4294967296 ^ m):=by
 have e1:val v=val (v.take m)+4294967296 ^ m*(v[m]+4294967296*v[m+1]):=by
  rw[qV v (Om:m<v.length)]
  congr 4
  have:v.drop (m+1)=[v[m+1]]:=by
   rw[bKE Om,bLT Om]
  rw[this]; simp[val]
 have e2:val W=val (W.take m)+4294967296 ^ m*(W[m]+4294967296*(W[m+1]+4294967296*W[m+2])):=by
  rw[qV W (Om:m<W.length)]
  congr 4
  have:W.drop (m+1)=[W[m+1],W[m+2]]:=by
   rw[bKE Om,bKE Om,bLT Om]
  rw[this]; simp[val]
 have l1:=eM (hv.take m)
 have l2:=eM (hW.take m)
 rw[bJF,bKJ Om] at l1 l2
 refine⟨?_,?_,l1,l2,ht,hv _ (bIS _),hW _ (bIS _),hlt⟩
 ·rw[e1,bJA,bJM (4294967296 ^ m) (v[m]),← bJH (4294967296 ^ m),bJM (4294967296 ^ m*4294967296),bJM (4294967296 ^ m) 4294967296]
  omega
 ·rw[e2,bJA,bJM (4294967296 ^ m) (W[m]),← bJH (4294967296 ^ m),bJM (4294967296 ^ m*4294967296),bJM (4294967296 ^ m) 4294967296,bJM (W[m+2]),Nat.add_comm (4294967296*W[m+2])]
  omega
end Go.Na
namespace Go.PM
open Go Go.Na
structure axI (C:Ctx):Prop where
 subtract:∀ (A W Z v:List Nat) (f o:Nat),Lim W→Lim v→W.length=v.length+1→A.length+v.length≤100000→f≤4294967296→val v*f≤val W+4294967296 ^ (v.length+1) →
  aH C 142 [.osl o 1 A.length (v.length+1),aI v,.int .u64 f] (PH.nil.set o (.rows 1 (aK (A++W++Z)))) (fun r H'=>r=.bool (decide (val W<val v*f))∧H'=PH.nil.set o (.rows 1 (aK (A++dE (v.length+1) (ID (v.length+1) (val W) (val v*f))++Z))))
 restore:∀ (A W Z v:List Nat) (o:Nat),Lim W→Lim v→W.length=v.length+1→A.length+v.length≤100000 →
  aH C 139 [.osl o 1 A.length (v.length+1),aI v] (PH.nil.set o (.rows 1 (aK (A++W++Z)))) (fun r H'=>r=.tup []∧H'=PH.nil.set o (.rows 1 (aK (A++dE (v.length+1) (val W+val v)++Z))))
theorem azW (k n:Nat):dE k (n%4294967296 ^ k)=dE k n :=
 aVJ (lL _ _) (lL _ _) (by rw[kI,kI]) (by rw[yP,yP,Nat.mod_mod])
theorem awY {C:Ctx} (D:axI C) (A W Z v Q:List Nat) (m o oq lu s:Nat) (hne:oq≠o) (hW:Lim W) (hv:Lim v) (hlv:v.length=m+2) (hlW:W.length=m+3) (ht:2147483648≤v[m+1]) (hlt:val W<val v*4294967296)
  (hlu:lu=A.length+(m+3)+Z.length) (bID:lu≤10000) (hjq:A.length<Q.length) (K:bX) (F:PF) (H:PH) (hF:(dF (.osl o 1 0 lu) (aI v) (m+2) (.osl oq 1 0 Q.length) (v[m+1]) (v[m]) A.length s).le F)
  (hH:H o=some (.rows 1 (aK (A++W++Z)))) (hHq:H oq=some (.rows 1 (aK Q)))
  (hK:∀ F' H',(dF (.osl o 1 0 lu) (aI v) (m+2) (.osl oq 1 0 Q.length) (v[m+1]) (v[m]) A.length s).le F'→H' o=some (.rows 1 (aK (A++dE (m+3) (val W%val v)++Z)))→H' oq=some (.rows 1 (aK (Q.set A.length (val W/val v))))→K .normal F' H') :
  aB.wp C (.block 3 (.seq (.draw BD) (.seq (.draw BE) (.seq (.block 4 (.loop tP)) (.seq (.seq (.region BI) (.cond (.tmp 146) (.seq (.region BJ) (.region BK)) .skip)) (.region tQ)))))) K F H:=by
 have Kk:=bzA hW hv hlv hlW ht hlt
 have hgetU:∀ i (h:i<W.length),(aK (A++W++Z))[A.length+i]?=some [.int .u32 ((W[i]:Nat):Int)]:=fun i h=>btI h
 have g0:=hgetU (m+2) Om
 have g1:=hgetU (m+1) Om
 have g2:=hgetU m Om
 have hq:=Kk.bwF
 have htop:v[m+1]<4294967296:=hv _ (bIS _)
 have hu0:=hW _ (bIS (Om:m+2<W.length))
 have hu1:=hW _ (bIS (Om:m+1<W.length))
 have hVpos:=Kk.azJ.1
 generalize hte:v[m+1]=top at *
 generalize hnx:v[m]=next at *
 generalize hw0:W[m+2]=u0 at *
 generalize hw1:W[m+1]=u1 at *
 generalize hw2:W[m]=u2 at *
 have f8:=hF 8 _ (by unfold dF; simp only[go_sem,γ]; rfl)
 have f9:=hF 9 _ (by unfold dF; simp only[go_sem,γ]; rfl)
 have f10:=hF 10 _ (by unfold dF; simp only[go_sem,γ]; rfl)
 have f11:=hF 11 _ (by unfold dF; simp only[go_sem,γ]; rfl)
 have f12:=hF 12 _ (by unfold dF; simp only[go_sem,γ]; rfl)
 have f13:=hF 13 _ (by unfold dF; simp only[go_sem,γ]; rfl)
 have f14:=hF 14 _ (by unfold dF; simp only[go_sem,γ]; rfl)
 have f15:=hF 15 _ (by unfold dF; simp only[go_sem,γ]; rfl)
 have e1:IntKind.i64.wrap ((A.length:Int)+((m+2:Nat):Int))=((A.length+(m+2):Nat):Int):=fS Om
 have e2:IntKind.i64.wrap (((A.length+(m+2):Nat):Int)-1)=((A.length+(m+1):Nat):Int):=by rw[wrap_i64 Om Om]; omega
 have c0:((A.length+(m+2):Nat):Int)<(lu:Nat):=by omega
 have c1:((A.length+(m+1):Nat):Int)<(lu:Nat):=by omega
 have eu0:IntKind.u64.wrap ((u0:Nat):Int)=((u0:Nat):Int):=bE Om
 have eu1:IntKind.u64.wrap ((u1:Nat):Int)=((u1:Nat):Int):=bE Om
 have esh:shift .shl .u64 (u0:Int) 32=some (.int .u64 ((2 ^ 32*u0:Nat):Int)):=HV (s:=32) Om Om
 have e32:(2:Nat) ^ 32=4294967296:=by decide
 have eor:=orI (a:=2 ^ 32*u0) (b:=u1) (n:=2 ^ 32*u0+u1) Om Om (Nat.two_pow_add_eq_or_of_lt Om u0).symm Om
 rw[e32] at esh eor
 have hcm:4294967296*u0+u1=u0*4294967296+u1:=by omega
 rw[hcm] at eor
 simp only[go_sem]
 refine bK H dC PH.le_refl ?_
 simp only[go_sem,γ,reduceCtorEq,BD,f9,f15,f11,e1,e2,c0,c1,hH,g0,g1,eu0,eu1,esh,eor]
 refine bK H dC PH.le_refl ?_
 have ht0:0<top:=by omega
 have htz:¬ ((top:Nat):Int)=0:=by omega
 generalize hhd:u0*4294967296+u1=head at *
 have equo:IntKind.u64.wrap (Int.tdiv ((head:Nat):Int) ((top:Nat):Int))=((head/top:Nat):Int):=by
  rw[show Int.tdiv ((head:Nat):Int) ((top:Nat):Int)=((head/top:Nat):Int) from rfl]
  exact bE (by have:=Kk.g4; omega)
 have erem:Int.tmod ((head:Nat):Int) ((top:Nat):Int)=((head%top:Nat):Int):=rfl
 simp only[go_sem,γ,BE,f13,htz,equo,erem]
 have guess:=awZ (C:=C) Kk htop o lu m A.length s (aI v) (.osl oq 1 0 Q.length) Om Om (A++W++Z) g2
 simp only[go_sem] at guess
 refine guess _ _ H ?_ hH ?_
 ·unfold dG
  refine PF.aF (PF.aF (PF.aF (PF.aF (PF.aF (PF.aF (PF.aF (PF.aF (PF.aF (PF.aF PF.nil_le ?_) ?_) ?_) ?_) ?_) ?_) ?_) ?_) ?_) ?_<;>simp only[go_sem,γ,f8,f9,f10,f11,f12,f13,f14,f15]
 clear guess
 intro g r F' q1 q2 q3 hF'
 have h8:=hF' 8 _ (by unfold dG; simp only[go_sem,γ]; rfl)
 have h9:=hF' 9 _ (by unfold dG; simp only[go_sem,γ]; rfl)
 have h10:=hF' 10 _ (by unfold dG; simp only[go_sem,γ]; rfl)
 have h11:=hF' 11 _ (by unfold dG; simp only[go_sem,γ]; rfl)
 have h12:=hF' 12 _ (by unfold dG; simp only[go_sem,γ]; rfl)
 have h13:=hF' 13 _ (by unfold dG; simp only[go_sem,γ]; rfl)
 have h14:=hF' 14 _ (by unfold dG; simp only[go_sem,γ]; rfl)
 have h15:=hF' 15 _ (by unfold dG; simp only[go_sem,γ]; rfl)
 have h17:=hF' 17 _ (by unfold dG; simp only[go_sem,γ]; rfl)
 have e3:IntKind.i64.wrap (((A.length+(m+2):Nat):Int)+1)=((A.length+(m+3):Nat):Int):=by rw[wrap_i64 Om Om]; omega
 have c3:((A.length:Nat):Int)≤((A.length+(m+3):Nat):Int):=by omega
 have c4:((A.length+(m+3):Nat):Int)≤(lu:Nat):=by omega
 have e4:A.length+(m+3)-A.length=v.length+1:=by omega
 have hvl:v.length+1=m+3:=by omega
 have hdm:val v*(val W/val v)+val W%val v=val W:=bLN _ _
 have hWlt:=eM hW
 rw[hlW] at hWlt
 have hmodlt:val W%val v<val v:=bJX _ hVpos
 have hvlt:=eM hv
 rw[hlv] at hvlt
 have hpow:4294967296 ^ (m+3)=4294967296 ^ (m+2)*4294967296:=bKB _ _
 generalize hQd:val W/val v=qd at *
 generalize hRd:val W%val v=rd at *
 have hfin:∀ (F2:PF) (H2:PH),F2 8=some (.int .u64 s)→F2 9=some (.osl o 1 0 lu)→F2 10=some (aI v)→F2 11=some (.int .i64 ((m+2:Nat):Int))→F2 12=some (.osl oq 1 0 Q.length)→F2 13=some (.int .u64 top)→F2 14=some (.int .u64 next)→F2 15=some (.int .i64 A.length)→F2 17=some (.int .u64 qd) →
   H2 o=some (.rows 1 (aK (A++dE (m+3) rd++Z)))→H2 oq=some (.rows 1 (aK Q))→aB.wp C (.region tQ) (dJ 3 K) F2 H2:=by
  intro F2 H2 k8 k9 k10 k11 k12 k13 k14 k15 k17 kH kQ
  have hqr:(aK Q)[A.length]?=some [.int .u32 ((Q[A.length]:Nat):Int)]:=bN Q hjq
  have hlq:((A.length:Nat):Int)<(Q.length:Nat):=by omega
  have eq:IntKind.u32.wrap ((qd:Nat):Int)=((qd:Nat):Int):=by rw[cA,bJT hq]
  have bGV:=eX Q A.length qd
  have bHN:¬ o=oq:=fun h=>hne h.symm
  simp only[go_sem,γ,tQ,k12,k15,k17,eq,hlq,kQ,hqr,bGV]
  refine hK _ _ ?_ (by simp only[go_sem,bHN,kH]) Sq
  unfold dF
  refine PF.aF (PF.aF (PF.aF (PF.aF (PF.aF (PF.aF (PF.aF (PF.aF PF.nil_le ?_) ?_) ?_) ?_) ?_) ?_) ?_) ?_<;>simp only[go_sem,γ,k8,k9,k10,k11,k12,k13,k14,k15]
 have hle:(PH.nil.set o (.rows 1 (aK (A++W++Z)))).le H:=PH.aF PH.nil_le hH
 have bHX:val v*g≤val W+4294967296 ^ (v.length+1):=by
  have:val v*g≤val v*(qd+1):=bKO _ q2
  rw[bJA,Nat.mul_one] at this
  rw[hvl,hpow]; omega
 simp only[go_sem,γ,reduceCtorEq,BI,h9,h15,h11,e1,e3,c3,c4,e4,h10,h17]
 refine mX (D.subtract A W Z v g o hW hv Om Om q3 bHX) rfl hle ?_
 rintro rr H' ⟨rfl,rfl⟩ -
 rw[PH.rX]
 by_cases hgq:g=qd
 ·subst hgq
  have hneg:¬ val W<val v*g:=by omega
  have hN:ID (v.length+1) (val W) (val v*g)=rd:=by unfold ID; rw[if_neg hneg]; omega
  rw[hN,hvl]
  simp only[go_sem,γ,hneg]
  have:=hfin
  simp only[go_sem] at this
  refine this _ _ ?_ ?_ ?_ ?_ ?_ ?_ ?_ ?_ ?_ ?_ ?_<;>simp only[go_sem,γ,h8,h9,h10,h11,h12,h13,h14,h15,h17,hne,hHq]
 ·have hg1:g=qd+1:=by omega
  subst hg1
  rw[bJA,Nat.mul_one]
  have hneg:val W<val v*qd+val v:=by omega
  have hN:ID (v.length+1) (val W) (val v*qd+val v)=rd+4294967296 ^ (m+3)-val v:=by unfold ID; rw[if_pos hneg,hvl]; omega
  rw[hN]
  have w1:IntKind.u64.wrap (((qd+1:Nat):Int)-1)=((qd:Nat):Int):=by rw[wrap_u64 Om Om]; omega
  simp only[go_sem,γ,reduceCtorEq,hneg,BJ,h17,w1,BK,h9,h15,h11,e1,e3,c3,c4,e4,h10]
  have hD':val (dE (v.length+1) (rd+4294967296 ^ (m+3)-val v))=rd+4294967296 ^ (m+3)-val v:=nI (by rw[hvl]; omega)
  refine mX (D.restore A (dE (v.length+1) (rd+4294967296 ^ (m+3)-val v)) Z v o (lL _ _) hv (kI _ _) Om) rfl (PH.aF PH.nil_le Sq) ?_
  rintro rr H' ⟨rfl,rfl⟩ -
  rw[PH.rX,PH.set_set,hD']
  have hfinal:dE (v.length+1) (rd+4294967296 ^ (m+3)-val v+val v)=dE (m+3) rd:=by
   rw[hvl,← azW (m+3) (rd+4294967296 ^ (m+3)-val v+val v)]
   rw[show rd+4294967296 ^ (m+3)-val v+val v=rd+4294967296 ^ (m+3) by omega,Nat.add_mod_right,azW]
  rw[hfinal]
  simp only[go_sem]
  have:=hfin
  simp only[go_sem] at this
  refine this _ _ ?_ ?_ ?_ ?_ ?_ ?_ ?_ ?_ ?_ ?_ ?_<;>simp only[go_sem,γ,h8,h9,h10,h11,h12,h13,h14,h15,hne,hHq]
open Go
section
variable {C:Ctx} {K:bX} {F:PF} {H Hs:PH} {S:Spec}
theorem aSR {name:Nat} {vs:List PV} {R:PV→PH→Prop} {args:List aP} {st:Bool} {d:Option Nat} {K:PF→PH→Prop} (hS:S name vs=some ([],fun _=>R)) (h:aH C name vs .nil R) (ha:aP.evs F args=some vs)
  (hex:∀ G:PH,∃ r H',R r H'∧mM G .nil H') (hk:∀ r H',R r H'→mM H .nil H'→Hs.le (H.over .nil H')∧K (F.put d r) (H.over .nil H')):dOp C Hs S st (.call name args) d K F H:=by
 refine⟨vs,[],fun _=>R,ha,hS,fun o ho=>by simp at ho,by rw[HG]; exact h,fun G=>?_,fun r H' hr ha=>?_⟩
 ·obtain⟨r,H',h1,h2⟩:=hex G
  exact⟨r,H',h1,fun o x hx hn=>h2 o x hx (by simp[PH.nil])⟩
 ·rw[HG] at ha ⊢
  exact hk r H' hr ha
theorem PH.over_self (H0:PH) (h:H0.le H):H.over H0 H0=H:=PH.ext fun q=>by
 rw[nG]
 cases e:H0 q with
 | none=>rfl
 | some x=>exact (h q x e).symm
theorem aIB {o:Nat} {x:cE} (h:H o=some x):H.only [o]=PH.nil.set o x:=PH.ext fun q=>by
 rw[qR,bA]
 by_cases e:q=o
 ·subst e; simp[h]
 ·simp[e,akG]
theorem VA {name o:Nat} {x:cE} {vs:List PV} {v:PV} {R:PH→PV→PH→Prop} {args:List aP} {st:Bool} {d:Option Nat} {K:PF→PH→Prop} (hS:S name vs=some ([o],R)) (ho:H o=some x)
  (h:aH C name vs (PH.nil.set o x) (fun r H'=>r=v∧H'=PH.nil.set o x)) (hR1:R (PH.nil.set o x) v (PH.nil.set o x)) (hR2:∀ r H',R (PH.nil.set o x) r H'→r=v∧H'=PH.nil.set o x) (ha:aP.evs F args=some vs) (hle:Hs.le H) (hk:K (F.put d v) H) :
  dOp C Hs S st (.call name args) d K F H:=by
 have e:=aIB ho
 refine⟨vs,[o],_,ha,hS,fun q hq=>?_,?_,fun G=>⟨v,_,by rw[e]; exact hR1,fun q y hy hn=>?_⟩,fun r H' hr _=>?_⟩
 ·simp at hq; subst hq; exact⟨x,ho⟩
 ·rw[e]
  exact h.post fun r H' hr=>⟨r,.refl _,by rw[hr.1,hr.2]; exact hR1⟩
 ·rw[e] at hn; rw[hy] at hn; cases hn
 ·rw[e] at hr
  obtain⟨rfl,rfl⟩:=hR2 r H' hr
  rw[e,PH.over_self _ (by rw[← e]; exact alK H [o])]
  exact⟨hle,hk⟩
theorem aSI {c:aB} {α:Type} (Fs:α→PF) (Hs:α→PH) (Pr:α→Prop) (m:α→Nat) (a0:α) (o:Nat) {s:Nat} {rs:List (List PV)} (ho:H o=some (.rows s rs)) (h0:Pr a0) (hF:(Fs a0).le (F.frz o s rs)) (hH:(Hs a0).le (H.frz o s rs))
  (hb:∀ a,Pr a→c.wp C (dQ Fs Hs Pr m (m a) K) (Fs a) (Hs a)):aB.wp C (.loop c) K F H :=
 ⟨α,Fs,Hs,Pr,m,a0,_,_,.step o ho (.refl _ _),h0,hF,hH,hb⟩
@[go_sem] theorem RB (o s:Nat) (rs:List (List PV)) (q:Nat):(H.frz o s rs) q=if q=o then none else (H q).map (cE.frz o s rs):=(rfl)
theorem beS {t u o1 o2 s1 s2 k1 k2:Nat} {rs1 rs2:List (List PV)} {R:PV→PH→Prop} {e:lP} (he:e=.normal∨e=.ret) (hne:o1≠o2) (h1:F t=some (.osl o1 s1 0 k1)) (h2:F u=some (.osl o2 s2 0 k2)) (ho1:H o1=some (.rows s1 rs1)) (ho2:H o2=some (.rows s2 rs2))
  (hk1:k1≤rs1.length) (hk2:k2≤rs2.length) (hp2:rs2.map (fun r=>r.map (PV.dP o1 s1 rs1))=rs2) (hp1:(rs1.take k1)=rs1.take k1) (hR:R (.tup [.sl s1 (rs1.take k1),.sl s2 (rs2.take k2)]) .nil):aR [.tmp t,.tmp u] R e F H:=by
 have key:∃ vs,dW.evs F H [.tmp t,.tmp u]=some vs∧∃ F1 H1 H2,jI (PF.nil.set 0 (bH vs)) H F1 H1∧H2.le H1∧∃ w,F1 0=some w∧R w H2:=by
  have bHN:o2≠o1:=fun h=>hne h.symm
  have e2:(H.frz o1 s1 rs1) o2=some (.rows s2 rs2):=by rw[RB,if_neg bHN,ho2]; simp only[bJS,cE.frz,hp2]
  refine⟨[.osl o1 s1 0 k1,.osl o2 s2 0 k2],by rw[kP,nH,h1,kP,nH,h2,pC],_,_,.nil,.step o1 ho1 (.step o2 e2 (.refl _ _)),PH.nil_le,_,?_,hR⟩
  have a1:0+k1≤rs1.length:=by omega
  have a2:0+k2≤rs2.length:=by omega
  simp only[PF.frz,mJ,if_true,bH,bJS,PV.frz,PV.rK,PV.dP,bKD,bKW,true_and,if_pos a1,if_pos a2,bJR,if_neg bHN]
 rcases he with rfl | rfl<;>exact key
end
end Go.PM
namespace Go.Na
structure nS (U0 V n lu lq:Nat) (k:Nat) (U Q:List Nat):Prop where
 lu':U.length=lu
 lq':Q.length=lq
 limU:Lim U
 limQ:Lim Q
 v:val U+val Q*V=U0
 r:val (U.drop k)<V
 z:∀ i x,i<k→Q[i]?=some x→x=0
theorem azX {U0 V n lu lq j:Nat} {U Q:List Nat} (h:nS U0 V n lu lq (j+1) U Q) (hV:V<4294967296 ^ n) (hj:j<lq) (hl:lu=lq+n) :
  val ((U.drop j).take (n+1))<V*4294967296∧nS U0 V n lu lq j (U.take j++dE (n+1) (val ((U.drop j).take (n+1))%V)++U.drop (j+(n+1))) (Q.set j (val ((U.drop j).take (n+1))/V)):=by
 have hlu:=h.lu'
 have hlq:=h.lq'
 have hVpos:0<V:=by have:=h.r; omega
 have hju:j<U.length:=by omega
 have e1:val (U.drop j)=U[j]+4294967296*val (U.drop (j+1)):=by rw[bKE hju]; rfl
 have hUj:=h.limU _ (bIS hju)
 have hlt:val (U.drop j)<V*4294967296:=by have:=h.r; omega
 have hlW:((U.drop j).take (n+1)).length=n+1:=by rw[bJF,bKQ]; omega
 have e2:val (U.drop j)=val ((U.drop j).take (n+1))+4294967296 ^ (n+1)*val (U.drop (j+(n+1))):=by
  conv=>lhs; rw[← bLB (n+1) (U.drop j),fL,hlW,List.drop_drop]
 have hpow:4294967296 ^ (n+1)=4294967296 ^ n*4294967296:=bKB _ _
 have hVB:V*4294967296≤4294967296 ^ n*4294967296:=bJQ _ (Nat.le_of_lt hV)
 have hZ:val (U.drop (j+(n+1)))=0:=by
  rcases bKN (val (U.drop (j+(n+1)))) with h0 | h0
  ·exact h0
  ·have:=bKO (4294967296 ^ (n+1)) h0
   omega
 rw[hZ,Nat.mul_zero,bKF] at e2
 generalize hW:val ((U.drop j).take (n+1))=W at *
 have e3:val U=val (U.take j)+4294967296 ^ j*W:=by
  conv=>lhs; rw[← bLB j U,fL,bJF,bKJ Om,e2]
 have hmod:W%V<V:=bJX _ hVpos
 have hdm:V*(W/V)+W%V=W:=bLN _ _
 have hqB:W/V<4294967296:=by rw[bLC hVpos,bJM]; omega
 have hD:val (dE (n+1) (W%V))=W%V:=nI Om
 have hQj:Q[j]=0:=h.z j _ Om (bIZ Om)
 have bIF:=EG (Om:j<Q.length) (W/V)
 rw[hQj,Nat.mul_zero,bKF] at bIF
 have bGO:(U.take j).length=j:=by rw[bJF]; omega
 refine⟨by omega,?_,?_,?_,?_,?_,?_,?_⟩
 ·simp only[bIQ,kI,bKQ,bJF]; omega
 ·rw[bKU]; exact hlq
 ·exact ((h.limU.take j).app (lL _ _)).app (h.limU.drop _)
 ·exact h.limQ.set _ hqB
 ·rw[bJO,fL,fL,bGO,hD,kI,hZ,Nat.mul_zero,bKF,bIF]
  have:=h.v
  have h5:(val Q+4294967296 ^ j*(W/V))*V=val Q*V+4294967296 ^ j*(V*(W/V)):=by
   rw[bJP,bJH,bJM (W/V) V]
  have h6:4294967296 ^ j*W=4294967296 ^ j*(V*(W/V))+4294967296 ^ j*(W%V):=by rw[← bJA,hdm]
  omega
 ·rw[bJO,List.drop_append_of_le_length Om,bLT Om,List.nil_append,fL,hD,hZ,Nat.mul_zero,bKF]
  exact hmod
 ·intro i x hi hx
  rw[List.getElem?_set_ne Om] at hx
  exact h.z i x Om hx
end Go.Na
namespace Go.PM
open Go Go.Na
def dI (u v:PV) (n:Nat) (q:PV) (top next s:Nat) (j:Int):PF:=((((((((PF.nil.set 8 (.int .u64 s)).set 9 (u)).set 10 (v)).set 11 (.int .i64 n)).set 12 (q)).set 13 (.int .u64 top)).set 14 (.int .u64 next)).set 15 (.int .i64 j))
theorem qO (o s:Nat) (rs:List (List PV)) (L:List Nat):(aK L).map (fun r=>r.map (PV.dP o s rs))=aK L:=by
 unfold aK
 rw[List.map_map]
 rfl
theorem aHA {C:Ctx} (D:axI C) (U0 m lu lq o o2 oq s:Nat) (v vfull:List Nat) (h2:o2≠o) (h3:oq≠o) (h4:oq≠o2) (hv:Lim v) (hlv:v.length=m+2) (hvf:(aK vfull).take (m+2)=aK v) (hvl:m+2≤vfull.length) (ht:2147483648≤v[m+1])
  (hlu:lu=lq+(m+2)) (bID:lu≤10000) (U:List Nat) (hI:nS U0 (val v) (m+2) lu lq lq U (bIP lq 0)) (K:bX) (F:PF) (H:PH)
  (hF:(dI (.osl o 1 0 lu) (.osl o2 1 0 (m+2)) (m+2) (.osl oq 1 0 lq) (v[m+1]) (v[m]) s ((lq:Int)-1)).le F) (hH:H o=some (.rows 1 (aK U))) (hHv:H o2=some (.rows 1 (aK vfull))) (hHq:H oq=some (.rows 1 (aK (bIP lq 0))))
  (hK:∀ U' Q' F',nS U0 (val v) (m+2) lu lq 0 U' Q'→(dI (.osl o 1 0 lu) (aI v) (m+2) (.osl oq 1 0 lq) (v[m+1]) (v[m]) s (-1)).le F'→K .normal F' ((PH.nil.set o (.rows 1 (aK U'))).set oq (.rows 1 (aK Q')))) :
  aB.wp C (.block 2 (.loop BB)) K F H:=by
 have f8:=hF 8 _ (by unfold dI; simp only[go_sem,γ]; rfl)
 have f9:=hF 9 _ (by unfold dI; simp only[go_sem,γ]; rfl)
 have f10:=hF 10 _ (by unfold dI; simp only[go_sem,γ]; rfl)
 have f11:=hF 11 _ (by unfold dI; simp only[go_sem,γ]; rfl)
 have f12:=hF 12 _ (by unfold dI; simp only[go_sem,γ]; rfl)
 have f13:=hF 13 _ (by unfold dI; simp only[go_sem,γ]; rfl)
 have f14:=hF 14 _ (by unfold dI; simp only[go_sem,γ]; rfl)
 have f15:=hF 15 _ (by unfold dI; simp only[go_sem,γ]; rfl)
 have hne2:¬ o=o2:=fun h=>h2 h.symm
 have hne4:¬ oq=o2:=h4
 have hne3:¬ o=oq:=fun h=>h3 h.symm
 have hfi:∀ (k:IntKind) (n:Int),PV.frz o2 1 (aK vfull) (.int k n)=.int k n:=fun _ _=>rfl
 have hfu:∀ l,PV.frz o2 1 (aK vfull) (.osl o 1 0 l)=.osl o 1 0 l:=fun l=>by simp only[PV.frz,PV.rK,PV.dP,if_neg hne2]
 have hfq:∀ l,PV.frz o2 1 (aK vfull) (.osl oq 1 0 l)=.osl oq 1 0 l:=fun l=>by simp only[PV.frz,PV.rK,PV.dP,if_neg hne4]
 have hfv:PV.frz o2 1 (aK vfull) (.osl o2 1 0 (m+2))=aI v:=by
  have:0+(m+2)≤(aK vfull).length:=by rw[bT]; omega
  simp only[PV.frz,PV.rK,PV.dP,if_true,true_and,if_pos this,bJR,hvf]
 simp only[go_sem]
 refine aSI (α:=Nat × List Nat × List Nat) (fun t=>dI (.osl o 1 0 lu) (aI v) (m+2) (.osl oq 1 0 lq) (v[m+1]) (v[m]) s ((t.1:Int)-1)) (fun t=>(PH.nil.set o (.rows 1 (aK t.2.1))).set oq (.rows 1 (aK t.2.2)))
  (fun t=>t.1≤lq∧nS U0 (val v) (m+2) lu lq t.1 t.2.1 t.2.2) (fun t=>t.1) (lq,U,bIP lq 0) o2 hHv ⟨bIU _,hI⟩ ?_ ?_ ?_
 ·unfold dI
  refine PF.aF (PF.aF (PF.aF (PF.aF (PF.aF (PF.aF (PF.aF (PF.aF PF.nil_le ?_) ?_) ?_) ?_) ?_) ?_) ?_) ?_<;>simp only[go_sem,f8,f9,f10,f11,f12,f13,f14,f15,hfi,hfu,hfq,hfv]
 ·refine PH.aF (PH.aF PH.nil_le ?_) ?_
  ·simp only[go_sem,hne2,hH,cE.frz,qO]
  ·simp only[go_sem,hne4,hHq,cE.frz,qO]
 rintro⟨k,U,Q⟩ ⟨hk,hI⟩
 simp only at hk hI
 simp only[go_sem,γ,BB,SU,dI]
 by_cases h0:0<k
 ·obtain⟨j,rfl⟩:∃ j,k=j+1:=⟨k-1,by omega⟩
  have hz:((j+1:Nat):Int)-1=(j:Int):=by omega
  have hge:(j:Int)≥0:=by omega
  have hVlt:val v<4294967296 ^ (m+2):=by have:=eM hv; rw[hlv] at this; exact this
  obtain⟨hlt,hI'⟩:=azX hI hVlt Om hlu
  have hUl:=hI.lu'
  have hQl:=hI.lq'
  have hA:(U.take j).length=j:=by rw[bJF]; omega
  have hWl:((U.drop j).take (m+3)).length=m+3:=by rw[bJF,bKQ]; omega
  have hsplit:U.take j++(U.drop j).take (m+3)++U.drop (j+(m+3))=U:=by
   rw[bJO,← List.drop_drop,bLB,bLB]
  have hZl:(U.drop (j+(m+3))).length=lu-(j+(m+3)):=by rw[bKQ,hUl]
  have key:=awY (C:=C) D (U.take j) ((U.drop j).take (m+3)) (U.drop (j+(m+3))) v Q m o oq lu s h3 ((hI.limU.drop _).take _) hv hlv hWl ht hlt (by rw[hA,hZl]; omega) bID (by rw[hA]; omega)
  rw[hA,hsplit,hQl] at key
  have e15:IntKind.i64.wrap ((j:Int)-1)=(j:Int)-1:=wrap_i64 Om Om
  simp only[go_sem,hz,hge]
  simp only[go_sem] at key
  refine key _ _ _ ?_ (by simp only[go_sem,hne3]) Sq ?_
  ·unfold dF
   exact Lq
  ·intro F' H' hF' hH' hHq'
   have g8:=hF' 8 _ (by unfold dF; simp only[go_sem,γ]; rfl)
   have g9:=hF' 9 _ (by unfold dF; simp only[go_sem,γ]; rfl)
   have g10:=hF' 10 _ (by unfold dF; simp only[go_sem,γ]; rfl)
   have g11:=hF' 11 _ (by unfold dF; simp only[go_sem,γ]; rfl)
   have g12:=hF' 12 _ (by unfold dF; simp only[go_sem,γ]; rfl)
   have g13:=hF' 13 _ (by unfold dF; simp only[go_sem,γ]; rfl)
   have g14:=hF' 14 _ (by unfold dF; simp only[go_sem,γ]; rfl)
   have g15:=hF' 15 _ (by unfold dF; simp only[go_sem,γ]; rfl)
   simp only[go_sem,γ,SW,g15,e15]
   refine aC (j,_,_) ⟨by simp only; omega,hI'⟩ (by simp only; omega) ?_ (PH.aF (PH.aF PH.nil_le hH') hHq')
   refine PF.aF (PF.aF (PF.aF (PF.aF (PF.aF (PF.aF (PF.aF (PF.aF PF.nil_le ?_) ?_) ?_) ?_) ?_) ?_) ?_) ?_<;>simp only[go_sem,γ,g8,g9,g10,g11,g12,g13,g14]
 ·have:k=0:=by omega
  subst this
  have hz:¬ ((0:Nat):Int)-1≥0:=by decide
  simp only[go_sem,hz]
  refine hK U Q _ hI ?_
  unfold dI
  (repeat' (first|exact PF.nil_le|refine PF.aF ?_ ?_))<;>first|(simp only[go_sem,ο,γ,show ((0:Nat):Int)-1=-1 from rfl]<;>rfl)|rfl
open Go Go.Na
def rFr (o lu oq lq or n s i:Nat):PF:=((((((PF.nil.set 8 (.int .u64 s)).set 9 (.osl o 1 0 lu)).set 12 (.osl oq 1 0 lq)).set 19 (.osl or 1 0 n)).set 166 (.int .i64 n)).set 167 (.int .i64 i))
theorem bwR {x s:Nat} (hs:s≤64):shift .shr .u64 (x:Int) (s:Int)=some (.int .u64 ((x/2 ^ s:Nat):Int)):=by
 unfold shift
 rw[if_neg Om]
 simp only
 have:min (Int.toNat (s:Int)) IntKind.u64.bits=s:=by
  rw[show IntKind.u64.bits=64 from rfl]; omega
 rw[this,Int.fdiv_eq_ediv_of_nonneg _ (by exact_mod_cast bIT _)]
 norm_cast
theorem aHB {C:Ctx} (o lu oq lq n s:Nat) (U Q:List Nat) (hs:s<32) (h3:oq≠o) (hU:Lim U) (hl:U.length=lu) (hn:n<lu) (bID:lu≤10000) (K:bX) (F:PF)
  (f8:F 8=some (.int .u64 s)) (f9:F 9=some (.osl o 1 0 lu)) (f11:F 11=some (.int .i64 n)) (f12:F 12=some (.osl oq 1 0 lq))
  (hK:∀ or F' H',or≠o→or≠oq→(rFr o lu oq lq or n s n).le F'→H' oq=some (.rows 1 (aK Q))→H' or=some (.rows 1 (aK (dE n (val U/2 ^ s))))→K .normal F' H') :
  aB.wp C (.seq (.region BL) (.seq (.region BM) (.block 6 (.loop BC)))) K F ((PH.nil.set o (.rows 1 (aK U))).set oq (.rows 1 (aK Q))):=by
 have hm1:((n:Nat):Int)*((4:Nat):Int)≤140737488355328:=by omega
 have hm2:((n:Nat):Int)≤9223372036854775807:=by omega
 have hz:bIP n [PV.int .u32 0]=aK ([]++bIP n 0):=by
  simp[aK]
 simp only[go_sem,BL,f11,hm1,hm2,hz]
 refine aO fun or hor=>?_
 have n1:¬ or=oq:=(gT.1 hor).1
 have n2:¬ or=o:=(gT.1 (gT.1 hor).2).1
 have n1':¬ oq=or:=fun h=>n1 h.symm
 have n2':¬ o=or:=fun h=>n2 h.symm
 have n3:¬ oq=o:=h3
 have n3':¬ o=oq:=fun h=>n3 h.symm
 simp only[go_sem,γ,BM]
 refine wp_loop (α:=List Nat) (fun P=>rFr o lu oq lq or n s P.length) (fun P=>((PH.nil.set o (.rows 1 (aK U))).set oq (.rows 1 (aK Q))).set or (.rows 1 (aK (P++bIP (n-P.length) 0)))) (fun P=>P.length≤n∧P=dE P.length (val U/2 ^ s)) (fun P=>n-P.length) []
  ⟨by simp,rfl⟩ ?_ ?_ ?_
 ·unfold rFr
  exact Lq
 ·refine PH.aF (PH.aF (PH.aF PH.nil_le ?_) ?_) ?_<;>simp only[go_sem,n1,n1',n2,n2',n3,n3',bLA]
 rintro P ⟨hP,hD⟩
 simp only[go_sem,γ,BC,SX,rFr]
 by_cases c1:P.length<n
 ·have c1':(P.length:Int)<(n:Nat):=by omega
  obtain⟨k,hk⟩:∃ k,n-P.length=k+1:=⟨n-P.length-1,by omega⟩
  have hin:(aK (P++bIP (k+1) 0))[P.length]?=some [.int .u32 ((0:Nat):Int)]:=by
   rw[bN _ (by simp)]; simp
  have a0:P.length<U.length:=by omega
  have a1:P.length+1<U.length:=by omega
  have b0:(P.length:Int)<(lu:Nat):=by omega
  have b1:((P.length+1:Nat):Int)<(lu:Nat):=by omega
  have hu0:=hU _ (bIS a0)
  have hu1:=hU _ (bIS a1)
  have e:val U/4294967296 ^ P.length=U[P.length]+4294967296*(U[P.length+1]+4294967296*val (U.drop (P.length+2))):=by
   rw[← tI hU Om,bKE a0,bKE a1]
   rfl
  have hdig:=TV hs e
  have g0:=bN U a0
  have g1:=bN U a1
  generalize hx0:U[P.length]=u0 at *
  generalize hx1:U[P.length+1]=u1 at *
  have e1:IntKind.i64.wrap ((P.length:Int)+1)=((P.length+1:Nat):Int):=cS Om
  have eu0:IntKind.u64.wrap ((u0:Nat):Int)=((u0:Nat):Int):=bE Om
  have eu1:IntKind.u64.wrap ((u1:Nat):Int)=((u1:Nat):Int):=bE Om
  have esh:shift .shl .u64 (u1:Int) 32=some (.int .u64 ((2 ^ 32*u1:Nat):Int)):=HV (s:=32) Om Om
  have e32:(2:Nat) ^ 32=4294967296:=by decide
  have eor:=orI (a:=2 ^ 32*u1) (b:=u0) (n:=2 ^ 32*u1+u0) Om Om (Nat.two_pow_add_eq_or_of_lt Om u1).symm Om
  rw[e32] at esh eor
  have eshr:=bwR (x:=4294967296*u1+u0) (s:=s) Om
  have bGV:(aK (P++bIP (k+1) 0)).set P.length [.int .u32 (((4294967296*u1+u0)/2 ^ s%4294967296:Nat):Int)]=aK ((P++[(4294967296*u1+u0)/2 ^ s%4294967296])++bIP k 0):=by
   rw[eX,xE]
  simp only[go_sem,γ,c1',SY]
  refine bK .nil dC PH.nil_le ?_
  simp only[go_sem,γ,reduceCtorEq,SZ,c1',e1,b0,b1,n2',n3',g0,g1,eu0,eu1,esh,eor,eshr,cA,hk,hin,bGV]
  refine⟨PH.nil_le,?_⟩
  simp only[go_sem,γ,TA,e1]
  refine aC (P++[(4294967296*u1+u0)/2 ^ s%4294967296]) ⟨by simp; omega,?_⟩ (by simp; omega) ?_ (PH.aF (PH.aF (PH.aF PH.nil_le ?_) ?_) ?_)
  ·rw[bIQ,bIX,uD,← hD,hdig]
  ·rw[bIQ,bIX]
   exact Lq
  ·simp only[go_sem,n2',n3']
  ·simp only[go_sem,n1']
  ·rw[bIQ,bIX,show n-(P.length+1)=k by omega]
   simp only[go_sem]
 ·have e:P.length=n:=by omega
  have c1':¬ (P.length:Int)<(n:Nat):=by omega
  have bIH:bIP (n-P.length) 0=[]:=by rw[show n-P.length=0 by omega]; rfl
  rw[e] at hD
  simp only[go_sem,c1',bIH,bJZ]
  refine hK or _ _ n2 n1 ?_ (by simp only[go_sem,n1']) (by simp only[go_sem]; rw[← hD])
  unfold rFr
  rw[e]
  exact Lq
structure azC (C:Ctx):Prop where
 L:pQ C
 D:axI C
 up:∀ (a:List Nat) (s:Nat),Lim a→s<32→a.length≤1000→aH C 143 [aI a,.int .u64 s] .nil (upR a s)
 short:∀ (a:List Nat) (d:Nat),Lim a→0<d→d<4294967296→a.length≤1000→aH C 140 [aI a,.int .u32 d] .nil (aD (.tup [aI (aG (val a/d)),.int .u32 ((val a%d:Nat):Int)]))
 lengthO:∀ (xs:List Nat) (o:Nat),Lim xs→xs.length≤35184372087808→aH C 138 [.osl o 1 0 xs.length] (PH.nil.set o (.rows 1 (aK xs))) (fun r H'=>r=.int .i64 (nl (val xs):Nat)∧H'=PH.nil.set o (.rows 1 (aK xs)))
def biZ:Spec:=fun name vs=>match name,vs with
 | 143,[x,.int _ s]=>some ([],fun _=>upR (iD x) s.toNat)
 | 138,[.osl q _ _ _]=>some ([q],fun H0 r H'=>H'=H0∧∀ xs,Lim xs→H0 q=some (.rows 1 (aK xs))→r=.int .i64 (nl (val xs):Nat))
 | _,_=>none
theorem aSS (a:List Nat) (s:Nat):biZ 143 [aI a,.int .u64 s]=some ([],fun _=>upR a s):=by
 show some _=_; rw[dU,Int.toNat_natCast]
theorem aND (a:List Nat) (s:Nat):∀ G:PH,∃ r H',upR a s r H'∧mM G .nil H':=fun G=>by
 obtain⟨o,ho⟩:=G.fresh
 refine⟨_,_,⟨o,rfl,rfl⟩,fun q x hx _=>?_⟩
 rw[bA] at hx
 split at hx
 ·rename_i e; subst e; exact ho
 ·cases hx
theorem ND {xs ys:List Nat} (h:aK xs=aK ys):xs=ys:=by
 have:=congrArg iD (show aI xs=aI ys by show PV.sl 1 (aK xs)=PV.sl 1 (aK ys); rw[h])
 rwa [dU,dU] at this
theorem apX (q:Nat) (L:List Nat):(PH.nil.set q (.rows 1 (aK L)))=(PH.nil.set q (.rows 1 (aK L)))∧∀ xs,Lim xs→(PH.nil.set q (.rows 1 (aK L))) q=some (.rows 1 (aK xs))→(PV.int .i64 (nl (val L):Nat))=.int .i64 (nl (val xs):Nat):=by
 refine⟨rfl,fun xs hx e=>?_⟩
 rw[jD] at e
 have:aK L=aK xs:=(cE.rows.inj (bKT.inj e)).2
 rw[ND this]
def pH (A B:Nat):PV:=.tup [aI (aG (A/B)),aI (aG (A%B))]
def a6W (a b:List Nat) (s:Nat):PF:=(((PF.nil.set 0 (aI a)).set 1 (aI b)).set 8 (.int .u64 s))
theorem btL {x s:Nat} (hs:s≤31) (h:x*2 ^ s<4294967296):shift .shl .u32 (x:Int) (s:Int)=some (.int .u32 ((x*2 ^ s:Nat):Int)):=by
 unfold shift
 rw[if_neg Om]
 simp only
 have:min (Int.toNat (s:Int)) IntKind.u32.bits=s:=by
  rw[show IntKind.u32.bits=32 from rfl]; omega
 rw[this,show (x:Int)*2 ^ s=((x*2 ^ s:Nat):Int) by simp,cA,bJT h]
theorem aOP {n i x:Nat} (hx:(bIP n 0)[i]?=some x):x=0:=by
 have:=bKX hx
 rw[List.mem_replicate] at this
 exact this.2
theorem a6Y {C:Ctx} (Lb:azC C) (A B:Nat) (hB:B≠0) (hA:nl A≤900) (hBl:nl B≤900) :
  yA.wp C (aR RI.res (bP (pH A B))) (PF.args [aI (aG A),aI (aG B)]) .nil:=by
 have LA:=aU A
 have LB:=aU B
 have vA:=aQ A
 have vB:=aQ B
 have lA:(aG A).length=nl A:=rfl
 have lB:(aG B).length=nl B:=rfl
 simp only[go_sem,γ,reduceCtorEq,yA,acX,acY,RI]
 refine aA (Lb.L.cmp _ _ LA LB Om Om) rfl ?_
 rw[vA,vB]
 by_cases c1:A<B
 ·have hc:cY A B<0:=by simp[cY,c1]
  simp only[go_sem,γ,reduceCtorEq,hc,acZ]
  refine aA (Lb.L.trim _ LA Om) rfl ?_
  rw[vA]
  simp only[go_sem,γ]
  refine aV (vs:=[.bGI,aI (aG A)]) (.inr rfl) .nil rfl PH.nil_le ⟨?_,rfl⟩
  rw[pH,bLO c1,bJT c1,fA]
  refine .tup rfl fun j p q hp hq=>?_
  match j with
  | 0=>simp at hp hq; subst hp; subst hq; exact .nil 1
  | 1=>simp at hp hq; subst hp; subst hq; exact .refl _
  | j+2=>simp at hp
 have hc:¬ cY A B<0:=by
  unfold cY
  rw[if_neg c1]
  split<;>decide
 have hB0:0<B:=bKP hB
 have hnB:nl B≠0:=fun h=>hB (gJ.1 h)
 simp only[go_sem,γ,hc,adA]
 by_cases c2:nl B=1
 ·have hBB:B<4294967296:=by have:=(jE B 1).1 Om; simpa using this
  have hlb:aG B=[B]:=nE hB hBB
  have hr:A%B<B:=bJX _ hB0
  have ew:IntKind.u64.wrap ((A%B:Nat):Int)=((A%B:Nat):Int):=bE Om
  rw[hlb]
  have hsh:=Lb.short (aG A) B LA hB0 hBB Om
  rw[vA] at hsh
  simp only[go_sem,ν,γ,reduceCtorEq,show (((1:Nat):Int)==1)=true from rfl,adB]
  refine aA hsh rfl ?_
  simp only[go_sem,γ,adC,ew]
  refine aA (Lb.L.make (A%B) Om) rfl ?_
  simp only[go_sem,γ]
  exact aV (vs:=[aI (aG (A/B)),aI (aG (A%B))]) (.inr rfl) .nil rfl PH.nil_le ⟨.refl _,rfl⟩
 obtain⟨m,hm⟩:∃ m,nl B=m+2:=⟨nl B-2,by omega⟩
 have hAB:nl B≤nl A:=fF Om
 obtain⟨bt,hbt,hbt0⟩:=aKX LB (n:=m+1) (by rw[vB]; exact hm)
 have hml:m+1<(aG B).length:=by omega
 have hbtl:bt<4294967296:=LB bt (bKX hbt)
 have hBv:B=val ((aG B).take (m+1))+4294967296 ^ (m+1)*bt:=by
  have h1:=bW (aG B) hml
  rw[bJD Om,vB] at h1
  rw[bIZ hml] at hbt
  rw[bKT.inj hbt] at h1
  exact h1
 have hBlow:=eM (LB.take (m+1))
 rw[bJF,bKJ Om] at hBlow
 have bGV:(aK (aG B))[m+1]?=some [.int .u32 ((bt:Nat):Int)]:=by
  rw[bN _ hml]
  rw[bIZ hml] at hbt
  rw[bKT.inj hbt]
 have i1:IntKind.i64.wrap ((((aG B).length:Nat):Int)-1)=((m+1:Nat):Int):=by rw[wrap_i64 Om Om]; omega
 have hne1:¬ (((aG B).length:Nat):Int)=1:=by omega
 simp only[go_sem,bF hne1,adD]
 refine wp_loop (α:=Nat) (fun s=>a6W (aG A) (aG B) s) (fun _=>.nil) (fun s=>s≤31∧bt*2 ^ s<4294967296) (fun s=>32-s) 0 ⟨by omega,by simpa using hbtl⟩ ?_ PH.nil_le ?_
 ·unfold a6W
  exact Lq
 rintro s ⟨hs,hbs⟩
 have esh:=btL hs hbs
 simp only[go_sem,γ,reduceCtorEq,acW,adE,a6W,i1,bGV,esh]
 refine biU ?_ ?_
 ·intro c3
  have c3':=of_decide_eq_true c3
  have hs30:s<31:=by
   rcases bJG s 31 with h | h
   ·exact h
   ·exfalso
    have h1:2147483648≤2 ^ s:=Nat.pow_le_pow_right (show 0<2 by decide) h
    have h2:1*2 ^ s≤bt*2 ^ s:=bJQ _ Om
    omega
  have es:IntKind.u64.wrap ((s:Int)+1)=((s+1:Nat):Int):=by rw[wrap_u64 Om Om]; omega
  simp only[go_sem,γ,reduceCtorEq,adF,es]
  refine aC (s+1) ⟨by omega,by rw[bKB,← bJH]; omega⟩ Om ?_ PH.nil_le
  exact Lq
 intro c3
 have c3':=of_decide_eq_false c3
 have hs32:s<32:=by omega
 have hp2:0<2 ^ s:=bKY (by decide)
 have hVlo:2147483648*4294967296 ^ (m+1)≤B*2 ^ s:=by
  have h1:2147483648*4294967296 ^ (m+1)≤(bt*2 ^ s)*4294967296 ^ (m+1):=bJQ _ Om
  have h2:(4294967296 ^ (m+1)*bt)*2 ^ s≤B*2 ^ s:=bJQ _ Om
  have h3:(4294967296 ^ (m+1)*bt)*2 ^ s=(bt*2 ^ s)*4294967296 ^ (m+1):=by rw[bJH,bJM]
  omega
 have hVhi:B*2 ^ s<4294967296 ^ (m+2):=by
  have h0:(bt+1)*2 ^ s≤4294967296:=by
   have e32:(4294967296:Nat)=2 ^ (32-s)*2 ^ s:=by rw[← Nat.pow_add,show 32-s+s=32 by omega]
   have:bt<2 ^ (32-s):=by
    rcases bJG bt (2 ^ (32-s)) with h | h
    ·exact h
    ·have:=bJQ (2 ^ s) h
     omega
   have:=bJQ (2 ^ s) (show bt+1≤2 ^ (32-s) from this)
   omega
  have h1:B<(bt+1)*4294967296 ^ (m+1):=by rw[bJP,Nat.one_mul,bJM bt]; omega
  have h2:B*2 ^ s<(bt+1)*4294967296 ^ (m+1)*2 ^ s:=Nat.mul_lt_mul_of_pos_right h1 hp2
  have h3:(bt+1)*4294967296 ^ (m+1)*2 ^ s=(bt+1)*2 ^ s*4294967296 ^ (m+1):=Nat.mul_right_comm _ _ _
  have h4:(bt+1)*2 ^ s*4294967296 ^ (m+1)≤4294967296*4294967296 ^ (m+1):=bJQ _ h0
  have h5:4294967296 ^ (m+2)=4294967296*4294967296 ^ (m+1):=by rw[bKB,bJM]
  omega
 have hAlt:A<4294967296 ^ nl A:=(jE A _).1 (bIU _)
 simp only[go_sem]
 refine bK .nil biZ PH.nil_le ?_
 simp only[go_sem,γ,reduceCtorEq,SP]
 have ua:=Lb.up (aG A) s LA hs32 Om
 have ub:=Lb.up (aG B) s LB hs32 Om
 refine aSR (aSS (aG A) s) ua rfl (aND _ _) ?_
 rintro r H' ⟨o,rfl,rfl⟩ -
 rw[PH.oJ,lA,vA]
 refine⟨PH.nil_le,?_⟩
 simp only[go_sem,γ,reduceCtorEq]
 refine aSR (aSS (aG B) s) ub rfl (aND _ _) ?_
 rintro r H' ⟨o2,rfl,rfl⟩ hap
 rw[PH.oJ,lB,vB,hm]
 refine⟨PH.nil_le,?_⟩
 have hfr:=hap o2 _ (by rw[bA,if_pos rfl]) (by rfl)
 have n21:¬ o2=o:=(gT.1 hfr).1
 have n12:¬ o=o2:=fun h=>n21 h.symm
 have k1:((m+2:Nat):Int)≤((m+2+1:Nat):Int):=by omega
 have k2:IntKind.i64.wrap (((nl A+1:Nat):Int)-((m+2:Nat):Int))=((nl A+1-(m+2):Nat):Int):=by rw[wrap_i64 Om Om]; omega
 obtain⟨lq,hlq⟩:∃ lq,nl A+1-(m+2)=lq:=⟨_,rfl⟩
 have hlu:nl A+1=lq+(m+2):=by omega
 rw[hlq] at k2
 have k3:((lq:Nat):Int)*((4:Nat):Int)≤140737488355328:=by omega
 have k4:((lq:Nat):Int)≤9223372036854775807:=by omega
 have hz:bIP lq [PV.int .u32 0]=aK (bIP lq 0):=by simp[aK]
 have k5:m+2-0=m+2:=by omega
 simp only[go_sem,ν,γ,reduceCtorEq,lB,hm,k1,k5,SQ,SR,k2,k3,k4,hz]
 refine aO fun oq hoq=>?_
 have q2:¬ oq=o2:=(gT.1 hoq).1
 have q1:¬ oq=o:=(gT.1 (gT.1 hoq).2).1
 have q2':¬ o2=oq:=fun h=>q2 h.symm
 have q1':¬ o=oq:=fun h=>q1 h.symm
 have hsn:dE (m+2+1) (B*2 ^ s)=dE (m+2) (B*2 ^ s)++[B*2 ^ s/4294967296 ^ (m+2)%4294967296]:=uD _ _
 have Lv:=lL (m+2) (B*2 ^ s)
 have lv:=kI (m+2) (B*2 ^ s)
 have vv:val (dE (m+2) (B*2 ^ s))=B*2 ^ s:=nI hVhi
 have hvf:(aK (dE (m+2+1) (B*2 ^ s))).take (m+2)=aK (dE (m+2) (B*2 ^ s)):=by
  unfold aK
  rw[← List.map_take,hsn,List.take_append_of_le_length Om,bJD Om]
 generalize hvv:dE (m+2) (B*2 ^ s)=v at *
 have lvf:(dE (m+2+1) (B*2 ^ s)).length=m+2+1:=kI _ _
 have gtop:∀ i (h:i<v.length),(aK (dE (m+2+1) (B*2 ^ s)))[i]?=some [.int .u32 ((v[i]:Nat):Int)]:=by
  intro i h
  have h1:(aK v)[i]?=some [.int .u32 ((v[i]:Nat):Int)]:=bN v h
  rw[← hvf,List.getElem?_take_of_lt Om] at h1
  exact h1
 have g1:=gtop (m+1) Om
 have g0:=gtop m Om
 have htop:2147483648≤v[m+1]:=by
  have h1:=bW v (Om:m+1<v.length)
  rw[bJD Om,vv] at h1
  have h2:=eM (Lv.take (m+1))
  rw[bJF,bKJ Om] at h2
  rcases bJG v[m+1] 2147483648 with h | h
  ·exfalso
   have h3:4294967296 ^ (m+1)*(v[m+1]+1)≤4294967296 ^ (m+1)*2147483648:=bKO _ h
   rw[bJA,Nat.mul_one] at h3
   rw[bJM 2147483648] at hVlo
   omega
  ·exact h
 have ht1:=Lv _ (bIS (Om:m+1<v.length))
 have ht0:=Lv _ (bIS (Om:m<v.length))
 have w1:IntKind.u64.wrap ((v[m+1]:Nat):Int)=((v[m+1]:Nat):Int):=bE Om
 have w0:IntKind.u64.wrap ((v[m]:Nat):Int)=((v[m]:Nat):Int):=bE Om
 have j1:IntKind.i64.wrap (((m+2:Nat):Int)-1)=((m+1:Nat):Int):=by rw[wrap_i64 Om Om]; omega
 have j0:IntKind.i64.wrap (((m+2:Nat):Int)-2)=((m:Nat):Int):=by rw[wrap_i64 Om Om]; omega
 have d1:((m+1:Nat):Int)<((m+2:Nat):Int):=by omega
 have d0:((m:Nat):Int)<((m+2:Nat):Int):=by omega
 have jq:IntKind.i64.wrap ((lq:Int)-1)=(lq:Int)-1:=wrap_i64 Om Om
 simp only[go_sem,γ,reduceCtorEq]
 refine bK .nil dC PH.nil_le ?_
 simp only[go_sem,γ,reduceCtorEq,SS,j1,j0,d1,d0,q2',g1,g0,w1,w0,ST,jq]
 have hUlt:A*2 ^ s<4294967296 ^ (nl A+1):=by
  have h0:2 ^ s≤4294967296:=by
   have:(2:Nat) ^ s≤2 ^ 32:=Nat.pow_le_pow_right (by decide) Om
   simpa using this
  have h1:A*2 ^ s<4294967296 ^ nl A*2 ^ s:=Nat.mul_lt_mul_of_pos_right hAlt hp2
  have h2:4294967296 ^ nl A*2 ^ s≤4294967296 ^ nl A*4294967296:=bKO _ h0
  rw[bKB]; omega
 have LU:=lL (nl A+1) (A*2 ^ s)
 have lU:=kI (nl A+1) (A*2 ^ s)
 have vU:val (dE (nl A+1) (A*2 ^ s))=A*2 ^ s:=nI hUlt
 have hI:nS (A*2 ^ s) (val v) (m+2) (nl A+1) lq lq (dE (nl A+1) (A*2 ^ s)) (bIP lq 0):=by
  refine⟨lU,List.length_replicate,LU,uH _,by rw[vU,qY]; omega,?_,fun i x _ hx=>aOP hx⟩
  ·rw[tI LU Om,vU,vv,bLC (bKY (by decide))]
   have h1:A*2 ^ s<4294967296 ^ nl A*2 ^ s:=Nat.mul_lt_mul_of_pos_right hAlt hp2
   have hx:nl A=m+1+lq:=by omega
   have h2:4294967296 ^ nl A=4294967296 ^ (m+1)*4294967296 ^ lq:=by rw[hx,Nat.pow_add]
   have h3:2 ^ s≤2147483648:=by
    have:(2:Nat) ^ s≤2 ^ 31:=Nat.pow_le_pow_right (by decide) hs
    simpa using this
   have h4:4294967296 ^ nl A*2 ^ s≤(2147483648*4294967296 ^ (m+1))*4294967296 ^ lq:=by
    rw[h2,bJM (4294967296 ^ (m+1)*4294967296 ^ lq),← bJH]
    exact bJQ _ (bJQ _ h3)
   have h5:(2147483648*4294967296 ^ (m+1))*4294967296 ^ lq≤B*2 ^ s*4294967296 ^ lq:=bJQ _ hVlo
   omega
 have key:=aHA (C:=C) Lb.D (A*2 ^ s) m (nl A+1) lq o o2 oq s v (dE (m+2+1) (B*2 ^ s)) n21 q1 q2 Lv lv hvf Om htop hlu Om _ hI
 simp only[go_sem,ο] at key
 refine key _ _ _ ?_ (by simp only[go_sem,n12,q1']) (by simp only[go_sem,q2']) Sq ?_
 ·unfold dI
  exact Lq
 clear key
 intro U' Q' F' hI' hF'
 have hu:val U'<val v:=by have:=hI'.r; rwa [bJR] at this
 have hv':=hI'.v
 rw[vv] at hu hv'
 have hVp:0<B*2 ^ s:=by omega
 have hQv:val Q'=A/B:=by
  have:A*2 ^ s/(B*2 ^ s)=val Q':=by
   rw[← hv',Nat.add_mul_div_right _ _ hVp,bLO hu,bJJ]
  rw[← this,Nat.mul_div_mul_right _ _ hp2]
 have hUv:val U'/2 ^ s=A%B:=by
  have:A*2 ^ s%(B*2 ^ s)=val U':=by rw[← hv',Nat.add_mul_mod_self_right,bJT hu]
  rw[← this,Nat.mul_mod_mul_right,Nat.mul_div_cancel _ hp2]
 have g8:=hF' 8 _ (by unfold dI; simp only[go_sem,ο,γ]; rfl)
 have g9:=hF' 9 _ (by unfold dI; simp only[go_sem,ο,γ]; rfl)
 have g11:=hF' 11 _ (by unfold dI; simp only[go_sem,ο,γ]; rfl)
 have g12:=hF' 12 _ (by unfold dI; simp only[go_sem,ο,γ]; rfl)
 have rest:=aHB (C:=C) o (nl A+1) oq lq (m+2) s U' Q' hs32 q1 hI'.limU hI'.lu' Om Om
 simp only[go_sem] at rest
 simp only[go_sem]
 refine rest _ _ g8 g9 g11 g12 ?_
 clear rest
 intro or F2 H2 r1 r2 hF2 hQ2 hR2
 rw[hUv] at hR2
 have k12:=hF2 12 _ (by unfold rFr; simp only[go_sem,γ]; rfl)
 have k19:=hF2 19 _ (by unfold rFr; simp only[go_sem,γ]; rfl)
 have hRlt:A%B<4294967296 ^ (m+2):=by
  have h1:A%B<B:=bJX _ hB0
  have h2:B<4294967296 ^ nl B:=(jE B _).1 (bIU _)
  rw[hm] at h2; omega
 have LR:=lL (m+2) (A%B)
 have lR:=kI (m+2) (A%B)
 have vR:val (dE (m+2) (A%B))=A%B:=nI hRlt
 have nQ:=eW hI'.limQ
 have nR:=eW LR
 have e1:=hI'.lq'
 generalize hRR:dE (m+2) (A%B)=R at *
 simp only[go_sem]
 refine bK .nil biZ PH.nil_le ?_
 simp only[go_sem,γ,TB,k12]
 have LOq:=Lb.lengthO Q' oq hI'.limQ Om
 rw[e1] at LOq
 have LOr:=Lb.lengthO R or LR Om
 rw[lR] at LOr
 refine VA (o:=oq) (x:=.rows 1 (aK Q')) (v:=.int .i64 (nl (val Q'):Nat)) rfl hQ2 LOq (apX oq Q') (fun r H' hr=>⟨hr.2 Q' hI'.limQ (by rw[jD]),hr.1⟩) rfl PH.nil_le ?_
 have c4:((nl (val Q'):Nat):Int)≤(lq:Nat):=by omega
 simp only[go_sem,ν,γ,reduceCtorEq,c4,k19,Nat.sub_zero]
 refine VA (o:=or) (x:=.rows 1 (aK R)) (v:=.int .i64 (nl (val R):Nat)) rfl hR2 LOr (apX or R) (fun r H' hr=>⟨hr.2 R LR (by rw[jD]),hr.1⟩) rfl PH.nil_le ?_
 have c5:((nl (val R):Nat):Int)≤((m+2:Nat):Int):=by omega
 simp only[go_sem,ν,γ,reduceCtorEq,c5]
 refine beS (o1:=oq) (o2:=or) (s1:=1) (s2:=1) (k1:=nl (val Q')) (k2:=nl (val R)) (rs1:=aK Q') (rs2:=aK R) (.inr rfl) (fun h=>r2 h.symm) rfl rfl hQ2 hR2 (by rw[bT]; exact nQ) (by rw[bT]; exact nR) (qO _ _ _ _) rfl ⟨?_,rfl⟩
 have t1:(aK Q').take (nl (val Q'))=aK (aG (A/B)):=by
  have:=iV hI'.limQ
  rw[hQv] at this ⊢
  exact this
 have t2:(aK R).take (nl (val R))=aK (aG (A%B)):=by
  have:=iV LR
  rw[vR] at this ⊢
  exact this
 rw[t1,t2]
 exact .refl _
def bjR (a b:Nat):PF:=((PF.nil.set 0 (aI (aG a))).set 1 (aI (aG b)))
theorem bsO {C:Ctx} (L:pQ C) (hdiv:∀ A B:Nat,B≠0→nl A≤900→nl B≤900→aH C 136 [aI (aG A),aI (aG B)] .nil (aD (pH A B))) (a b:List Nat) (ha:Lim a) (hb:Lim b) (la:a.length≤35184372087808) (lb:b.length≤35184372087808) :
  NA.wp C (aR a7A.res (bP (if dK (val a) (val b) then .tup [aI [],.int .i64 2] else .tup [aI (aG (bIR (val a) (val b))),.int .i64 0]))) (PF.args [aI a,aI b]) .nil:=by
 simp only[go_sem,reduceCtorEq,NA,aXH,aXI,a7A]
 refine aA (L.large a ha la) rfl ?_
 by_cases c1:nl (val a)>512
 ·simp only[go_sem,γ,c1,akX]
  rw[if_pos (by simp[dK,c1])]
  exact eE rfl
 simp only[go_sem,γ,c1]
 refine aA (L.large b hb lb) rfl ?_
 by_cases c2:nl (val b)>512
 ·simp only[go_sem,γ,reduceCtorEq,c2,akX]
  rw[if_pos (by simp[dK,c2])]
  exact eE rfl
 rw[if_neg (by simp[dK,c1,c2])]
 simp only[go_sem,γ,reduceCtorEq,c2,aXJ]
 refine aA (L.trim a ha la) rfl ?_
 simp only[go_sem,γ]
 refine aA (L.trim b hb lb) rfl ?_
 simp only[go_sem,γ,reduceCtorEq]
 refine wp_loop (α:=Nat × Nat) (fun t=>bjR t.1 t.2) (fun _=>.nil) (fun t=>bIR t.1 t.2=bIR (val a) (val b)∧nl t.1≤512∧nl t.2≤512) (fun t=>t.2) (val a,val b) ⟨rfl,by simp only; omega,by simp only; omega⟩ ?_ PH.nil_le ?_
 ·unfold bjR
  exact Lq
 rintro⟨x,y⟩ ⟨hg,hx,hy⟩
 simp only at hg hx hy
 simp only[go_sem,γ,reduceCtorEq,aXG,aXK,bjR,aZ]
 by_cases c3:y=0
 ·subst c3
  have:¬ ((nl 0:Nat):Int)>0:=by rw[xB]; decide
  simp only[go_sem,γ,reduceCtorEq,this,aXN]
  refine aV (vs:=[aI (aG x),.int .i64 0]) (.inr rfl) .nil rfl PH.nil_le ⟨?_,rfl⟩
  rw[← hg,Nat.gcd_zero_right]
  exact .refl _
 ·have h0:nl y≠0:=fun h=>c3 (gJ.1 h)
  have:((nl y:Nat):Int)>0:=by omega
  simp only[go_sem,γ,reduceCtorEq,this,aXL]
  refine aA (hdiv x y c3 Om Om) rfl ?_
  simp only[go_sem,γ,reduceCtorEq,pH,aXM]
  have hlt:x%y<y:=bJX _ (bKP c3)
  refine aC (y,x%y) ⟨?_,hy,?_⟩ hlt ?_ PH.nil_le
  ·simp only
   rw[← hg,Nat.gcd_comm y,← Nat.gcd_rec y x,Nat.gcd_comm]
  ·have:=fF (Nat.le_of_lt hlt)
   simp only; omega
  ·exact Lq
def lW (A B:Nat):PV:=if dK A B then .tup [aI [],aI [],.int .i64 2] else if B=0 then .tup [aI [],aI [],.int .i64 3] else .tup [aI (aG (A/B)),aI (aG (A%B)),.int .i64 0]
def a6X:Spec:=fun name vs=>match name,vs with
 | 138,[x]=>some ([],fun _=>aD (.int .i64 (nl (val (iD x)):Nat)))
 | 136,[x,y]=>some ([],fun _=>aD (pH (val (iD x)) (val (iD y))))
 | _,_=>none
theorem MX (xs:List Nat):a6X 138 [aI xs]=some ([],fun _=>aD (.int .i64 (nl (val xs):Nat))):=by
 show some _=_; rw[dU]
theorem aGZ (A B:Nat):a6X 136 [aI (aG A),aI (aG B)]=some ([],fun _=>aD (pH A B)):=by
 show some _=_; rw[dU,dU,aQ,aQ]
theorem qQ {res:List dW} {F:PF} {H:PH} {e:Int} (h:dW.evs F H res=some [.bGI,.bGI,.int .i64 e]):aR res (bP (.tup [aI [],aI [],.int .i64 e])) .ret F H:=by
 refine aV (.inr rfl) .nil h PH.nil_le ⟨?_,rfl⟩
 refine .tup rfl fun j p q hp hq=>?_
 match j with
 | 0=>simp at hp hq; subst hp; subst hq; exact .nil 1
 | 1=>simp at hp hq; subst hp; subst hq; exact .nil 1
 | 2=>simp at hp hq; subst hp; subst hq; exact .refl _
 | j+3=>simp at hp
theorem bsM {C:Ctx} (L:pQ C) (hdiv:∀ A B:Nat,B≠0→nl A≤900→nl B≤900→aH C 136 [aI (aG A),aI (aG B)] .nil (aD (pH A B))) (a b:List Nat) (ha:Lim a) (hb:Lim b) (la:a.length≤35184372087808) (lb:b.length≤35184372087808) :
  MY.wp C (aR a6V.res (bP (lW (val a) (val b)))) (PF.args [aI a,aI b]) .nil:=by
 simp only[go_sem,reduceCtorEq,MY,aXA,aXB,a6V]
 refine aA (L.large a ha la) rfl ?_
 by_cases c1:nl (val a)>512
 ·simp only[go_sem,γ,c1,akW]
  rw[show lW (val a) (val b)=.tup [aI [],aI [],.int .i64 2] by simp[lW,dK,c1]]
  exact qQ rfl
 simp only[go_sem,γ,c1]
 refine aA (L.large b hb lb) rfl ?_
 by_cases c2:nl (val b)>512
 ·simp only[go_sem,γ,reduceCtorEq,c2,akW]
  rw[show lW (val a) (val b)=.tup [aI [],aI [],.int .i64 2] by simp[lW,dK,c2]]
  exact qQ rfl
 simp only[go_sem,γ,reduceCtorEq,c2,aXC]
 refine aA (L.length b hb lb) rfl ?_
 by_cases c3:val b=0
 ·have:((nl (val b):Nat):Int)=0:=by rw[c3,xB]; rfl
  simp only[go_sem,γ,bO this,aXD]
  rw[show lW (val a) (val b)=.tup [aI [],aI [],.int .i64 3] by simp[lW,dK,c1,c3,xB]]
  exact qQ rfl
 have h0:nl (val b)≠0:=fun h=>c3 (gJ.1 h)
 rw[show lW (val a) (val b)=.tup [aI (aG (val a/val b)),aI (aG (val a%val b)),.int .i64 0] by simp[lW,dK,c1,c2,c3]]
 simp only[go_sem,γ,bF (show ((nl (val b):Nat):Int)≠0 by omega)]
 refine bK .nil a6X PH.nil_le ?_
 simp only[go_sem,reduceCtorEq,aXE]
 have h1:=eW ha
 have h2:=eW hb
 have h1':((nl (val a):Nat):Int)≤(a.length:Nat):=by omega
 have h2':((nl (val b):Nat):Int)≤(b.length:Nat):=by omega
 refine bC (MX a) (L.length a ha la) rfl PH.nil_le ?_
 simp only[go_sem,ν,γ,reduceCtorEq,h1',or_true,bJR,iV ha]
 refine bC (MX b) (L.length b hb lb) rfl PH.nil_le ?_
 simp only[go_sem,ν,γ,reduceCtorEq,h2',or_true,bJR,iV hb]
 refine bC (aGZ (val a) (val b)) (hdiv _ _ c3 Om Om) rfl PH.nil_le ?_
 simp only[go_sem,γ,pH,aXF]
 exact aV (.inr rfl) .nil rfl PH.nil_le ⟨.refl _,rfl⟩
def aaL:Rg:=[iA 6 (.alloc [(.bool false),.bGI,.bGI]),iI 7 0]
def aaM:Rg:=[iM 11 1,iM 12 2,iK2 13 131 11 12,iM 10 13,iE 14 10 0,iE 15 10 1,iM 8 14,iM 9 15]
def aaN:Rg:=[iM 16 8,iK 17 128 16,iC 18 .gtr 17 1]
def aaO:Rg:=[iM 20 1,iM 21 8,iK2 22 130 20 21,iM 19 22,iE 23 19 0,iE 24 19 1,iE 25 19 2,iM 1 23]
def aaP:Rg:=[iM 27 2,iM 28 8,iK2 29 130 27 28,iM 26 29,iE 30 26 0,iE 31 26 1,iE 32 26 2,iM 2 30]
def EV:Rg:=[iM 33 1,iK 34 128 33,iC 35 .gtr 34 4096,iM 36 35,gM 37 2 36 false,gK 38 128 37 36 false,gC 39 .gtr 38 4096 36 false,iQ 40 36 39]
def vL:Rg:=[iA 41 (.build [(.bool false),.bGI,.bGI] []),iS 3 6 41,iI 7 2]
def EW:Rg:=[iM 42 0,iM 43 42,gM 44 1 43 true,gK 45 128 44 43 true,gC 46 .gtr 45 0 43 true,iP 47 43 46,iM 48 1,iK 49 135 48,iM 50 2,iK 51 135 50,iA 52 (.build [(.bool false),.bGI,.bGI] [(0,1,(Tm 47)),(1,1,(Tm 49)),(2,1,(Tm 51))]),iS 3 6 52,iI 7 0]
def xO:aB:=(sq aaL (.seq (sq aaM (sq aaN (.cond (Tm 18) (sq aaO (.region aaP)) .skip))) (.seq (sq EV (.cond (Tm 40) (sq vL .ret) .skip)) (sq EW .ret))))
def a3P:List Nat:=[]
def qN:aS:=⟨3,53,xO,[.cell 6 (some 3),.tmp 7]⟩
def amR:Rg:=[iZ 4]
def amS:Rg:=[iM 8 0,iM 9 1,iK2 10 133 8 9,iM 7 10,iE 11 7 0,iE 12 7 1,iM 5 11,iM 6 12]
def amT:Rg:=[iM 13 5,iM 4 13]
def AN:aB:=(sq amR (sq amS (sq amT .ret)))
def bbB:List Nat:=[]
def aaZ:aS:=⟨2,14,AN,[.tmp 4]⟩
def aAY:Rg:=[iA 1 (.box true (Tm 0)),iT 2 false]
def aAZ:Rg:=[iF 3 1 1,iL 4 3,iK 5 128 4,iC 6 .eql 5 0,iM 2 6]
def EZ:aB:=(sq aAY (sq aAZ .ret))
def bjK:List Nat:=[1]
def axL:aS:=⟨1,7,EZ,[.tmp 2]⟩
def aAS:Rg:=[iA 4 (.alloc [(.bool false),.bGI,.bGI]),iI 5 0]
def aAT:Rg:=[iM 6 1,iC 7 .eql 6 0]
def aAU:Rg:=[iA 8 (.build [(.bool false),.bGI,.bGI] []),iS 3 4 8,iI 5 3]
def aAV:Rg:=[iM 9 0,iC 10 .lss 9 0,iM 11 1,iC 12 .lss 11 0,iA 13 (.eqb true (Tm 10) (Tm 12)),iM 14 0,iK 15 119 14,iM 16 1,iK 17 119 16,iA 18 (.call 120 [(Tm 13),(Tm 15),(Tm 17)]),iE 19 18 0,iE 20 18 1,iS 3 4 19,iM 5 20]
def EX:aB:=(sq aAS (.seq (sq aAT (.cond (Tm 7) (sq aAU .ret) .skip)) (sq aAV .ret)))
def bjH:List Nat:=[]
def aaQ:aS:=⟨2,21,EX,[.cell 4 (some 3),.tmp 5]⟩
def aSW:Rg:=[iZ 2]
def aSX:Rg:=[iM 3 0,iC 4 .lss 3 0]
def aSY:Rg:=[iM 5 0,iA 6 (.conv .u64 (Tm 5)),iA 7 (.un .neg (Tm 6)),iK 8 132 7,iM 2 8]
def aSZ:Rg:=[iM 9 0,iA 10 (.conv .u64 (Tm 9)),iK 11 132 10,iM 2 11]
def LO:aB:=(sq aSW (.seq (sq aSX (.cond (Tm 4) (sq aSY .ret) .skip)) (sq aSZ .ret)))
def bqF:List Nat:=[]
def a3H:aS:=⟨1,12,LO,[.tmp 2]⟩
def amU:Rg:=[iA 1 (.box true (Tm 0)),iT 2 false]
def amV:Rg:=[iF 4 2 1,iL 5 4,iK 6 128 5,iM 3 6]
def zD:Rg:=[iM 7 3,iC 8 .gtr 7 0,iM 9 8,gM 10 3 9 true,gC 11 .leq 10 4096 9 true,iP 12 9 11,iM 13 12,gF 14 1 1 13 true,gL 15 14 13 true,gK 16 128 15 13 true,gC 17 .leq 16 4096 13 true,iP 18 13 17,iM 2 18]
def AO:aB:=(sq amU (sq amV (sq zD .ret)))
def bbD:List Nat:=[1]
def abA:aS:=⟨1,19,AO,[.tmp 2]⟩
def aaT:Rg:=[iA 1 (.box true (Tm 0)),iA 2 (.alloc [(.bool false),.bGI,.bGI]),iI 3 0]
def aaU:Rg:=[iO 4 3 1,iK 5 118 4,iA 6 (.un .not (Tm 5))]
def aaV:Rg:=[iA 7 (.build [(.bool false),.bGI,.bGI] []),iS 3 2 7,iI 3 1]
def aaW:Rg:=[iF 8 0 1,iL 9 8,iF 10 1 1,iL 11 10,iF 12 2 1,iL 13 12,iA 14 (.call 120 [(Tm 9),(Tm 11),(Tm 13)]),iE 15 14 0,iE 16 14 1,iS 3 2 15,iM 3 16]
def xP:aB:=(sq aaT (.seq (sq aaU (.cond (Tm 6) (sq aaV .ret) .skip)) (sq aaW .ret)))
def a3S:List Nat:=[1]
def DQ:aS:=⟨1,17,xP,[.cell 2 (some 3),.tmp 3]⟩
def aTJ:Rg:=[iA 2 (.box true (Tm 0)),iA 3 (.box true (Tm 1)),iI 4 0,iI 5 0]
def aTK:Rg:=[iO 9 3 2,iK 10 118 9,iA 11 (.un .not (Tm 10)),iM 12 11,gO 13 3 3 12 false,gK 14 118 13 12 false,iG 15 (.un .not (Tm 14)) 12 false,iQ 16 12 15]
def ajU:Rg:=[iI 4 0,iI 5 1]
def aTL:Rd:=[(iF 17 1 2,false),(iL 18 17,false),(iF 19 2 3,false),(iL 20 19,false),(iK2 21 121 18 20,true),(iF 22 1 3,true),(iL 23 22,true),(iF 24 2 2,true),(iL 25 24,true),(iK2 26 121 23 25,true),(iK2 27 129 21 26,true),(iM 6 27,false)]
def aTM:Rd:=[(iF 28 0 2,false),(iL 29 28,false),(iM 30 29,false),(gO 31 3 2 30 true,false),(gK 32 122 31 30 true,true),(iG 33 (.un .not (Tm 32)) 30 true,true),(iP 34 30 33,true),(iF 35 0 3,true),(iL 36 35,true),(iM 37 36,false),(gO 38 3 3 37 true,false),(gK 39 122 38 37 true,true),(iG 40 (.un .not (Tm 39)) 37 true,false),(iP 41 37 40,false),(iM 7 34,false),(iM 8 41,false)]
def wU:Rg:=[iM 43 7,iM 44 43,gM 45 8 44 true,iP 46 44 45,iM 42 46]
def ajV:Rg:=[iM 47 6,iA 48 (.un .neg (Tm 47)),iM 4 48,iI 5 0]
def DN:Rg:=[iM 50 7,iM 49 50]
def ajW:Rg:=[iI 4 (-1),iI 5 0]
def QT:Rg:=[iM 52 8,iM 51 52]
def VE:Rg:=[iI 4 1,iI 5 0]
def VG:Rg:=[iM 53 6,iM 4 53,iI 5 0]
def LQ:aB:=(sq aTJ (.seq (sq aTK (.cond (Tm 16) (sq ajU .ret) .skip)) (dq aTL (dq aTM (.seq (.block 0 (sq wU (.cond (Tm 42) (sq ajV .ret) (sq DN (.cond (Tm 49) (sq ajW .ret) (sq QT (.cond (Tm 51) (sq VE .ret) .skip))))))) (sq VG .ret))))))
def bqJ:List Nat:=[2,3]
def a3I:aS:=⟨2,54,LQ,[.tmp 4,.tmp 5]⟩
def aTA:Rg:=[iA 2 (.box true (Tm 0)),iA 3 (.box true (Tm 1)),iA 4 (.alloc [(.bool false),.bGI,.bGI]),iI 5 0]
def aTB:Rg:=[iO 15 3 2,iK 16 118 15,iA 17 (.un .not (Tm 16)),iM 18 17,gO 19 3 3 18 false,gK 20 118 19 18 false,iG 21 (.un .not (Tm 20)) 18 false,iQ 22 18 21]
def ajT:Rg:=[iA 23 (.build [(.bool false),.bGI,.bGI] []),iS 3 4 23,iI 5 1]
def aTC:Rd:=[(iF 24 1 2,false),(iL 25 24,false),(iF 26 2 3,false),(iL 27 26,false),(iK2 28 121 25 27,true),(iF 29 1 3,true),(iL 30 29,true),(iF 31 2 2,true),(iL 32 31,true),(iK2 33 121 30 32,true),(iF 34 2 2,true),(iL 35 34,true),(iF 36 2 3,true),(iL 37 36,true),(iK2 38 121 35 37,true),(iM 6 28,false),(iM 7 33,false),(iM 8 38,false)]
def aTD:Rg:=[iF 39 0 2,iL 40 39,iF 41 0 3,iL 42 41,iA 43 (.eqb false (Tm 40) (Tm 42))]
def aTE:Rg:=[iM 45 6,iM 46 7,iK2 47 127 45 46,iM 44 47,iE 48 44 0,iE 49 44 1,iM 9 48,iM 10 49]
def aTF:Rg:=[iF 50 0 2,iL 51 50,iM 52 9,iM 53 8,iA 54 (.call 120 [(Tm 51),(Tm 52),(Tm 53)]),iE 55 54 0,iE 56 54 1,iS 3 4 55,iM 5 56]
def aTG:Rg:=[iM 57 6,iM 58 7,iK2 59 129 57 58,iC 60 .geq 59 0]
def aTH:Rg:=[iM 62 6,iM 63 7,iK2 64 134 62 63,iM 61 64,iE 65 61 0,iE 66 61 1,iM 11 65,iM 12 66]
def aTI:Rg:=[iF 67 0 2,iL 68 67,iM 69 11,iM 70 8,iA 71 (.call 120 [(Tm 68),(Tm 69),(Tm 70)]),iE 72 71 0,iE 73 71 1,iS 3 4 72,iM 5 73]
def aAM:Rg:=[iM 75 7,iM 76 6,iK2 77 134 75 76,iM 74 77,iE 78 74 0,iE 79 74 1,iM 13 78,iM 14 79]
def aAN:Rg:=[iF 80 0 3,iL 81 80,iM 82 13,iM 83 8,iA 84 (.call 120 [(Tm 81),(Tm 82),(Tm 83)]),iE 85 84 0,iE 86 84 1,iS 3 4 85,iM 5 86]
def LP:aB:=(sq aTA (.seq (sq aTB (.cond (Tm 22) (sq ajT .ret) .skip)) (dq aTC (.seq (sq aTD (.cond (Tm 43) (sq aTE (sq aTF .ret)) .skip)) (.seq (sq aTG (.cond (Tm 60) (sq aTH (sq aTI .ret)) .skip)) (sq aAM (sq aAN .ret)))))))
def bqH:List Nat:=[2,3]
def VD:aS:=⟨2,87,LP,[.cell 4 (some 3),.tmp 5]⟩
def aTO:Rg:=[iA 2 (.alloc [(.bool false),.bGI,.bGI]),iI 3 0]
def aTP:Rg:=[iA 9 (.call 132 [(.const (.int .u64 1))]),iA 10 (.build [(.bool false),.bGI,.bGI] [(2,1,(Tm 9))]),iA 4 (.alloc [(.bool false),.bGI,.bGI]),iS 3 4 10]
def aTQ:Rg:=[iM 11 0,iN 12 11,iI 13 0]
def aTR:Rg:=[iB 14 .lss 13 12]
def aTS:Rg:=[iX 15 3 11 13,iO 16 3 15,iA 6 (.alloc [(.bool false),.bGI,.bGI]),iS 3 6 16]
def aTT:Rg:=[iO 18 3 4,iO 19 3 6,iK2 20 113 18 19,iM 17 20,iE 21 17 0,iE 22 17 1,iA 7 (.alloc [(.bool false),.bGI,.bGI]),iS 3 7 21,iM 8 22]
def ajZ:Rg:=[iM 23 8,iC 24 .neq 23 0]
def aTU:Rg:=[iA 25 (.build [(.bool false),.bGI,.bGI] []),iM 26 8,iS 3 2 25,iM 3 26]
def aTV:Rg:=[iO 27 3 7,iS 3 4 27]
def aTW:Rg:=[iC 28 .add 13 1,iM 13 28]
def aAX:aB:=(sq aTR (.seq (.cond (Tm 14) .skip (.exit 0)) (.seq (.block 1 (sq aTS (sq aTT (.seq (sq ajZ (.cond (Tm 24) (sq aTU .ret) .skip)) (.region aTV))))) (.region aTW))))
def VJ:Rg:=[iO 29 3 4,iS 3 2 29,iI 3 0]
def LW:aB:=(sq aTO (sq aTP (.seq (sq aTQ (.block 0 (.loop aAX))) (sq VJ .ret))))
def bqR:List Nat:=[]
def ajY:aS:=⟨1,30,LW,[.cell 2 (some 3),.tmp 3]⟩
theorem CoL.nil:CoL [] []:=.refl _
theorem CoL.cons {p q:PV} {ps qs:List PV} (h:Co p q) (hs:CoL ps qs):CoL (p::ps) (q::qs) :=
 ⟨by simp[hs.len],fun j a b ha hb=>by
  cases j with
  | zero=>simp at ha hb; subst ha; subst hb; exact h
  | succ j=>exact hs.at_ j a b (by simpa using ha) (by simpa using hb)⟩
theorem CoL.agg {ps qs:List PV} (h:CoL ps qs):Co (.agg ps) (.agg qs):=.agg h.len h.at_
theorem CoL.tup {ps qs:List PV} (h:CoL ps qs):Co (.tup ps) (.tup qs):=.tup h.len h.at_
structure rD (C:Ctx):Prop extends pQ C where
 bits:∀ xs,Lim xs→xs.length≤35184372087808→aH C 128 [aI xs] .nil (aD (.int .i64 (cC (val xs):Nat)))
 add:∀ xs ys,Lim xs→Lim ys→xs.length≤35184372087808→ys.length≤35184372087808→aH C 127 [aI xs,aI ys] .nil (aD (opV (dK (val xs) (val ys)) (val xs+val ys)))
 sub:∀ xs ys,Lim xs→Lim ys→xs.length≤35184372087808→ys.length≤35184372087808→aH C 134 [aI xs,aI ys] .nil (aD (qH (val xs) (val ys)))
 mul:∀ xs ys,Lim xs→Lim ys→xs.length≤35184372087808→ys.length≤35184372087808→aH C 133 [aI xs,aI ys] .nil (aD (opV (dK (val xs) (val ys)) (val xs*val ys)))
 gcd:∀ xs ys,Lim xs→Lim ys→xs.length≤35184372087808→ys.length≤35184372087808→aH C 131 [aI xs,aI ys] .nil (aD (if dK (val xs) (val ys) then .tup [aI [],.int .i64 2] else .tup [aI (aG (bIR (val xs) (val ys))),.int .i64 0]))
 div:∀ xs ys,Lim xs→Lim ys→xs.length≤35184372087808→ys.length≤35184372087808→aH C 130 [aI xs,aI ys] .nil (aD (lW (val xs) (val ys)))
theorem gG {a b:Nat} (ha:nl a≤512) (hb:nl b≤512):dK a b=false:=by
 simp[dK]; omega
theorem kO {a b m n:Nat} (ha:nl a≤m) (hb:nl b≤n):nl (a*b)≤m+n:=by
 rw[jE] at ha hb ⊢
 rw[Nat.pow_add]
 by_cases h:b=0
 ·subst h; exact Nat.mul_pos (bKY (by decide)) (bKY (by decide))
 ·calc a*b<4294967296 ^ m*b:=Nat.mul_lt_mul_of_pos_right ha (bKP h)
   _≤4294967296 ^ m*4294967296 ^ n:=bKO _ (Nat.le_of_lt hb)
theorem yL {n:Nat} (h:nl n≤512):szV n=.tup [aI (aG n),.int .i64 0]:=by
 have:¬ nl n>512:=by omega
 simp[szV,szL,szE,this]
theorem bbA {C:Ctx} (L:rD C) (a b:List Nat) (ha:Lim a) (hb:Lim b) (la:a.length≤35184372087808) (lb:b.length≤35184372087808) (na:nl (val a)≤256) (nb:nl (val b)≤256) :
  AN.wp C (aR aaZ.res (aD (aI (aG (val a*val b))))) (PF.args [aI a,aI b]) .nil:=by
 simp only[go_sem,γ,reduceCtorEq,AN,amR,amS,aaZ]
 refine aA (L.mul a b ha hb la lb) rfl ?_
 have:=kO na nb
 rw[gG Om Om,opV,yL Om]
 simp only[go_sem,γ,reduceCtorEq,amT]
 refine aM (.inr rfl) rfl ?_
 rfl
abbrev dX (neg:Bool) (a b:List Nat):List PV:=[.bool neg,aI a,aI b]
theorem bjJ {C:Ctx} (L:rD C) (neg:Bool) (a b:List Nat) (ha:Lim a) (la:a.length≤35184372087808) :
  EZ.wp C (aR axL.res (aD (.bool (decide (val a=0))))) (PF.args [.agg (dX neg a b)]) .nil:=by
 simp only[go_sem,δ,γ,θ,EZ,aAY,aAZ,axL]
 refine aA (L.bits a ha la) rfl ?_
 simp only[go_sem,γ]
 refine aM (.inr rfl) rfl ?_
 have:=@jK (val a)
 by_cases c:val a=0
 ·rw[bO Om,decide_eq_true c]; rfl
 ·rw[bF Om,decide_eq_false c]; rfl
def cK (a b:Nat):Bool:=decide (0<cC b)&&decide (cC b≤4096)&&decide (cC a≤4096)
theorem bbC {C:Ctx} (L:rD C) (neg:Bool) (a b:List Nat) (ha:Lim a) (hb:Lim b) (la:a.length≤35184372087808) (lb:b.length≤35184372087808) :
  AO.wp C (aR abA.res (aD (.bool (cK (val a) (val b))))) (PF.args [.agg (dX neg a b)]) .nil:=by
 simp only[go_sem,γ,AO,amU,amV,abA]
 refine aA (L.bits b hb lb) rfl ?_
 by_cases c1:0<cC (val b)
 ·have c1':((cC (val b):Nat):Int)>0:=by omega
  by_cases c2:cC (val b)≤4096
  ·have c2':((cC (val b):Nat):Int)≤4096:=by omega
   simp only[go_sem,δ,γ,θ,zD,c1',c2']
   refine aA (L.bits a ha la) rfl ?_
   simp only[go_sem,γ]
   refine aM (.inr rfl) rfl ?_
   show PV.bool (decide _)=_
   rw[cK,decide_eq_true c1,decide_eq_true c2,bJC,bJC]
   congr 1
   rw[decide_eq_decide]
   omega
  ·have c2':¬ ((cC (val b):Nat):Int)≤4096:=by omega
   simp only[go_sem,γ,reduceCtorEq,zD,c1',c2']
   refine aM (.inr rfl) rfl ?_
   show PV.bool _=_
   simp[cK,c1,c2]
 ·have c1':¬ ((cC (val b):Nat):Int)>0:=by omega
  simp only[go_sem,γ,reduceCtorEq,zD,c1']
  refine aM (.inr rfl) rfl ?_
  show PV.bool _=_
  simp[cK,c1]
theorem bqE {C:Ctx} (L:rD C) (v:Int) (h1:-9223372036854775808≤v) (h2:v≤9223372036854775807) :
  LO.wp C (aR a3H.res (aD (aI (aG v.natAbs)))) (PF.args [.int .i64 v]) .nil:=by
 simp only[go_sem,γ,reduceCtorEq,LO,aSW,aSX,a3H]
 by_cases c:v<0
 ·have e:IntKind.u64.wrap (0-IntKind.u64.wrap v)=((v.natAbs:Nat):Int):=by
   rw[fG,fG]; omega
  simp only[go_sem,γ,reduceCtorEq,c,aSY,e]
  refine aA (L.make v.natAbs Om) rfl ?_
  simp only[go_sem,γ]
  refine aM (.inr rfl) rfl ?_
  rfl
 ·have e:IntKind.u64.wrap v=((v.natAbs:Nat):Int):=by
   rw[fG]; omega
  simp only[go_sem,γ,reduceCtorEq,c,aSZ,e]
  refine aA (L.make v.natAbs Om) rfl ?_
  simp only[go_sem,γ]
  refine aM (.inr rfl) rfl ?_
  rfl
abbrev zC (e:Int):PV:=.tup [.agg (dX false [] []),.int .i64 e]
abbrev a3T (neg:Bool) (a b:Nat):PV:=.tup [.agg (dX neg (aG a) (aG b)),.int .i64 0]
def GB (neg:Bool) (a b:Nat):PV :=
 if cC (a/bIR a b)>4096∨cC (b/bIR a b)>4096 then zC 2 else a3T (neg&&decide (a/bIR a b≠0)) (a/bIR a b) (b/bIR a b)
theorem gI {res:List dW} {F:PF} {H:PH} {e:Int} (h:dW.evs F H res=some [.agg [.bool false,.bGI,.bGI],.int .i64 e]):aR res (bP (zC e)) .ret F H :=
 aV (.inr rfl) .nil h PH.nil_le ⟨CoL.tup (.cons (CoL.agg (.cons (.refl _) (.cons (.nil 1) (.cons (.nil 1) .nil)))) (.cons (.refl _) .nil)),rfl⟩
theorem azS {n:Nat}:cC n>1↔n>1:=by
 have:=kZ n 1
 omega
theorem adG {a n:Nat} (g:Nat) (h:nl a≤n):nl (a/g)≤n:=bKG (fF (Nat.div_le_self _ _)) h
theorem LT {C:Ctx} (L:rD C) (neg:Bool) (a b:List Nat) (ha:Lim a) (hb:Lim b) (la:a.length≤35184372087808) (lb:b.length≤35184372087808) (o:Nat) (F:PF) (H:PH)
  (f0:F 0=some (.bool neg)) (f1:F 1=some (aI a)) (f2:F 2=some (aI b)) (f6:F 6=some (.ptr o 3 0 0)) (f7:F 7=some (.int .i64 0)) (hH:H o=some (.rows 3 [[.bool false,.bGI,.bGI]])) :
  aB.wp C (.seq (.seq (.region EV) (.cond (.tmp 40) (.seq (.region vL) .ret) .skip)) (.seq (.region EW) .ret)) (aR qN.res (bP (if cC (val a)>4096∨cC (val b)>4096 then zC 2 else a3T (neg&&decide (val a≠0)) (val a) (val b)))) F H:=by
 have fin:∀ (r:List (List PV)) F H,F 6=some (.ptr o 3 0 0)→F 7=some (.int .i64 2)→H o=some (.rows 3 [[.bool false,.bGI,.bGI]])→aR qN.res (bP (zC 2)) .ret F H:=by
  intro r F H h6 h7 h
  refine gI ?_
  simp only[go_sem,δ,qN,h6,h7,h]
 simp only[go_sem,EV,f1]
 refine aA (L.bits a ha la) rfl ?_
 by_cases c1:cC (val a)>4096
 ·have c1':((cC (val a):Nat):Int)>4096:=by omega
  rw[if_pos (.inl c1)]
  simp only[go_sem,δ,γ,c1',vL,f6,hH]
  exact fin [] _ _ (by simp only[go_sem,γ,f6]) rfl Sq
 ·have c1':¬ ((cC (val a):Nat):Int)>4096:=by omega
  simp only[go_sem,γ,c1',f2]
  refine aA (L.bits b hb lb) rfl ?_
  by_cases c2:cC (val b)>4096
  ·have c2':((cC (val b):Nat):Int)>4096:=by omega
   rw[if_pos (.inr c2)]
   simp only[go_sem,δ,γ,reduceCtorEq,c2',vL,f6,hH]
   exact fin [] _ _ (by simp only[go_sem,γ,f6]) rfl Sq
  ·have c2':¬ ((cC (val b):Nat):Int)>4096:=by omega
   rw[if_neg Om]
   have last:∀ F:PF,F 1=some (aI a)→F 2=some (aI b)→F 6=some (.ptr o 3 0 0)→∀ (q:Bool),q=(neg&&decide (val a≠0))→F 47=some (.bool q) →
     True:=fun _ _ _ _ _ _ _=>trivial
   simp only[go_sem,γ,reduceCtorEq,c2',EW,f0,f1,f2,f6,hH]
   cases neg with
   | false =>
    simp only[go_sem,γ,reduceCtorEq,f0,f1,f2,f6,hH]
    refine aA (L.trim a ha la) rfl ?_
    simp only[go_sem,γ,f0,f1,f2,f6,hH]
    refine aA (L.trim b hb lb) rfl ?_
    simp only[go_sem,δ,γ,θ,f0,f1,f2,f6,hH,bIV]
    refine aV (.inr rfl) .nil (vs:=[.agg (dX false (aG (val a)) (aG (val b))),.int .i64 0]) ?_ PH.nil_le ⟨.refl _,rfl⟩
    simp only[go_sem,δ,γ,qN,f6,hH]
   | true =>
    simp only[go_sem,γ,f0,f1,f2,f6,hH]
    refine aA (L.bits a ha la) rfl ?_
    have e:decide (((cC (val a):Nat):Int)>0)=decide (val a≠0):=by
     have:=@jK (val a)
     rw[decide_eq_decide]; omega
    simp only[go_sem,γ,f0,f1,f2,f6,hH,e]
    refine aA (L.trim a ha la) rfl ?_
    simp only[go_sem,γ,f0,f1,f2,f6,hH]
    refine aA (L.trim b hb lb) rfl ?_
    simp only[go_sem,δ,γ,θ,f0,f1,f2,f6,hH,bJC]
    refine aV (.inr rfl) .nil (vs:=[.agg (dX (decide (val a≠0)) (aG (val a)) (aG (val b))),.int .i64 0]) ?_ PH.nil_le ⟨.refl _,rfl⟩
    simp only[go_sem,δ,γ,qN,f6,hH]
theorem a3O {C:Ctx} (L:rD C) (neg:Bool) (a b:List Nat) (ha:Lim a) (hb:Lim b) (la:a.length≤35184372087808) (lb:b.length≤35184372087808) (na:nl (val a)≤512) (nb:nl (val b)≤512) (h0:val b≠0) :
  xO.wp C (aR qN.res (bP (GB neg (val a) (val b)))) (PF.args [.bool neg,aI a,aI b]) .nil:=by
 simp only[go_sem,δ,xO,aaL,aaM]
 refine aO fun o ho=>?_
 simp only[go_sem,γ]
 refine aA (L.gcd a b ha hb la lb) rfl ?_
 rw[gG na nb]
 simp only[go_sem,γ,reduceCtorEq,aaN]
 have hg0:bIR (val a) (val b)≠0:=by
  intro h; exact h0 (Nat.gcd_eq_zero_iff.1 h).2
 have hgl:nl (bIR (val a) (val b))≤512:=bKG (fF (Nat.gcd_le_right _ (bKP h0))) nb
 have hll:(aG (bIR (val a) (val b))).length≤35184372087808:=by rw[aZ]; omega
 refine aA (L.bits _ (aU _) hll) rfl ?_
 rw[aQ]
 by_cases c:bIR (val a) (val b)>1
 ·have c':((cC (bIR (val a) (val b)):Nat):Int)>1:=by have:=azS.2 c; omega
  simp only[go_sem,γ,c',aaO]
  refine aA (L.div a _ ha (aU _) la hll) rfl ?_
  rw[aQ,lW,gG na hgl,if_neg (by decide),if_neg hg0]
  simp only[go_sem,γ,aaP]
  refine aA (L.div b _ hb (aU _) lb hll) rfl ?_
  rw[aQ,lW,gG nb hgl,if_neg (by decide),if_neg hg0]
  simp only[go_sem,γ]
  have:=LT L neg (aG (val a/bIR (val a) (val b))) (aG (val b/bIR (val a) (val b))) (aU _) (aU _) (by rw[aZ]; have:=adG (bIR (val a) (val b)) na; omega) (by rw[aZ]; have:=adG (bIR (val a) (val b)) nb; omega) o
  rw[aQ,aQ] at this
  have:=fun F H=>this F H
  simp only[aB.wp,go_sem] at this
  exact this _ _ rfl rfl rfl rfl rfl Sq
 ·have c':¬ ((cC (bIR (val a) (val b)):Nat):Int)>1:=by have:=(@azS (bIR (val a) (val b))); omega
  have e1:bIR (val a) (val b)=1:=by omega
  simp only[go_sem,γ,c']
  rw[GB,e1,Nat.div_one,Nat.div_one]
  have:=LT L neg a b ha hb la lb o
  simp only[aB.wp,go_sem] at this
  exact this _ _ rfl rfl rfl rfl rfl Sq
structure EI (C:Ctx):Prop extends rD C where
 times:∀ a b,Lim a→Lim b→a.length≤35184372087808→b.length≤35184372087808→nl (val a)≤256→nl (val b)≤256→aH C 121 [aI a,aI b] .nil (aD (aI (aG (val a*val b))))
 zero:∀ neg a b,Lim a→a.length≤35184372087808→aH C 122 [.agg (dX neg a b)] .nil (aD (.bool (decide (val a=0))))
 valid:∀ neg a b,Lim a→Lim b→a.length≤35184372087808→b.length≤35184372087808→aH C 118 [.agg (dX neg a b)] .nil (aD (.bool (cK (val a) (val b))))
 abs:∀ v:Int,-9223372036854775808≤v→v≤9223372036854775807→aH C 119 [.int .i64 v] .nil (aD (aI (aG v.natAbs)))
 lowest:∀ neg a b,Lim a→Lim b→a.length≤35184372087808→b.length≤35184372087808→nl (val a)≤512→nl (val b)≤512→val b≠0→aH C 120 [.bool neg,aI a,aI b] .nil (aD (GB neg (val a) (val b)))
def abU (n d:Int):PV:=if d=0 then zC 3 else GB (decide (n<0) != decide (d<0)) n.natAbs d.natAbs
theorem mT {n k:Nat} (h:n<4294967296 ^ k):nl n≤k:=(jE _ _).2 h
theorem aEY (neg:Bool) (a b:Nat):∃ neg' x y e,GB neg a b=.tup [.agg (dX neg' x y),.int .i64 e]:=by
 unfold GB
 split
 ·exact⟨_,_,_,_,rfl⟩
 ·exact⟨_,_,_,_,rfl⟩
theorem bjG {C:Ctx} (L:EI C) (n d:Int) (h1:-9223372036854775808≤n) (h2:n≤9223372036854775807) (h3:-9223372036854775808≤d) (h4:d≤9223372036854775807) :
  EX.wp C (aR aaQ.res (bP (abU n d))) (PF.args [.int .i64 n,.int .i64 d]) .nil:=by
 simp only[go_sem,δ,EX,aAS,aAT]
 refine aO fun o ho=>?_
 unfold abU
 by_cases c:d=0
 ·subst c
  simp only[go_sem,ρ,δ,γ,aAU]
  refine gI ?_
  simp only[go_sem,δ,γ,aaQ]
 ·rw[if_neg c]
  simp only[go_sem,γ,reduceCtorEq,bF c,aAV]
  refine aA (L.abs n h1 h2) rfl ?_
  simp only[go_sem,γ]
  refine aA (L.abs d h3 h4) rfl ?_
  simp only[go_sem]
  have n1:nl n.natAbs≤2:=mT Om
  have n2:nl d.natAbs≤2:=mT Om
  have low:=L.lowest (decide (n<0) != decide (d<0)) (aG n.natAbs) (aG d.natAbs) (aU _) (aU _) (by rw[aZ]; omega) (by rw[aZ]; omega)
  rw[aQ,aQ] at low
  have low:=low Om Om Om
  refine aA low rfl ?_
  obtain⟨neg',x,y,e,hl⟩:=aEY (decide (n<0) != decide (d<0)) n.natAbs d.natAbs
  rw[hl]
  simp only[go_sem,δ,γ]
  exact aV (.inr rfl) .nil (vs:=[.agg (dX neg' x y),.int .i64 e]) (by simp only[go_sem,δ,γ,aaQ]) PH.nil_le ⟨.refl _,rfl⟩
theorem fC {a b:Nat}:cK a b=true↔b≠0∧nl b≤128∧nl a≤128:=by
 have h1:=lC b 128
 have h2:=lC a 128
 have h3:=@jK b
 simp only[cK,bJK,decide_eq_true_eq]
 omega
def RK (neg:Bool) (a b:Nat):PV:=if cK a b then GB neg a b else zC 1
theorem a3R {C:Ctx} (L:EI C) (neg:Bool) (a b:List Nat) (ha:Lim a) (hb:Lim b) (la:a.length≤35184372087808) (lb:b.length≤35184372087808) :
  xP.wp C (aR DQ.res (bP (RK neg (val a) (val b)))) (PF.args [.agg (dX neg a b)]) .nil:=by
 simp only[go_sem,δ,xP,aaT,aaU]
 refine aO fun o ho=>?_
 simp only[go_sem,δ,γ]
 refine aA (L.valid neg a b ha hb la lb) rfl ?_
 unfold RK
 cases hv:cK (val a) (val b) with
 | false =>
  simp only[go_sem,δ,γ,reduceCtorEq,aaV,bIY]
  refine gI ?_
  simp only[go_sem,δ,γ,DQ]
 | true =>
  obtain⟨v1,v2,v3⟩:=fC.1 hv
  simp only[go_sem,δ,γ,θ,aaW,bIO]
  refine aA (L.lowest neg a b ha hb la lb Om Om v1) rfl ?_
  obtain⟨neg',x,y,e,hl⟩:=aEY neg (val a) (val b)
  rw[hl]
  simp only[go_sem,δ,γ]
  exact aV (.inr rfl) .nil (vs:=[.agg (dX neg' x y),.int .i64 e]) (by simp only[go_sem,δ,γ,DQ]) PH.nil_le ⟨.refl _,rfl⟩
def qE (n1:Bool) (a1 b1:Nat) (n2:Bool) (a2 b2:Nat):Int :=
 match n1&&decide (a1≠0),n2&&decide (a2≠0) with
 | true,true=>- cY (a1*b2) (a2*b1)
 | true,false=>-1
 | false,true=>1
 | false,false=>cY (a1*b2) (a2*b1)
def zB (n1:Bool) (a1 b1:Nat) (n2:Bool) (a2 b2:Nat):PV :=
 if cK a1 b1&&cK a2 b2 then .tup [.int .i64 (qE n1 a1 b1 n2 a2 b2),.int .i64 0] else .tup [.int .i64 0,.int .i64 1]
def fr1:PV→List Nat
 | .agg [_,a,_]=>iD a
 | _=>[]
def frS:Spec:=fun name vs=>match name,vs with
 | 121,[x,y]=>some ([],fun _=>aD (aI (aG (val (iD x)*val (iD y)))))
 | 129,[x,y]=>some ([],fun _=>aD (.int .i64 (cY (val (iD x)) (val (iD y)))))
 | 122,[x]=>some ([],fun _=>aD (.bool (decide (val (fr1 x)=0))))
 | _,_=>none
theorem uF (a b:List Nat):frS 121 [aI a,aI b]=some ([],fun _=>aD (aI (aG (val a*val b)))):=by
 show some _=_; rw[dU,dU]
theorem bqN (a b:List Nat):frS 129 [aI a,aI b]=some ([],fun _=>aD (.int .i64 (cY (val a) (val b)))):=by
 show some _=_; rw[dU,dU]
theorem VH (neg:Bool) (a b:List Nat):frS 122 [.agg (dX neg a b)]=some ([],fun _=>aD (.bool (decide (val a=0)))):=by
 show some _=_; rw[fr1,dU]
theorem biS (a b:Nat):IntKind.i64.wrap (0-cY a b)=- cY a b:=by
 unfold cY; split
 ·rfl
 ·split<;>rfl
theorem bqI {C:Ctx} (L:EI C) (n1 n2:Bool) (a1 b1 a2 b2:List Nat) (ha1:Lim a1) (hb1:Lim b1) (ha2:Lim a2) (hb2:Lim b2)
  (la1:a1.length≤35184372087808) (lb1:b1.length≤35184372087808) (la2:a2.length≤35184372087808) (lb2:b2.length≤35184372087808) :
  LQ.wp C (aR a3I.res (bP (zB n1 (val a1) (val b1) n2 (val a2) (val b2)))) (PF.args [.agg (dX n1 a1 b1),.agg (dX n2 a2 b2)]) .nil:=by
 simp only[go_sem,δ,γ,LQ,aTJ,aTK]
 refine aA (L.valid n1 a1 b1 ha1 hb1 la1 lb1) rfl ?_
 unfold zB
 cases hv:cK (val a1) (val b1) with
 | false =>
  simp only[go_sem,γ,reduceCtorEq,bIY,ajU,bIV]
  exact aV (.inr rfl) .nil (vs:=[.int .i64 0,.int .i64 1]) rfl PH.nil_le ⟨.refl _,rfl⟩
 | true =>
  obtain⟨v1,v2,v3⟩:=fC.1 hv
  simp only[go_sem,δ,γ,bIO]
  refine aA (L.valid n2 a2 b2 ha2 hb2 la2 lb2) rfl ?_
  cases hw:cK (val a2) (val b2) with
  | false =>
   simp only[go_sem,γ,reduceCtorEq,bIY,ajU,bJW]
   exact aV (.inr rfl) .nil (vs:=[.int .i64 0,.int .i64 1]) rfl PH.nil_le ⟨.refl _,rfl⟩
  | true =>
   obtain⟨w1,w2,w3⟩:=fC.1 hw
   simp only[go_sem,γ,reduceCtorEq,bIO,bKZ]
   refine bK .nil frS PH.nil_le ?_
   simp only[go_sem,δ,γ,θ,aTL]
   refine bC (uF a1 b2) (L.times a1 b2 ha1 hb2 la1 lb2 Om Om) rfl PH.nil_le ?_
   simp only[go_sem,δ,γ,θ]
   refine bC (uF a2 b1) (L.times a2 b1 ha2 hb1 la2 lb1 Om Om) rfl PH.nil_le ?_
   simp only[go_sem]
   have m1:=kO v3 w2
   have m2:=kO w3 v2
   have hc:=L.cmp (aG (val a1*val b2)) (aG (val a2*val b1)) (aU _) (aU _) (by rw[aZ]; omega) (by rw[aZ]; omega)
   have hs:=bqN (aG (val a1*val b2)) (aG (val a2*val b1))
   rw[aQ,aQ] at hc hs
   refine bC hs hc rfl PH.nil_le ?_
   simp only[go_sem,γ]
   refine bK .nil frS PH.nil_le ?_
   have z1:(!decide (val a1=0))=decide (val a1≠0):=by by_cases h:val a1=0<;>simp[h]
   have z2:(!decide (val a2=0))=decide (val a2≠0):=by by_cases h:val a2=0<;>simp[h]
   have fin:∀ (F:PF) (A B:Bool),F 6=some (.int .i64 (cY (val a1*val b2) (val a2*val b1)))→F 7=some (.bool A)→F 8=some (.bool B)→A=(n1&&decide (val a1≠0))→B=(n2&&decide (val a2≠0)) →
     aB.wp C (.seq (.block 0 (.seq (.region wU) (.cond (.tmp 42) (.seq (.region ajV) .ret) (.seq (.region DN) (.cond (.tmp 49) (.seq (.region ajW) .ret) (.seq (.region QT) (.cond (.tmp 51) (.seq (.region VE) .ret) .skip))))))) (.seq (.region VG) .ret)) (aR a3I.res (bP (.tup [.int .i64 (qE n1 (val a1) (val b1) n2 (val a2) (val b2)),.int .i64 0]))) F .nil:=by
    intro F A B f6 f7 f8 hA hB
    rw[qE,← hA,← hB]
    cases A<;>cases B
    ·simp only[go_sem,γ,reduceCtorEq,wU,DN,QT,VG,f6,f7,f8]
     exact aV (.inr rfl) .nil rfl PH.nil_le ⟨.refl _,rfl⟩
    ·simp only[go_sem,γ,reduceCtorEq,wU,DN,QT,VE,f6,f7,f8]
     exact aV (.inr rfl) .nil rfl PH.nil_le ⟨.refl _,rfl⟩
    ·simp only[go_sem,ο,γ,wU,DN,ajW,f6,f7,f8]
     exact aV (.inr rfl) .nil rfl PH.nil_le ⟨.refl _,rfl⟩
    ·simp only[go_sem,γ,wU,ajV,f6,f7,f8,biS]
     exact aV (.inr rfl) .nil rfl PH.nil_le ⟨.refl _,rfl⟩
   simp only[aB.wp,go_sem] at fin
   simp only[go_sem,δ,γ,θ,aTM]
   cases n1 with
   | false =>
    simp only[go_sem,δ,γ,θ,reduceCtorEq]
    cases n2 with
    | false =>
     simp only[go_sem,γ,reduceCtorEq]
     exact fin _ false false rfl rfl rfl rfl rfl
    | true =>
     simp only[go_sem,δ,γ]
     refine bC (VH true a2 b2) (L.zero true a2 b2 ha2 la2) rfl PH.nil_le ?_
     simp only[go_sem,γ,z2]
     exact fin _ false (decide (val a2≠0)) rfl rfl rfl rfl (by rw[bJC])
   | true =>
    simp only[go_sem,δ,γ]
    refine bC (VH true a1 b1) (L.zero true a1 b1 ha1 la1) rfl PH.nil_le ?_
    simp only[go_sem,δ,γ,θ,z1]
    cases n2 with
    | false =>
     simp only[go_sem,γ,reduceCtorEq]
     exact fin _ (decide (val a1≠0)) false rfl rfl rfl (by rw[bJC]) rfl
    | true =>
     simp only[go_sem,δ,γ]
     refine bC (VH true a2 b2) (L.zero true a2 b2 ha2 la2) rfl PH.nil_le ?_
     simp only[go_sem,γ,z2]
     exact fin _ (decide (val a1≠0)) (decide (val a2≠0)) rfl rfl rfl (by rw[bJC]) (by rw[bJC])
abbrev FV:=Bool × Nat × Nat
abbrev FR:=Except Int FV
def gQ (neg:Bool) (a b:Nat):FR :=
 if cC (a/bIR a b)>4096∨cC (b/bIR a b)>4096 then .error 2 else .ok (neg&&decide (a/bIR a b≠0),a/bIR a b,b/bIR a b)
def frV:FR→PV
 | .ok (n,a,b)=>a3T n a b
 | .error e=>zC e
theorem akK (neg:Bool) (a b:Nat):GB neg a b=frV (gQ neg a b):=by
 unfold GB gQ
 split<;>rfl
def gY:FV→FV→FR
 | (n1,a1,b1),(n2,a2,b2)=>if cK a1 b1&&cK a2 b2 then
   (if n1=n2 then gQ n1 (a1*b2+a2*b1) (b1*b2) else if a2*b1≤a1*b2 then gQ n1 (a1*b2-a2*b1) (b1*b2) else gQ n2 (a2*b1-a1*b2) (b1*b2))
  else .error 1
theorem aHC {a b m:Nat} (ha:nl a≤m) (hb:nl b≤m):nl (a+b)≤m+1:=by
 rw[jE] at ha hb ⊢
 rw[bKB]; omega
theorem QN (a b:Nat):(cY a b≥0)↔b≤a:=by
 unfold cY
 split
 ·constructor
  ·intro h; exact absurd h (by decide)
  ·intro h; omega
 ·split
  ·constructor
   ·intro h; omega
   ·intro h; decide
  ·constructor
   ·intro h; omega
   ·intro h; decide
theorem sP (r:FR):∃ neg' x y e,frV r=.tup [.agg (dX neg' x y),.int .i64 e]:=by
 rcases r with e | ⟨n,a,b⟩
 ·exact⟨_,_,_,_,rfl⟩
 ·exact⟨_,_,_,_,rfl⟩
theorem bqG {C:Ctx} (L:EI C) (n1 n2:Bool) (a1 b1 a2 b2:List Nat) (ha1:Lim a1) (hb1:Lim b1) (ha2:Lim a2) (hb2:Lim b2)
  (la1:a1.length≤35184372087808) (lb1:b1.length≤35184372087808) (la2:a2.length≤35184372087808) (lb2:b2.length≤35184372087808) :
  LP.wp C (aR VD.res (bP (frV (gY (n1,val a1,val b1) (n2,val a2,val b2))))) (PF.args [.agg (dX n1 a1 b1),.agg (dX n2 a2 b2)]) .nil:=by
 simp only[go_sem,δ,γ,LP,aTA]
 refine aO fun o ho=>?_
 simp only[go_sem,δ,γ,aTB]
 refine aA (L.valid n1 a1 b1 ha1 hb1 la1 lb1) rfl ?_
 simp only[gY]
 cases hv:cK (val a1) (val b1) with
 | false =>
  simp only[go_sem,δ,γ,reduceCtorEq,bIY,ajT,bIV]
  refine gI ?_
  simp only[go_sem,δ,γ,VD]
 | true =>
  obtain⟨v1,v2,v3⟩:=fC.1 hv
  simp only[go_sem,δ,γ,bIO]
  refine aA (L.valid n2 a2 b2 ha2 hb2 la2 lb2) rfl ?_
  cases hw:cK (val a2) (val b2) with
  | false =>
   simp only[go_sem,δ,γ,reduceCtorEq,bIY,ajT,bJW]
   refine gI ?_
   simp only[go_sem,δ,γ,VD]
  | true =>
   obtain⟨w1,w2,w3⟩:=fC.1 hw
   simp only[go_sem,γ,reduceCtorEq,bIO,bKZ]
   refine bK .nil frS PH.nil_le ?_
   simp only[go_sem,δ,γ,θ,aTC]
   refine bC (uF a1 b2) (L.times a1 b2 ha1 hb2 la1 lb2 Om Om) rfl PH.nil_le ?_
   simp only[go_sem,δ,γ,θ]
   refine bC (uF a2 b1) (L.times a2 b1 ha2 hb1 la2 lb1 Om Om) rfl PH.nil_le ?_
   simp only[go_sem,γ]
   refine bC (uF b1 b2) (L.times b1 b2 hb1 hb2 lb1 lb2 Om Om) rfl PH.nil_le ?_
   simp only[go_sem,γ]
   have m1:=kO v3 w2
   have m2:=kO w3 v2
   have m3:=kO v2 w2
   have d0:val b1*val b2≠0:=Nat.mul_ne_zero v1 w1
   generalize hA:val a1*val b2=A at *
   generalize hB:val a2*val b1=B at *
   generalize hD:val b1*val b2=D at *
   have fin:∀ (F:PF) (H:PH) (r:FR),(∃ neg' x y e,frV r=.tup [.agg (dX neg' x y),.int .i64 e]∧F 4=some (.ptr o 3 0 0)∧F 5=some (.int .i64 e)∧H o=some (.rows 3 [dX neg' x y]))→aR VD.res (bP (frV r)) .ret F H:=by
    rintro F H r ⟨neg',x,y,e,he,f4,f5,hH⟩
    rw[he]
    exact aV (.inr rfl) .nil (vs:=[.agg (dX neg' x y),.int .i64 e]) (by simp only[go_sem,δ,VD,f4,f5,hH]) PH.nil_le ⟨.refl _,rfl⟩
   have eb:(n1==n2)=decide (n1=n2):=by cases n1<;>cases n2<;>rfl
   have low:∀ neg x,nl x≤257→aH C 120 [.bool neg,aI (aG x),aI (aG D)] .nil (aD (frV (gQ neg x D))):=by
    intro neg x hx
    have h1:(aG x).length≤35184372087808:=by rw[aZ]; omega
    have h2:(aG D).length≤35184372087808:=by rw[aZ]; omega
    have:=L.lowest neg (aG x) (aG D) (aU _) (aU _) h1 h2
    rw[aQ,aQ,akK] at this
    exact this Om Om d0
   have lA:(aG A).length≤35184372087808:=by rw[aZ]; omega
   have lB:(aG B).length≤35184372087808:=by rw[aZ]; omega
   simp only[go_sem,δ,γ,θ,aTD]
   by_cases c:n1=n2
   ·rw[if_pos c]
    have c':(n1==n2)=true:=by rw[eb,decide_eq_true c]
    simp only[go_sem,γ,c',aTE]
    have hadd:=L.add (aG A) (aG B) (aU _) (aU _) lA lB
    have nab:=aHC m1 m2
    rw[aQ,aQ,gG Om Om,opV,yL Om] at hadd
    refine aA hadd rfl ?_
    simp only[go_sem,δ,γ,θ,reduceCtorEq,aTF]
    refine aA (low n1 _ Om) rfl ?_
    obtain⟨neg',x,y,e,hl⟩:=sP (gQ n1 (A+B) D)
    rw[hl]
    simp only[go_sem,δ,γ]
    rw[← hl]
    exact fin _ _ _ ⟨neg',x,y,e,hl,by simp only[go_sem,γ],by simp only[go_sem,γ],by simp only[go_sem]⟩
   ·rw[if_neg c]
    have c':(n1==n2)=false:=by rw[eb,decide_eq_false c]
    simp only[go_sem,γ,c',aTG]
    have hc:=L.cmp (aG A) (aG B) (aU _) (aU _) lA lB
    rw[aQ,aQ] at hc
    refine aA hc rfl ?_
    have hsub:∀ X Y:Nat,nl X≤256→nl Y≤256→Y≤X→aH C 134 [aI (aG X),aI (aG Y)] .nil (aD (.tup [aI (aG (X-Y)),.int .i64 0])):=by
     intro X Y h1 h2 h
     have:=L.sub (aG X) (aG Y) (aU _) (aU _) (by rw[aZ]; omega) (by rw[aZ]; omega)
     have h3:=fF (Om:X-Y≤X)
     rw[aQ,aQ,qH,gG Om Om,if_neg (by decide),if_neg Om,yL Om] at this
     exact this
    by_cases g:B≤A
    ·have g':cY A B≥0:=(QN A B).2 g
     rw[if_pos g]
     simp only[go_sem,γ,g',aTH]
     refine aA (hsub A B Om Om g) rfl ?_
     simp only[go_sem,δ,γ,θ,aTI]
     have h3:=fF (Om:A-B≤A)
     refine aA (low n1 (A-B) Om) rfl ?_
     obtain⟨neg',x,y,e,hl⟩:=sP (gQ n1 (A-B) D)
     rw[hl]
     simp only[go_sem,δ,γ]
     rw[← hl]
     exact fin _ _ _ ⟨neg',x,y,e,hl,by simp only[go_sem,γ],by simp only[go_sem,γ],by simp only[go_sem]⟩
    ·have g':¬ cY A B≥0:=fun h=>g ((QN A B).1 h)
     rw[if_neg g]
     simp only[go_sem,γ,g',aAM]
     refine aA (hsub B A Om Om Om) rfl ?_
     simp only[go_sem,δ,γ,θ,aAN]
     have h3:=fF (Om:B-A≤B)
     refine aA (low n2 (B-A) Om) rfl ?_
     obtain⟨neg',x,y,e,hl⟩:=sP (gQ n2 (B-A) D)
     rw[hl]
     simp only[go_sem,δ,γ]
     rw[← hl]
     exact fin _ _ _ ⟨neg',x,y,e,hl,by simp only[go_sem,γ],by simp only[go_sem,γ],by simp only[go_sem]⟩
structure RF where
 neg:Bool
 num:List Nat
 den:List Nat
abbrev RF.cells (x:RF):List PV:=dX x.neg x.num x.den
def RF.Ok (x:RF):Prop:=Lim x.num∧Lim x.den∧x.num.length≤35184372087808∧x.den.length≤35184372087808
def RF.v (x:RF):FV:=(x.neg,val x.num,val x.den)
abbrev frs (l:List RF):PV:=.sl 3 (l.map RF.cells)
def FV.rf:FV→RF
 | (n,a,b)=>⟨n,aG a,aG b⟩
def FV.Small:FV→Prop
 | (_,a,b)=>nl a≤900000∧nl b≤900000
theorem FV.bwJ (x:FV):x.rf.v=x:=by
 obtain⟨n,a,b⟩:=x
 show (n,val (aG a),val (aG b))=_
 rw[aQ,aQ]
def oN (l:List FV):FR:=l.foldlM gY (false,0,1)
theorem rQ {neg:Bool} {a b:Nat} {r:FV} (h:gQ neg a b=.ok r):r.Small∧r.rf.Ok:=by
 unfold gQ at h
 split at h
 ·cases h
 ·rename_i hc
  have h1:=(lC (a/bIR a b) 128).1 Om
  have h2:=(lC (b/bIR a b) 128).1 Om
  injection h with h
  subst h
  refine⟨⟨by omega,by omega⟩,aU _,aU _,?_,?_⟩
  ·show (aG _).length≤_
   rw[aZ]; omega
  ·show (aG _).length≤_
   rw[aZ]; omega
theorem ajO {x y r:FV} (h:gY x y=.ok r):r.rf.Ok:=by
 obtain⟨n1,a1,b1⟩:=x
 obtain⟨n2,a2,b2⟩:=y
 simp only[gY] at h
 split at h
 ·split at h
  ·exact (rQ h).2
  ·split at h
   ·exact (rQ h).2
   ·exact (rQ h).2
 ·cases h
theorem SJ {α β:Type} {f:β→α→Except Int β} (l:List α) (b:β) {k:Nat} (h:k<l.length):(l.take (k+1)).foldlM f b=((l.take k).foldlM f b).bind fun x=>f x l[k]:=by
 rw[bKM h,List.foldlM_append]
 cases (l.take k).foldlM f b with
 | error e=>rfl
 | ok x =>
  show ([l[k]]:List α).foldlM f x=f x l[k]
  rw[List.foldlM_cons]
  cases f x l[k]<;>rfl
theorem aaR {α β:Type} {f:β→α→Except Int β} (l:List α) (b:β) {k:Nat} {e:Int} (h:(l.take k).foldlM f b=.error e):l.foldlM f b=.error e:=by
 conv=>lhs; rw[← bLB k l,List.foldlM_append,h]
 rfl
def bnE (l:List RF) (o2 o4:Nat) (k:Nat):PF:=((((((PF.nil.set 2 (.ptr o2 3 0 0)).set 3 (.int .i64 0)).set 4 (.ptr o4 3 0 0)).set 11 (frs l)).set 12 (.int .i64 (l.length:Nat))).set 13 (.int .i64 k))
def YQ (o2 o4:Nat) (c:List PV):PH:=(PH.nil.set o2 (.rows 3 [[.bool false,.bGI,.bGI]])).set o4 (.rows 3 [c])
theorem bqQ {C:Ctx} (L:EI C) (hadd:∀ x y:RF,x.Ok→y.Ok→aH C 113 [.agg x.cells,.agg y.cells] .nil (aD (frV (gY x.v y.v)))) (l:List RF) (hl:∀ x∈l,x.Ok) (hlen:l.length≤9223372036854775807) :
  LW.wp C (aR ajY.res (bP (frV (oN (l.map RF.v))))) (PF.args [frs l]) .nil:=by
 simp only[go_sem,δ,LW,aTO]
 refine aO fun o2 ho2=>?_
 simp only[go_sem,aTP]
 refine aA (L.make 1 (by decide)) rfl ?_
 simp only[go_sem,δ,γ]
 refine aO fun o4 ho4=>?_
 have hne:o4≠o2:=by rintro rfl; simp only[bA,if_true] at ho4; cases ho4
 have bHN:o2≠o4:=Ne.symm hne
 simp only[go_sem,δ,γ,reduceCtorEq,aTQ]
 refine wp_loop (α:=Nat × FV × PV) (fun t=>bnE l o2 o4 t.1) (fun t=>YQ o2 o4 [.bool t.2.1.1,t.2.2,aI (aG t.2.1.2.2)]) (fun t=>t.1≤l.length∧((l.map RF.v).take t.1).foldlM gY (false,0,1)=.ok t.2.1∧(t.2.2=.bGI∧t.2.1.2.1=0∨t.2.2=aI (aG t.2.1.2.1))∧(FV.rf t.2.1).Ok) (fun t=>l.length-t.1)
  (0,(false,0,1),.bGI) ⟨bIT _,rfl,.inl ⟨rfl,rfl⟩,⟨aU _,aU _,?_,?_⟩⟩ ?_ ?_ ?_
 ·show (aG 0).length≤_
  rw[fA]; simp
 ·show (aG 1).length≤_
  rw[nE (by decide) (by decide)]; simp
 ·unfold bnE
  (repeat' (first|exact PF.nil_le|refine PF.aF ?_ ?_))<;>first|(simp only[go_sem,γ,bIM]<;>rfl)|rfl
 ·unfold YQ
  exact PH.aF (PH.aF PH.nil_le (by simp only[go_sem,bHN,hne])) (by simp only[go_sem,bHN,hne])
 rintro⟨k,⟨an,aa,ab⟩,cy⟩ ⟨hk,hf,hco,hacc⟩
 simp only at hk hf hco hacc ⊢
 have hco':CoL [.bool an,cy,aI (aG ab)] (FV.rf (an,aa,ab)).cells:=by
  refine .cons (.refl _) (.cons ?_ (.cons (.refl _) .nil))
  rcases hco with ⟨rfl,rfl⟩ | rfl
  ·show Co .bGI (aI (aG 0))
   rw[fA]; exact .nil 1
  ·exact .refl _
 simp only[go_sem,γ,aAX,aTR,bnE]
 by_cases hlt:k<l.length
 ·have bGO:(k:Int)<(l.length:Nat):=by omega
  have hr:(l.map RF.cells)[k]?=some (l[k]).cells:=by simp[hlt]
  simp only[go_sem,δ,γ,bGO,aTS,hr]
  refine aO fun o6 ho6=>?_
  have n64:o4≠o6:=by rintro rfl; simp only[YQ,bA,if_true] at ho6; cases ho6
  have n62:o2≠o6:=by rintro rfl; simp only[YQ,bA,if_true,if_neg bHN] at ho6; cases ho6
  simp only[go_sem,δ,γ,aTT,YQ,n64,n62,hne,bHN]
  refine aA ((hadd (FV.rf (an,aa,ab)) l[k] hacc (hl _ (bIS hlt))).args (.cons (CoL.agg hco') (.cons (.refl _) .nil))) rfl ?_
  rw[FV.bwJ]
  have bGP:=SJ (f:=gY) (l.map RF.v) (false,0,1) (k:=k) (by simpa using hlt)
  rw[hf] at bGP
  simp only[Except.bind,bKI] at bGP
  cases he:gY (an,aa,ab) (l[k]).v with
  | error e =>
   simp only[go_sem,δ,γ,frV]
   refine aO fun o7 ho7=>?_
   have he0:e≠0:=by
    revert he
    obtain⟨n2,a2,b2⟩:=(l[k]).v
    simp only[gY,gQ]
    repeat' split
    all_goals (intro h; first | (injection h with h; subst h; decide) | cases h)
   have n72:o2≠o7:=by rintro rfl; simp only[bA,n62,bHN,if_true,if_false] at ho7; cases ho7
   simp only[go_sem,δ,γ,ajZ,cQ he0,aTU,n72,n62,bHN]
   rw[he] at bGP
   rw[oN,aaR _ _ bGP]
   refine gI ?_
   simp only[go_sem,δ,γ,ajY]
  | ok r =>
   obtain⟨rn,ra,rb⟩:=r
   simp only[go_sem,δ,γ,frV]
   refine aO fun o7 ho7=>?_
   have n74:o4≠o7:=by rintro rfl; simp only[bA,n64,if_true,if_false] at ho7; cases ho7
   have n72:o2≠o7:=by rintro rfl; simp only[bA,n62,bHN,if_true,if_false] at ho7; cases ho7
   simp only[go_sem,σ,δ,γ,ajZ,aTV,n74,n72,n64,n62,hne,bHN,Ne.symm n74,aTW,ws k]
   rw[he] at bGP
   refine aC (k+1,(rn,ra,rb),aI (aG ra)) ⟨hlt,bGP,.inr rfl,ajO he⟩ (by simp only; omega) ?_ ?_
   ·exact Lq
   ·refine PH.aF (PH.aF PH.nil_le ?_) ?_
    ·simp only[go_sem,bHN,hne,n74,n72,n64,n62]
    ·simp only[go_sem,bHN,hne,n74,n72,n64,n62]
 ·have bGO:¬ (k:Int)<(l.length:Nat):=by omega
  have:k=l.length:=by omega
  subst this
  rw[bJD (by simp)] at hf
  rw[oN,hf]
  have hfin:bP (frV (.ok (an,aa,ab))) (bH [.agg [.bool an,cy,aI (aG ab)],.int .i64 0]) .nil:=⟨CoL.tup (.cons (CoL.agg hco') (.cons (.refl _) .nil)),rfl⟩
  rcases hco with ⟨rfl,rfl⟩ | rfl
  ·simp only[go_sem,δ,γ,bGO,VJ,YQ,hne,bHN]
   refine aV (.inr rfl) .nil ?_ PH.nil_le hfin
   simp only[go_sem,δ,γ,ajY,hne,bHN]
  ·simp only[go_sem,δ,γ,bGO,VJ,YQ,hne,bHN]
   refine aV (.inr rfl) .nil ?_ PH.nil_le hfin
   simp only[go_sem,δ,γ,ajY,hne,bHN]
end Go.PM
