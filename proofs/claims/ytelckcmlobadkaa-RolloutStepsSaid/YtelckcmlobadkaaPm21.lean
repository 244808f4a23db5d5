/-
  PM21: rules for 'simp': how a body is run over pure values. No condition.
-/
import Derived.Test.YtelckcmlobadkaaPm20c
set_option linter.unusedSimpArgs false
set_option linter.unusedVariables false
namespace Go.PM
open Go

attribute [go_sem] List.getElem?_cons_succ List.getElem?_cons_zero and_self and_true true_and or_true true_or or_false false_or Bool.not_true Bool.not_false Option.map_some Option.bind_some if_true if_false List.length_cons List.length_nil List.drop_succ_cons List.drop_zero List.take_succ_cons List.take_zero List.map_cons List.map_nil Option.some.injEq PV.bool.injEq PV.int.injEq peval PV.bin binInt

section
variable {C : Ctx} {K : Kont} {F : PF} {H : PH}

@[go_sem] theorem wp_skip' : PCode.wp C .skip K F H = K .normal F H := rfl
@[go_sem] theorem wp_region' (ops : List PInstr) : PCode.wp C (.region ops) K F H = wpOps C ops (K .normal) F H := rfl
@[go_sem] theorem wp_seq' (a b : PCode) : PCode.wp C (.seq a b) K F H = a.wp C (seqK C (b.wp C) K) F H := rfl
@[go_sem] theorem wp_block' (id : Nat) (c : PCode) : PCode.wp C (.block id c) K F H = c.wp C (blockK id K) F H := rfl
@[go_sem] theorem wp_exit' (id : Nat) : PCode.wp C (.exit id) K F H = K (.exit id) F H := rfl
@[go_sem] theorem wp_ret' : PCode.wp C .ret K F H = K .ret F H := rfl

def condP (C : Ctx) (v : Option PV) (a b : PCode) (K : Kont) (F : PF) (H : PH) : Prop :=
  match v with
  | some (.bool t) => if t then a.wp C K F H else b.wp C K F H
  | _ => False
@[go_sem] theorem wp_cond' (c : POpd) (a b : PCode) : PCode.wp C (.cond c a b) K F H = condP C (c.ev F) a b K F H := rfl
@[go_sem] theorem condP_true (a b : PCode) : condP C (some (.bool true)) a b K F H = a.wp C K F H := rfl
@[go_sem] theorem condP_false (a b : PCode) : condP C (some (.bool false)) a b K F H = b.wp C K F H := rfl
theorem condP_of {t : Bool} {a b : PCode} (h1 : t = true → a.wp C K F H) (h2 : t = false → b.wp C K F H) : condP C (some (.bool t)) a b K F H := by
  cases t
  · exact h2 rfl
  · exact h1 rfl

@[go_sem] theorem seqK_normal (w : Kont → PF → PH → Prop) : seqK C w K .normal F H = w K F H := rfl
@[go_sem] theorem seqK_normal' (w : Kont → PF → PH → Prop) : seqK C w K .normal = w K := rfl
@[go_sem] theorem seqK_exit (w : Kont → PF → PH → Prop) (id : Nat) : seqK C w K (.exit id) = K (.exit id) := rfl
@[go_sem] theorem seqK_ret (w : Kont → PF → PH → Prop) : seqK C w K .ret = K .ret := rfl
@[go_sem] theorem blockK_normal (id : Nat) : blockK id K .normal = K .normal := rfl
@[go_sem] theorem blockK_ret (id : Nat) : blockK id K .ret = K .ret := rfl
@[go_sem] theorem blockK_exit (id id' : Nat) : blockK id K (.exit id') F H = if id' = id then K .normal F H else K (.exit id') F H := rfl

@[go_sem] theorem wpOps_nil' (K : PF → PH → Prop) : wpOps C [] K F H = K F H := rfl
@[go_sem] theorem wpOps_none (d : Option Nat) (op : POp) (rest : List PInstr) (K : PF → PH → Prop) : wpOps C (⟨d, op, none⟩ :: rest) K F H = wpOp C op d (wpOps C rest K) F H := rfl

theorem set_same_val {t : Nat} {v : PV} (h : F t = some v) : F.set t v = F := by
  funext i
  simp only [PF.set, upd]
  split
  · rename_i e; subst e; exact h.symm
  · rfl

/-- A guarded operation. -/
def guardP (C : Ctx) (v : Option PV) (want : Bool) (op : POp) (d : Option Nat) (rest : List PInstr) (K : PF → PH → Prop) (F : PF) (H : PH) : Prop :=
  match v with
  | some (.bool b) => if b = want then wpOp C op d (wpOps C rest K) F H else wpOps C rest K (F.put d (.tup [])) H
  | some (.tup []) => wpOps C rest K (F.put d (.tup [])) H
  | _ => False
@[go_sem] theorem wpOps_guard (d : Option Nat) (op : POp) (t : Nat) (want : Bool) (rest : List PInstr) (K : PF → PH → Prop) :
    wpOps C (⟨d, op, some (t, want)⟩ :: rest) K F H = guardP C (F t) want op d rest K F H := rfl
@[go_sem] theorem guardP_tt (op : POp) (d : Option Nat) (rest : List PInstr) (K : PF → PH → Prop) : guardP C (some (.bool true)) true op d rest K F H = wpOp C op d (wpOps C rest K) F H := rfl
@[go_sem] theorem guardP_ff (op : POp) (d : Option Nat) (rest : List PInstr) (K : PF → PH → Prop) : guardP C (some (.bool false)) false op d rest K F H = wpOp C op d (wpOps C rest K) F H := rfl
@[go_sem] theorem guardP_tf (op : POp) (d : Option Nat) (rest : List PInstr) (K : PF → PH → Prop) : guardP C (some (.bool true)) false op d rest K F H = wpOps C rest K (F.put d (.tup [])) H := rfl
@[go_sem] theorem guardP_ft (op : POp) (d : Option Nat) (rest : List PInstr) (K : PF → PH → Prop) : guardP C (some (.bool false)) true op d rest K F H = wpOps C rest K (F.put d (.tup [])) H := rfl
@[go_sem] theorem guardP_skip (want : Bool) (op : POp) (d : Option Nat) (rest : List PInstr) (K : PF → PH → Prop) : guardP C (some (.tup [])) want op d rest K F H = wpOps C rest K (F.put d (.tup [])) H := rfl
/-- A guard of unknown truth: the guard's slot learns which. -/
theorem guardP_of {b want : Bool} {op : POp} {d : Option Nat} {rest : List PInstr} {K : PF → PH → Prop} (h1 : b = want → wpOp C op d (wpOps C rest K) F H) (h2 : b = !want → wpOps C rest K (F.put d (.tup [])) H) :
    guardP C (some (.bool b)) want op d rest K F H := by
  unfold guardP
  simp only
  split
  · rename_i e; exact h1 e
  · rename_i e; exact h2 (by cases b <;> cases want <;> simp_all)

@[go_sem] theorem put_some (d : Nat) (v : PV) : F.put (some d) v = F.set d v := rfl
@[go_sem] theorem put_none (v : PV) : F.put none v = F := rfl
@[go_sem] theorem set_at (i j : Nat) (v : PV) : (F.set i v) j = if j = i then some v else F j := rfl
@[go_sem] theorem args_at (vs : List PV) (i : Nat) : PF.args vs i = vs[i]? := rfl
@[go_sem] theorem nil_at (i : Nat) : PF.nil i = none := rfl
@[go_sem] theorem ev_tmp (t : Nat) : (POpd.tmp t).ev F = F t := rfl
@[go_sem] theorem ev_const (v : PV) : (POpd.const v).ev F = some v := rfl
@[go_sem] theorem hset_at (i j : Nat) (x : PObj) : (H.set i x) j = if j = i then some x else H j := rfl
@[go_sem] theorem hnil_at (i : Nat) : PH.nil i = none := rfl
@[go_sem] theorem evs_nil : POpd.evs F [] = some [] := rfl
@[go_sem] theorem evs_cons (x : POpd) (xs : List POpd) : POpd.evs F (x :: xs) = (match x.ev F, POpd.evs F xs with | some v, some vs => some (v :: vs) | _, _ => none) := rfl
theorem hset_none {i j : Nat} {x : PObj} : (H.set i x) j = none ↔ j ≠ i ∧ H j = none := by
  rw [hset_at]
  split <;> simp_all

@[go_sem] theorem wpCalm_some (v : PV) (d : Option Nat) (K : PF → PH → Prop) : wpCalm (some v) d K F H = K (F.put d v) H := by
  simp [wpCalm]
theorem wpNew_some {mk : Nat → PV} {x : PObj} {d : Option Nat} {K : PF → PH → Prop} (h : ∀ o, H o = none → K (F.put d (mk o)) (H.set o x)) : wpNew (some (mk, x)) d K F H := ⟨mk, x, rfl, h⟩

-- one rule for each operation
@[go_sem] theorem wpOp_mv (x : POpd) (d : Option Nat) (K : PF → PH → Prop) : wpOp C (.mv x) d K F H = wpCalm (peval (.mv x) F H) d K F H := rfl
@[go_sem] theorem wpOp_same (x : POpd) (d : Option Nat) (K : PF → PH → Prop) : wpOp C (.same x) d K F H = wpCalm (peval (.same x) F H) d K F H := rfl
@[go_sem] theorem wpOp_pick (c a b : POpd) (d : Option Nat) (K : PF → PH → Prop) : wpOp C (.pick c a b) d K F H = wpCalm (peval (.pick c a b) F H) d K F H := rfl
@[go_sem] theorem wpOp_bin (o : BinOp) (x y : POpd) (d : Option Nat) (K : PF → PH → Prop) : wpOp C (.bin o x y) d K F H = wpCalm (peval (.bin o x y) F H) d K F H := rfl
@[go_sem] theorem wpOp_eqb (n : Bool) (x y : POpd) (d : Option Nat) (K : PF → PH → Prop) : wpOp C (.eqb n x y) d K F H = wpCalm (peval (.eqb n x y) F H) d K F H := rfl
@[go_sem] theorem wpOp_eqs (n : Bool) (ks : List Sc) (x y : POpd) (d : Option Nat) (K : PF → PH → Prop) : wpOp C (.eqs n ks x y) d K F H = wpCalm (peval (.eqs n ks x y) F H) d K F H := rfl
@[go_sem] theorem wpOp_un (o : UnOp) (x : POpd) (d : Option Nat) (K : PF → PH → Prop) : wpOp C (.un o x) d K F H = wpCalm (peval (.un o x) F H) d K F H := rfl
@[go_sem] theorem wpOp_conv (k : IntKind) (x : POpd) (d : Option Nat) (K : PF → PH → Prop) : wpOp C (.conv k x) d K F H = wpCalm (peval (.conv k x) F H) d K F H := rfl
@[go_sem] theorem wpOp_build (z : List PV) (ps : List (Nat × Nat × POpd)) (d : Option Nat) (K : PF → PH → Prop) : wpOp C (.build z ps) d K F H = wpCalm (peval (.build z ps) F H) d K F H := rfl
@[go_sem] theorem wpOp_load (n : Option Nat) (p : POpd) (d : Option Nat) (K : PF → PH → Prop) : wpOp C (.load n p) d K F H = wpCalm (peval (.load n p) F H) d K F H := rfl
@[go_sem] theorem wpOp_nilchk (x : POpd) (d : Option Nat) (K : PF → PH → Prop) : wpOp C (.nilchk x) d K F H = wpCalm (peval (.nilchk x) F H) d K F H := rfl
@[go_sem] theorem wpOp_fieldA (off : Nat) (x : POpd) (d : Option Nat) (K : PF → PH → Prop) : wpOp C (.fieldA off x) d K F H = wpCalm (peval (.fieldA off x) F H) d K F H := rfl
@[go_sem] theorem wpOp_field (off : Nat) (n : Option Nat) (x : POpd) (d : Option Nat) (K : PF → PH → Prop) : wpOp C (.field off n x) d K F H = wpCalm (peval (.field off n x) F H) d K F H := rfl
@[go_sem] theorem wpOp_idxS (s : Nat) (x i : POpd) (d : Option Nat) (K : PF → PH → Prop) : wpOp C (.idxS s x i) d K F H = wpCalm (peval (.idxS s x i) F H) d K F H := rfl
@[go_sem] theorem wpOp_idxA (n s : Nat) (x i : POpd) (d : Option Nat) (K : PF → PH → Prop) : wpOp C (.idxA n s x i) d K F H = wpCalm (peval (.idxA n s x i) F H) d K F H := rfl
@[go_sem] theorem wpOp_idxV (n s : Nat) (g : Bool) (x i : POpd) (d : Option Nat) (K : PF → PH → Prop) : wpOp C (.idxV n s g x i) d K F H = wpCalm (peval (.idxV n s g x i) F H) d K F H := rfl
@[go_sem] theorem wpOp_idxStr (x i : POpd) (d : Option Nat) (K : PF → PH → Prop) : wpOp C (.idxStr x i) d K F H = wpCalm (peval (.idxStr x i) F H) d K F H := rfl
@[go_sem] theorem wpOp_slice (s : Nat) (x : POpd) (lo hi mx : Option POpd) (d : Option Nat) (K : PF → PH → Prop) : wpOp C (.slice s x lo hi mx) d K F H = wpCalm (peval (.slice s x lo hi mx) F H) d K F H := rfl
@[go_sem] theorem wpOp_sliceStr (x : POpd) (lo hi : Option POpd) (d : Option Nat) (K : PF → PH → Prop) : wpOp C (.sliceStr x lo hi) d K F H = wpCalm (peval (.sliceStr x lo hi) F H) d K F H := rfl
@[go_sem] theorem wpOp_len (x : POpd) (d : Option Nat) (K : PF → PH → Prop) : wpOp C (.len x) d K F H = wpCalm (peval (.len x) F H) d K F H := rfl
@[go_sem] theorem wpOp_lenStr (x : POpd) (d : Option Nat) (K : PF → PH → Prop) : wpOp C (.lenStr x) d K F H = wpCalm (peval (.lenStr x) F H) d K F H := rfl
@[go_sem] theorem wpOp_capNil (x : POpd) (d : Option Nat) (K : PF → PH → Prop) : wpOp C (.capNil x) d K F H = wpCalm (peval (.capNil x) F H) d K F H := rfl
@[go_sem] theorem wpOp_extract (x : POpd) (i : Nat) (d : Option Nat) (K : PF → PH → Prop) : wpOp C (.extract x i) d K F H = wpCalm (peval (.extract x i) F H) d K F H := rfl
@[go_sem] theorem wpOp_minmax (m : Bool) (x y : POpd) (d : Option Nat) (K : PF → PH → Prop) : wpOp C (.minmax m x y) d K F H = wpCalm (peval (.minmax m x y) F H) d K F H := rfl
@[go_sem] theorem wpOp_mkfn (n : Nat) (cs : List POpd) (d : Option Nat) (K : PF → PH → Prop) : wpOp C (.mkfn n cs) d K F H = wpCalm (peval (.mkfn n cs) F H) d K F H := rfl
@[go_sem] theorem wpOp_lookup (sh : MSh) (z : PV) (x k : POpd) (ok : Bool) (d : Option Nat) (K : PF → PH → Prop) : wpOp C (.lookup sh z x k ok) d K F H = wpCalm (peval (.lookup sh z x k ok) F H) d K F H := rfl
@[go_sem] theorem wpOp_bytes2str (x : POpd) (d : Option Nat) (K : PF → PH → Prop) : wpOp C (.bytes2str x) d K F H = wpCalm (peval (.bytes2str x) F H) d K F H := rfl
@[go_sem] theorem wpOp_boxR (x : POpd) (d : Option Nat) (K : PF → PH → Prop) : wpOp C (.box true x) d K F H = wpCalm (peval (.box true x) F H) d K F H := rfl
@[go_sem] theorem wpOp_bsliceR (s l : Nat) (z : List PV) (ps : List (Nat × POpd)) (d : Option Nat) (K : PF → PH → Prop) : wpOp C (.bslice true s l z ps) d K F H = wpCalm (peval (.bslice true s l z ps) F H) d K F H := rfl
@[go_sem] theorem wpOp_alloc (cs : List PV) (d : Option Nat) (K : PF → PH → Prop) : wpOp C (.alloc cs) d K F H = wpNew (allocOf (.alloc cs) F) d K F H := rfl
@[go_sem] theorem wpOp_mkslice (s b : Nat) (z : List PV) (l c : POpd) (d : Option Nat) (K : PF → PH → Prop) : wpOp C (.mkslice s b z l c) d K F H = wpNew (allocOf (.mkslice s b z l c) F) d K F H := rfl
@[go_sem] theorem wpOp_mkmap (sh : MSh) (d : Option Nat) (K : PF → PH → Prop) : wpOp C (.mkmap sh) d K F H = wpNew (allocOf (.mkmap sh) F) d K F H := rfl
@[go_sem] theorem wpOp_box (x : POpd) (d : Option Nat) (K : PF → PH → Prop) : wpOp C (.box false x) d K F H = wpNew (allocOf (.box false x) F) d K F H := rfl
@[go_sem] theorem wpOp_bslice (s l : Nat) (z : List PV) (ps : List (Nat × POpd)) (d : Option Nat) (K : PF → PH → Prop) : wpOp C (.bslice false s l z ps) d K F H = wpNew (allocOf (.bslice false s l z ps) F) d K F H := rfl
@[go_sem] theorem wpOp_store (n : Nat) (p x : POpd) (d : Option Nat) (K : PF → PH → Prop) : wpOp C (.store n p x) d K F H = wpWrite (.store n p x) F H (fun r H' => K (F.put d r) H') := rfl
@[go_sem] theorem wpOp_append (s b : Nat) (x y : POpd) (d : Option Nat) (K : PF → PH → Prop) : wpOp C (.append s b x y) d K F H = wpWrite (.append s b x y) F H (fun r H' => K (F.put d r) H') := rfl
@[go_sem] theorem wpOp_mapset (sh : MSh) (x k v : POpd) (d : Option Nat) (K : PF → PH → Prop) : wpOp C (.mapset sh x k v) d K F H = wpWrite (.mapset sh x k v) F H (fun r H' => K (F.put d r) H') := rfl
@[go_sem] theorem wpOp_insert (sh : MSh) (x k v : POpd) (d : Option Nat) (K : PF → PH → Prop) : wpOp C (.insert sh x k v) d K F H = wpWrite (.insert sh x k v) F H (fun r H' => K (F.put d r) H') := rfl
@[go_sem] theorem wpOp_call (n : Nat) (as : List POpd) (d : Option Nat) (K : PF → PH → Prop) : wpOp C (.call n as) d K F H = wpCall C n as [] d K F H := rfl
@[go_sem] theorem wpOp_callv (x : POpd) (as : List POpd) (d : Option Nat) (K : PF → PH → Prop) : wpOp C (.callv x as) d K F H = (∃ n cs, x.ev F = some (.fn n cs) ∧ wpCall C n as cs d K F H) := rfl

theorem PF.nil_le : PF.nil.le F := fun _ _ h => (by cases h)
theorem PF.set_le {i : Nat} {v : PV} {G : PF} (h1 : F.le G) (h2 : G i = some v) : (F.set i v).le G := by
  intro j u hj
  rw [set_at] at hj
  split at hj
  · rename_i e; subst e; cases hj; exact h2
  · exact h1 _ _ hj
theorem PF.le_refl : F.le F := fun _ _ h => h
theorem PH.nil_le : PH.nil.le H := fun _ _ h => (by cases h)
theorem PH.set_le {i : Nat} {x : PObj} {G : PH} (h1 : H.le G) (h2 : G i = some x) : (H.set i x).le G := by
  intro j u hj
  rw [hset_at] at hj
  split at hj
  · rename_i e; subst e; cases hj; exact h2
  · exact h1 _ _ hj
theorem PH.le_refl : H.le H := fun _ _ h => h

/-- A loop, nothing given up. -/
theorem wp_loop {c : PCode} {α : Type} (Fs : α → PF) (Hs : α → PH) (Pr : α → Prop) (m : α → Nat) (a0 : α) (h0 : Pr a0) (hF : (Fs a0).le F) (hH : (Hs a0).le H)
    (hb : ∀ a, Pr a → c.wp C (loopK Fs Hs Pr m (m a) K) (Fs a) (Hs a)) : PCode.wp C (.loop c) K F H :=
  ⟨α, Fs, Hs, Pr, m, a0, F, H, .refl F H, h0, hF, hH, hb⟩
theorem loopK_normal {α : Type} {Fs : α → PF} {Hs : α → PH} {Pr : α → Prop} {m : α → Nat} {n : Nat} (a : α) (h0 : Pr a) (hm : m a < n) (hF : (Fs a).le F) (hH : (Hs a).le H) : loopK Fs Hs Pr m n K .normal F H :=
  ⟨a, F, H, .refl F H, h0, hm, hF, hH⟩
@[go_sem] theorem loopK_exit {α : Type} {Fs : α → PF} {Hs : α → PH} {Pr : α → Prop} {m : α → Nat} {n : Nat} (id : Nat) : loopK Fs Hs Pr m n K (.exit id) = K (.exit id) := rfl
@[go_sem] theorem loopK_ret {α : Type} {Fs : α → PF} {Hs : α → PH} {Pr : α → Prop} {m : α → Nat} {n : Nat} : loopK Fs Hs Pr m n K .ret = K .ret := rfl

/-- What a call yields that owns nothing and is known. -/
def Gives (v : PV) (r : PV) (H : PH) : Prop := r = v ∧ H = PH.nil

theorem PH.over_nil : H.over .nil .nil = H := PH.ext fun o => rfl
theorem wpCall_pure {name : Nat} {vs cs : List PV} {v : PV} {args : List POpd} {d : Option Nat} {K : PF → PH → Prop} (h : ECalls C name (vs ++ cs) .nil (Gives v)) (ha : POpd.evs F args = some vs)
    (hk : K (F.put d v) H) : wpCall C name args cs d K F H := by
  refine .inl ⟨vs ++ cs, .nil, _, by rw [ha]; rfl, PH.nil_le, h, ?_⟩
  rintro r H' ⟨rfl, rfl⟩ _
  rw [PH.over_nil]
  exact hk
theorem wpCall_pure0 {name : Nat} {vs : List PV} {v : PV} {args : List POpd} {d : Option Nat} {K : PF → PH → Prop} (h : ECalls C name vs .nil (Gives v)) (ha : POpd.evs F args = some vs)
    (hk : K (F.put d v) H) : wpCall C name args [] d K F H := wpCall_pure (cs := []) (by rw [List.append_nil]; exact h) ha hk

theorem retK_pure {res : List PRes} {vs : List PV} {v : PV} {e : PExit} (he : e = .normal ∨ e = .ret) (h : PRes.evs F H res = some vs) (hv : packRes vs = v) : retK res (Gives v) e F H := by
  have key : ∃ vs, PRes.evs F H res = some vs ∧ ∃ F1 H1 H2, SFrz (PF.nil.set 0 (packRes vs)) H F1 H1 ∧ H2.le H1 ∧ ∃ u, F1 0 = some u ∧ Gives v u H2 :=
    ⟨vs, h, _, H, .nil, .refl _ _, PH.nil_le, v, by rw [set_at, if_pos rfl, hv], rfl, rfl⟩
  rcases he with rfl | rfl <;> exact key
@[go_sem] theorem rev_nil : PRes.evs F H [] = some [] := rfl
@[go_sem] theorem rev_cons (x : PRes) (xs : List PRes) : PRes.evs F H (x :: xs) = (match x.ev F H, PRes.evs F H xs with | some v, some vs => some (v :: vs) | _, _ => none) := rfl
@[go_sem] theorem rev_tmp (t : Nat) : PRes.ev F H (.tmp t) = F t := rfl
@[go_sem] theorem rev_cell (t : Nat) : PRes.ev F H (.cell t none) = (match F t with | some p => (match loadCells H p 1 with | some [v] => some v | _ => none) | none => none) := rfl
@[go_sem] theorem rev_cells (t k : Nat) : PRes.ev F H (.cell t (some k)) = (match F t with | some p => (loadCells H p k).map .agg | none => none) := rfl
end
end Go.PM
