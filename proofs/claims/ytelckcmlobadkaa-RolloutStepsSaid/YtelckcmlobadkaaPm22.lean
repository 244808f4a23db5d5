/-
  PM22: rules for 'simp': regions that draw their order. No condition.
-/
import Derived.Test.YtelckcmlobadkaaPm21
set_option linter.unusedSimpArgs false
set_option linter.unusedVariables false
namespace Go.PM
open Go

section
variable {C : Ctx} {K : Kont} {F : PF} {H Hs : PH} {S : Spec}

/-- A region that draws its order, with what stays and what is taken of the calls. -/
theorem wp_draw {ops : List (PInstr × Bool)} (Hs : PH) (S : Spec) (hle : Hs.le H) (h : wpD C Hs S ops (K .normal) F H) : PCode.wp C (.draw ops) K F H := ⟨Hs, S, hle, h⟩
def noCalls : Spec := fun _ _ => none

def dOp (C : Ctx) (Hs : PH) (S : Spec) (st : Bool) (op : POp) (d : Option Nat) (K : PF → PH → Prop) (F : PF) (H : PH) : Prop := (op.kind F).run C Hs S st (fun v H' => K (F.put d v) H') H

@[go_sem] theorem wpD_nil' (K : PF → PH → Prop) : wpD C Hs S [] K F H = K F H := rfl
@[go_sem] theorem wpD_none (d : Option Nat) (op : POp) (st : Bool) (rest : List (PInstr × Bool)) (K : PF → PH → Prop) : wpD C Hs S ((⟨d, op, none⟩, st) :: rest) K F H = dOp C Hs S st op d (wpD C Hs S rest K) F H := rfl

def guardD (C : Ctx) (Hs : PH) (S : Spec) (v : Option PV) (want st : Bool) (op : POp) (d : Option Nat) (rest : List (PInstr × Bool)) (K : PF → PH → Prop) (F : PF) (H : PH) : Prop :=
  match v with
  | some (.bool b) => if b = want then dOp C Hs S st op d (wpD C Hs S rest K) F H else wpD C Hs S rest K (F.put d (.tup [])) H
  | some (.tup []) => wpD C Hs S rest K (F.put d (.tup [])) H
  | _ => False
@[go_sem] theorem wpD_guard (d : Option Nat) (op : POp) (t : Nat) (want st : Bool) (rest : List (PInstr × Bool)) (K : PF → PH → Prop) :
    wpD C Hs S ((⟨d, op, some (t, want)⟩, st) :: rest) K F H = guardD C Hs S (F t) want st op d rest K F H := by
  have e1 : wpD C Hs S ((⟨d, op, some (t, want)⟩, st) :: rest) K F H = ((⟨d, op, some (t, want)⟩ : PInstr).kind F).run C Hs S st (fun v H' => wpD C Hs S rest K (F.put d v) H') H := rfl
  rw [e1]
  unfold PInstr.kind guardD
  simp only
  cases F t with
  | none => rfl
  | some v =>
    cases v
    case bool b =>
      simp only
      by_cases hb : b = want
      · rw [if_pos hb, if_pos hb]; rfl
      · rw [if_neg hb, if_neg hb]; simp [Kind.run]
    case tup vs => cases vs <;> simp [Kind.run]
    all_goals rfl
@[go_sem] theorem guardD_tt (op : POp) (st : Bool) (d : Option Nat) (rest : List (PInstr × Bool)) (K : PF → PH → Prop) : guardD C Hs S (some (.bool true)) true st op d rest K F H = dOp C Hs S st op d (wpD C Hs S rest K) F H := rfl
@[go_sem] theorem guardD_ff (op : POp) (st : Bool) (d : Option Nat) (rest : List (PInstr × Bool)) (K : PF → PH → Prop) : guardD C Hs S (some (.bool false)) false st op d rest K F H = dOp C Hs S st op d (wpD C Hs S rest K) F H := rfl
@[go_sem] theorem guardD_tf (op : POp) (st : Bool) (d : Option Nat) (rest : List (PInstr × Bool)) (K : PF → PH → Prop) : guardD C Hs S (some (.bool true)) false st op d rest K F H = wpD C Hs S rest K (F.put d (.tup [])) H := rfl
@[go_sem] theorem guardD_ft (op : POp) (st : Bool) (d : Option Nat) (rest : List (PInstr × Bool)) (K : PF → PH → Prop) : guardD C Hs S (some (.bool false)) true st op d rest K F H = wpD C Hs S rest K (F.put d (.tup [])) H := rfl
@[go_sem] theorem guardD_skip (want : Bool) (op : POp) (st : Bool) (d : Option Nat) (rest : List (PInstr × Bool)) (K : PF → PH → Prop) : guardD C Hs S (some (.tup [])) want st op d rest K F H = wpD C Hs S rest K (F.put d (.tup [])) H := rfl
theorem guardD_of {b want st : Bool} {op : POp} {d : Option Nat} {rest : List (PInstr × Bool)} {K : PF → PH → Prop} (h1 : b = want → dOp C Hs S st op d (wpD C Hs S rest K) F H) (h2 : b = !want → wpD C Hs S rest K (F.put d (.tup [])) H) :
    guardD C Hs S (some (.bool b)) want st op d rest K F H := by
  unfold guardD
  simp only
  split
  · rename_i e; exact h1 e
  · rename_i e; exact h2 (by cases b <;> cases want <;> simp_all)

@[go_sem] theorem dOp_mv (x : POpd) (st : Bool) (d : Option Nat) (K : PF → PH → Prop) : dOp C Hs S st (.mv x) d K F H = wpCalm (peval (.mv x) F (if st then Hs else H)) d K F H := rfl
@[go_sem] theorem dOp_same (x : POpd) (st : Bool) (d : Option Nat) (K : PF → PH → Prop) : dOp C Hs S st (.same x) d K F H = wpCalm (peval (.same x) F (if st then Hs else H)) d K F H := rfl
@[go_sem] theorem dOp_pick (c a b : POpd) (st : Bool) (d : Option Nat) (K : PF → PH → Prop) : dOp C Hs S st (.pick c a b) d K F H = wpCalm (peval (.pick c a b) F (if st then Hs else H)) d K F H := rfl
@[go_sem] theorem dOp_bin (o : BinOp) (x y : POpd) (st : Bool) (d : Option Nat) (K : PF → PH → Prop) : dOp C Hs S st (.bin o x y) d K F H = wpCalm (peval (.bin o x y) F (if st then Hs else H)) d K F H := rfl
@[go_sem] theorem dOp_eqb (n : Bool) (x y : POpd) (st : Bool) (d : Option Nat) (K : PF → PH → Prop) : dOp C Hs S st (.eqb n x y) d K F H = wpCalm (peval (.eqb n x y) F (if st then Hs else H)) d K F H := rfl
@[go_sem] theorem dOp_eqs (n : Bool) (ks : List Sc) (x y : POpd) (st : Bool) (d : Option Nat) (K : PF → PH → Prop) : dOp C Hs S st (.eqs n ks x y) d K F H = wpCalm (peval (.eqs n ks x y) F (if st then Hs else H)) d K F H := rfl
@[go_sem] theorem dOp_un (o : UnOp) (x : POpd) (st : Bool) (d : Option Nat) (K : PF → PH → Prop) : dOp C Hs S st (.un o x) d K F H = wpCalm (peval (.un o x) F (if st then Hs else H)) d K F H := rfl
@[go_sem] theorem dOp_conv (k : IntKind) (x : POpd) (st : Bool) (d : Option Nat) (K : PF → PH → Prop) : dOp C Hs S st (.conv k x) d K F H = wpCalm (peval (.conv k x) F (if st then Hs else H)) d K F H := rfl
@[go_sem] theorem dOp_build (z : List PV) (ps : List (Nat × Nat × POpd)) (st : Bool) (d : Option Nat) (K : PF → PH → Prop) : dOp C Hs S st (.build z ps) d K F H = wpCalm (peval (.build z ps) F (if st then Hs else H)) d K F H := rfl
@[go_sem] theorem dOp_load (n : Option Nat) (p : POpd) (st : Bool) (d : Option Nat) (K : PF → PH → Prop) : dOp C Hs S st (.load n p) d K F H = wpCalm (peval (.load n p) F (if st then Hs else H)) d K F H := rfl
@[go_sem] theorem dOp_nilchk (x : POpd) (st : Bool) (d : Option Nat) (K : PF → PH → Prop) : dOp C Hs S st (.nilchk x) d K F H = wpCalm (peval (.nilchk x) F (if st then Hs else H)) d K F H := rfl
@[go_sem] theorem dOp_fieldA (off : Nat) (x : POpd) (st : Bool) (d : Option Nat) (K : PF → PH → Prop) : dOp C Hs S st (.fieldA off x) d K F H = wpCalm (peval (.fieldA off x) F (if st then Hs else H)) d K F H := rfl
@[go_sem] theorem dOp_field (off : Nat) (n : Option Nat) (x : POpd) (st : Bool) (d : Option Nat) (K : PF → PH → Prop) : dOp C Hs S st (.field off n x) d K F H = wpCalm (peval (.field off n x) F (if st then Hs else H)) d K F H := rfl
@[go_sem] theorem dOp_idxS (s : Nat) (x i : POpd) (st : Bool) (d : Option Nat) (K : PF → PH → Prop) : dOp C Hs S st (.idxS s x i) d K F H = wpCalm (peval (.idxS s x i) F (if st then Hs else H)) d K F H := rfl
@[go_sem] theorem dOp_idxA (n s : Nat) (x i : POpd) (st : Bool) (d : Option Nat) (K : PF → PH → Prop) : dOp C Hs S st (.idxA n s x i) d K F H = wpCalm (peval (.idxA n s x i) F (if st then Hs else H)) d K F H := rfl
@[go_sem] theorem dOp_idxV (n s : Nat) (g : Bool) (x i : POpd) (st : Bool) (d : Option Nat) (K : PF → PH → Prop) : dOp C Hs S st (.idxV n s g x i) d K F H = wpCalm (peval (.idxV n s g x i) F (if st then Hs else H)) d K F H := rfl
@[go_sem] theorem dOp_idxStr (x i : POpd) (st : Bool) (d : Option Nat) (K : PF → PH → Prop) : dOp C Hs S st (.idxStr x i) d K F H = wpCalm (peval (.idxStr x i) F (if st then Hs else H)) d K F H := rfl
@[go_sem] theorem dOp_slice (s : Nat) (x : POpd) (lo hi mx : Option POpd) (st : Bool) (d : Option Nat) (K : PF → PH → Prop) : dOp C Hs S st (.slice s x lo hi mx) d K F H = wpCalm (peval (.slice s x lo hi mx) F (if st then Hs else H)) d K F H := rfl
@[go_sem] theorem dOp_sliceStr (x : POpd) (lo hi : Option POpd) (st : Bool) (d : Option Nat) (K : PF → PH → Prop) : dOp C Hs S st (.sliceStr x lo hi) d K F H = wpCalm (peval (.sliceStr x lo hi) F (if st then Hs else H)) d K F H := rfl
@[go_sem] theorem dOp_len (x : POpd) (st : Bool) (d : Option Nat) (K : PF → PH → Prop) : dOp C Hs S st (.len x) d K F H = wpCalm (peval (.len x) F (if st then Hs else H)) d K F H := rfl
@[go_sem] theorem dOp_lenStr (x : POpd) (st : Bool) (d : Option Nat) (K : PF → PH → Prop) : dOp C Hs S st (.lenStr x) d K F H = wpCalm (peval (.lenStr x) F (if st then Hs else H)) d K F H := rfl
@[go_sem] theorem dOp_capNil (x : POpd) (st : Bool) (d : Option Nat) (K : PF → PH → Prop) : dOp C Hs S st (.capNil x) d K F H = wpCalm (peval (.capNil x) F (if st then Hs else H)) d K F H := rfl
@[go_sem] theorem dOp_extract (x : POpd) (i : Nat) (st : Bool) (d : Option Nat) (K : PF → PH → Prop) : dOp C Hs S st (.extract x i) d K F H = wpCalm (peval (.extract x i) F (if st then Hs else H)) d K F H := rfl
@[go_sem] theorem dOp_minmax (m : Bool) (x y : POpd) (st : Bool) (d : Option Nat) (K : PF → PH → Prop) : dOp C Hs S st (.minmax m x y) d K F H = wpCalm (peval (.minmax m x y) F (if st then Hs else H)) d K F H := rfl
@[go_sem] theorem dOp_mkfn (n : Nat) (cs : List POpd) (st : Bool) (d : Option Nat) (K : PF → PH → Prop) : dOp C Hs S st (.mkfn n cs) d K F H = wpCalm (peval (.mkfn n cs) F (if st then Hs else H)) d K F H := rfl
@[go_sem] theorem dOp_lookup (sh : MSh) (z : PV) (x k : POpd) (ok : Bool) (st : Bool) (d : Option Nat) (K : PF → PH → Prop) : dOp C Hs S st (.lookup sh z x k ok) d K F H = wpCalm (peval (.lookup sh z x k ok) F (if st then Hs else H)) d K F H := rfl
@[go_sem] theorem dOp_bytes2str (x : POpd) (st : Bool) (d : Option Nat) (K : PF → PH → Prop) : dOp C Hs S st (.bytes2str x) d K F H = wpCalm (peval (.bytes2str x) F (if st then Hs else H)) d K F H := rfl
@[go_sem] theorem dOp_boxR (x : POpd) (st : Bool) (d : Option Nat) (K : PF → PH → Prop) : dOp C Hs S st (.box true x) d K F H = wpCalm (peval (.box true x) F (if st then Hs else H)) d K F H := rfl
@[go_sem] theorem dOp_bsliceR (s l : Nat) (z : List PV) (ps : List (Nat × POpd)) (st : Bool) (d : Option Nat) (K : PF → PH → Prop) : dOp C Hs S st (.bslice true s l z ps) d K F H = wpCalm (peval (.bslice true s l z ps) F (if st then Hs else H)) d K F H := rfl
@[go_sem] theorem dOp_alloc (cs : List PV) (st : Bool) (d : Option Nat) (K : PF → PH → Prop) : dOp C Hs S st (.alloc cs) d K F H = wpNew (allocOf (.alloc cs) F) d K F H := rfl
@[go_sem] theorem dOp_mkslice (s b : Nat) (z : List PV) (l c : POpd) (st : Bool) (d : Option Nat) (K : PF → PH → Prop) : dOp C Hs S st (.mkslice s b z l c) d K F H = wpNew (allocOf (.mkslice s b z l c) F) d K F H := rfl
@[go_sem] theorem dOp_mkmap (sh : MSh) (st : Bool) (d : Option Nat) (K : PF → PH → Prop) : dOp C Hs S st (.mkmap sh) d K F H = wpNew (allocOf (.mkmap sh) F) d K F H := rfl
@[go_sem] theorem dOp_box (x : POpd) (st : Bool) (d : Option Nat) (K : PF → PH → Prop) : dOp C Hs S st (.box false x) d K F H = wpNew (allocOf (.box false x) F) d K F H := rfl
@[go_sem] theorem dOp_bslice (s l : Nat) (z : List PV) (ps : List (Nat × POpd)) (st : Bool) (d : Option Nat) (K : PF → PH → Prop) : dOp C Hs S st (.bslice false s l z ps) d K F H = wpNew (allocOf (.bslice false s l z ps) F) d K F H := rfl
@[go_sem] theorem dOp_store (n : Nat) (p x : POpd) (st : Bool) (d : Option Nat) (K : PF → PH → Prop) : dOp C Hs S st (.store n p x) d K F H = wpWrite (.store n p x) F H (fun r H' => Hs.le H' ∧ K (F.put d r) H') := rfl
@[go_sem] theorem dOp_append (s b : Nat) (x y : POpd) (st : Bool) (d : Option Nat) (K : PF → PH → Prop) : dOp C Hs S st (.append s b x y) d K F H = wpWrite (.append s b x y) F H (fun r H' => Hs.le H' ∧ K (F.put d r) H') := rfl
@[go_sem] theorem dOp_mapset (sh : MSh) (x k v : POpd) (st : Bool) (d : Option Nat) (K : PF → PH → Prop) : dOp C Hs S st (.mapset sh x k v) d K F H = wpWrite (.mapset sh x k v) F H (fun r H' => Hs.le H' ∧ K (F.put d r) H') := rfl

theorem only_nil : H.only [] = PH.nil := PH.ext fun o => by simp [PH.only, PH.nil]
/-- A call that owns nothing and whose result is known. -/
theorem dOp_pure {name : Nat} {vs : List PV} {v : PV} {args : List POpd} {st : Bool} {d : Option Nat} {K : PF → PH → Prop} (hS : S name vs = some ([], fun _ => Gives v)) (h : ECalls C name vs .nil (Gives v)) (ha : POpd.evs F args = some vs)
    (hle : Hs.le H) (hk : K (F.put d v) H) : dOp C Hs S st (.call name args) d K F H := by
  refine ⟨vs, [], fun _ => Gives v, ha, hS, fun o ho => by simp at ho, by rw [only_nil]; exact h, fun G => ⟨v, .nil, ⟨rfl, rfl⟩, fun o x hx => by simp [PH.nil] at hx⟩, ?_⟩
  rintro r H' ⟨rfl, rfl⟩ -
  rw [only_nil, PH.over_nil]
  exact ⟨hle, hk⟩
/-- A new key of a map. -/
theorem dOp_ins {sh : MSh} {x k v : POpd} {o : Nat} {kv vv : PV} {key : List KS} {g : PMap} {st : Bool} {d : Option Nat} {K : PF → PH → Prop} (hx : x.ev F = some (.map o)) (hk : k.ev F = some kv) (hv : v.ev F = some vv) (hkey : keyOf sh kv = some key)
    (ho : H o = some (.map sh g)) (hg : g key = none) (hs : Hs o = none) (h : K (F.put d .junk) (H.set o (.map sh (g.upd key vv)))) : dOp C Hs S st (.insert sh x k v) d K F H := by
  refine ⟨o, sh, key, vv, g, ?_, ho, hg, hs, h⟩
  simp only [hx, hk, hv, hkey, Option.map_some]
end
end Go.PM
