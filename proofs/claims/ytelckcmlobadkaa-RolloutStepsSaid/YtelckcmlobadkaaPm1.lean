/-
  PM1: pure values, their relation to the model's values and worlds. No condition.
-/
import Derived.WalkKit
set_option linter.unusedSimpArgs false
set_option linter.unusedVariables false
namespace Go.PM
open Go

/-- Pure values: what a slot may hold, seen without the heap. Read-only slices are lists of rows of cells. -/
inductive PV where
  | int (k : IntKind) (n : Int)
  | bool (b : Bool)
  | str (s : List UInt8)
  | nils
  | sl (size : Nat) (rows : List (List PV))
  | osl (o size off len : Nat)
  | ptr (o size i c : Nat)
  | rptr (cells : List PV)
  | map (o : Nat)
  | fn (name : Nat) (captured : List PV)
  | agg (cells : List PV)
  | tup (vs : List PV)
  | lit (v : Value)
  | junk
  deriving Inhabited

/-- Keys of maps: scalars, one or a struct's. -/
inductive KSh where
  | int (k : IntKind)
  | bool
  | str
  deriving DecidableEq, Inhabited
inductive KS where
  | int (k : IntKind) (n : Int)
  | bool (b : Bool)
  | str (s : List UInt8)
  deriving DecidableEq, Inhabited
def KS.sh : KS → KSh
  | .int k _ => .int k
  | .bool _ => .bool
  | .str _ => .str
def KS.val : KS → Value
  | .int k n => .int k n
  | .bool b => .bool b
  | .str s => .string ⟨s.toArray⟩
/-- A map's shape: is the key a struct, and of what scalars. -/
abbrev MSh := Bool × List KSh
def keyVal (sh : MSh) (k : List KS) : Value := if sh.1 then .agg (k.map KS.val).toArray else (k.map KS.val).headD undef
abbrev PMap := List KS → Option PV
def PMap.upd (g : PMap) (k : List KS) (v : PV) : PMap := fun j => if j = k then some v else g j
def findL (k : List KS) : List (List KS × PV) → Nat → Option (Nat × PV)
  | [], _ => none
  | e :: es, i => if e.1 = k then some (i, e.2) else findL k es (i + 1)
def mapOf (L : List (List KS × PV)) : PMap := fun k => (findL k L 0).map (·.2)

/-- Objects owned by the call: rows of cells, maps; 'dead': no longer known. -/
inductive PObj where
  | rows (size : Nat) (rs : List (List PV))
  | map (sh : MSh) (g : PMap)
  | dead

def upd {α : Type} (f : Nat → Option α) (i : Nat) (v : Option α) : Nat → Option α := fun j => if j = i then v else f j

theorem upd_same {α : Type} (f : Nat → Option α) (i : Nat) (v : Option α) : upd f i v i = v := by simp [upd]
theorem upd_ne {α : Type} (f : Nat → Option α) {i j : Nat} (v : Option α) (h : j ≠ i) : upd f i v j = f j := by simp [upd, h]

theorem upd_comm {α : Type} (f : Nat → Option α) {i j : Nat} (v u : Option α) (h : i ≠ j) : upd (upd f i v) j u = upd (upd f j u) i v := by
  funext k
  simp only [upd]
  by_cases h1 : k = j
  · by_cases h2 : k = i
    · omega
    · simp [h1]
      intro h3; omega
  · simp [h1]

abbrev PF := Nat → Option PV
def PF.nil : PF := fun _ => none
def PF.set (F : PF) (i : Nat) (v : PV) : PF := upd F i (some v)
def PF.del (F : PF) (i : Nat) : PF := upd F i none
def PF.le (F G : PF) : Prop := ∀ i v, F i = some v → G i = some v

structure PH where
  f : Nat → Option PObj
  fin : ∃ n, ∀ o, n ≤ o → f o = none

instance : CoeFun PH (fun _ => Nat → Option PObj) := ⟨PH.f⟩

theorem PH.ext {H K : PH} (h : ∀ o, H.f o = K.f o) : H = K := by
  cases H; cases K
  have : ‹Nat → Option PObj› = ‹Nat → Option PObj› := rfl
  congr
  exact funext h

def PH.nil : PH := ⟨fun _ => none, 0, fun _ _ => rfl⟩
def PH.upd (H : PH) (o : Nat) (x : Option PObj) : PH :=
  ⟨PM.upd H.f o x, by
    obtain ⟨n, hn⟩ := H.fin
    refine ⟨max n (o + 1), fun q hq => ?_⟩
    rw [upd_ne _ _ (by omega)]
    exact hn q (by omega)⟩
def PH.set (H : PH) (o : Nat) (x : PObj) : PH := H.upd o (some x)
def PH.del (H : PH) (o : Nat) : PH := H.upd o none
def PH.le (H K : PH) : Prop := ∀ o x, H o = some x → K o = some x

/-- What is behind a call: 'H0' was handed to the callee, 'H1' came back; all else stays. -/
def PH.over (H H0 H1 : PH) : PH :=
  ⟨fun o => match H1 o with
    | some x => some x
    | none => match H0 o with
      | some _ => some .dead
      | none => H o, by
    obtain ⟨n, hn⟩ := H.fin
    obtain ⟨n0, h0⟩ := H0.fin
    obtain ⟨n1, h1⟩ := H1.fin
    refine ⟨max n (max n0 n1), fun o ho => ?_⟩
    simp only [h1 o (by omega), h0 o (by omega), hn o (by omega)]⟩

theorem PH.fresh (H : PH) : ∃ o, H o = none := by
  obtain ⟨n, hn⟩ := H.fin
  exact ⟨n, hn n (Nat.le_refl _)⟩

theorem PH.fresh_ne (H : PH) (q : Nat) : ∃ o, H o = none ∧ o ≠ q := by
  obtain ⟨n, hn⟩ := H.fin
  exact ⟨max n (q + 1), hn _ (by omega), by omega⟩

def at2 (rows : List (List PV)) (i j : Nat) : Option PV := rows[i]?.bind (·[j]?)

/-- 'G': the blocks that are never written again, with their cells; 'sz': the sizes of known blocks; 'num': the functions' numbers. -/
structure Env where
  G : Nat → Option (Array Value)
  sz : Nat → Option Nat
  num : Nat → FuncId

def Env.cell (E : Env) (b off : Nat) : Option Value := (E.G b).bind (·[off]?)

structure Env.le (E E' : Env) : Prop where
  g : ∀ b cs, E.G b = some cs → E'.G b = some cs
  s : ∀ b n, E.sz b = some n → E'.sz b = some n
  num : E'.num = E.num

theorem Env.le.refl (E : Env) : E.le E := ⟨fun _ _ h => h, fun _ _ h => h, rfl⟩
theorem Env.le.trans {A B C : Env} (h : A.le B) (k : B.le C) : A.le C :=
  ⟨fun b cs e => k.g _ _ (h.g _ _ e), fun b n e => k.s _ _ (h.s _ _ e), k.num.trans h.num⟩
theorem Env.le.cell {E E' : Env} (h : E.le E') {b off : Nat} {u : Value} (hc : E.cell b off = some u) : E'.cell b off = some u := by
  unfold Env.cell at *
  cases hg : E.G b with
  | none => simp [hg] at hc
  | some cs => rw [hg] at hc; rw [h.g _ _ hg]; exact hc

inductive RepV (E : Env) : PV → Value → Prop
  | int (k : IntKind) (n : Int) : RepV E (.int k n) (.int k n)
  | bool (b : Bool) : RepV E (.bool b) (.bool b)
  | str (s : ByteArray) : RepV E (.str s.data.toList) (.string s)
  | nils : RepV E .nils (.slice none 0 0)
  | sl {size : Nat} {rows : List (List PV)} {a : Option Addr} {cap : Nat} (u : Nat → Nat → Value) (hcap : rows.length ≤ cap) (hmax : cap ≤ maxLen)
      (hs : ∀ r ∈ rows, r.length = size)
      (ha : rows ≠ [] → ∃ ad, a = some ad ∧ ad.spot = none ∧ ∀ i j pv, at2 rows i j = some pv → E.cell ad.block (ad.off + i * size + j) = some (u i j))
      (h1 : ∀ i j, (u i j).oneCell' = true) (hr : ∀ i j pv, at2 rows i j = some pv → RepV E pv (u i j)) : RepV E (.sl size rows) (.slice a rows.length cap)
  | osl {o size off len cap n : Nat} {a : Addr} (hb : a.block = o) (hsp : a.spot = none) (hoff : cap = 0 ∨ a.off = off * size) (hlen : len ≤ cap) (hmax : cap ≤ maxLen)
      (hn : E.sz o = some n) (hroom : off * size + cap * size ≤ n) : RepV E (.osl o size off len) (.slice (some a) len cap)
  | ptr (o size i c : Nat) : RepV E (.ptr o size i c) (.pointer (some ⟨o, i * size + c, none⟩))
  | rptr {cells : List PV} {ad : Addr} (u : Nat → Value) (hsp : ad.spot = none) (hc : ∀ (j : Nat) pv, cells[j]? = some pv → E.cell ad.block (ad.off + j) = some (u j))
      (h1 : ∀ (j : Nat), (u j).oneCell' = true) (hr : ∀ (j : Nat) pv, cells[j]? = some pv → RepV E pv (u j)) : RepV E (.rptr cells) (.pointer (some ad))
  | map (o : Nat) : RepV E (.map o) (.map (some o))
  | fn {name : Nat} {captured : List PV} (vc : Array Value) (hl : vc.size = captured.length)
      (hr : ∀ (j : Nat) pv v, captured[j]? = some pv → vc[j]? = some v → RepV E pv v) : RepV E (.fn name captured) (.func (.func (E.num name)) #[] vc)
  | agg {cells : List PV} (vs : Array Value) (hl : vs.size = cells.length) (h1 : ∀ v ∈ vs.toList, v.oneCell' = true)
      (hr : ∀ (j : Nat) pv v, cells[j]? = some pv → vs[j]? = some v → RepV E pv v) : RepV E (.agg cells) (.agg vs)
  | tup {ps : List PV} (vs : Array Value) (hl : vs.size = ps.length)
      (hr : ∀ (j : Nat) pv v, ps[j]? = some pv → vs[j]? = some v → RepV E pv v) : RepV E (.tup ps) (.tuple vs)
  | lit (v : Value) : RepV E (.lit v) v
  | junk (v : Value) : RepV E .junk v

theorem RepV.mono {E E' : Env} (h : E.le E') {pv : PV} {v : Value} (r : RepV E pv v) : RepV E' pv v := by
  induction r with
  | int => exact .int _ _
  | bool => exact .bool _
  | str => exact .str _
  | nils => exact .nils
  | sl u hcap hmax hs ha h1 _ ih =>
    refine .sl u hcap hmax hs (fun hne => ?_) h1 ih
    obtain ⟨ad, e, sp, hc⟩ := ha hne
    exact ⟨ad, e, sp, fun i j pv hp => h.cell (hc i j pv hp)⟩
  | osl hb hsp hoff hlen hmax hn hroom => exact .osl hb hsp hoff hlen hmax (h.s _ _ hn) hroom
  | ptr => exact .ptr _ _ _ _
  | rptr u hsp hc h1 _ ih => exact .rptr u hsp (fun j pv hp => h.cell (hc j pv hp)) h1 ih
  | map => exact .map _
  | fn vc hl _ ih => rw [← h.num]; exact .fn vc hl ih
  | agg vs hl h1 _ ih => exact .agg vs hl h1 ih
  | tup vs hl _ ih => exact .tup vs hl ih
  | lit => exact .lit _
  | junk => exact .junk _

def ORep (E : Env) (w : World) (o : Nat) : PObj → Prop
  | .rows size rs => ∃ cur ty, w.heap[o]? = some (.cells cur ty (0, 0)) ∧ E.sz o = some cur.size ∧ (∀ r ∈ rs, r.length = size) ∧ rs.length * size ≤ cur.size ∧
      ∀ i j pv, at2 rs i j = some pv → ∃ u, cur[i * size + j]? = some u ∧ u.oneCell' = true ∧ RepV E pv u
  | .map sh g => ∃ es' clock L, w.heap[o]? = some (.map es' clock) ∧ es'.size = L.length ∧ g = mapOf L ∧
      ∀ (i : Nat) e e', L[i]? = some e → es'[i]? = some e' → e.1.map KS.sh = sh.2 ∧ e'.key = keyVal sh e.1 ∧ RepV E e.2 e'.val
  | .dead => True

theorem ORep.mono {E E' : Env} (h : E.le E') {w w' : World} {o : Nat} (hw : w'.heap[o]? = w.heap[o]?) {x : PObj} (r : ORep E w o x) : ORep E' w' o x := by
  cases x with
  | rows size rs =>
    obtain ⟨cur, ty, h1, h2, h3, h4, h5⟩ := r
    refine ⟨cur, ty, hw.trans h1, h.s _ _ h2, h3, h4, fun i j pv hp => ?_⟩
    obtain ⟨u, a, b, c⟩ := h5 i j pv hp
    exact ⟨u, a, b, c.mono h⟩
  | map sh g =>
    obtain ⟨es', clock, L, h1, h2, h3, h4⟩ := r
    exact ⟨es', clock, L, hw.trans h1, h2, h3, fun i e e' a b => ⟨(h4 i e e' a b).1, (h4 i e e' a b).2.1, (h4 i e e' a b).2.2.mono h⟩⟩
  | dead => trivial

structure WRel (E : Env) (H : PH) (w : World) : Prop where
  g : ∀ b cs, E.G b = some cs → (∀ x, H b = some x → x = .dead) ∧ ∃ ty fr, w.heap[b]? = some (.cells cs ty fr)
  h : ∀ o x, H o = some x → o < w.heap.size ∧ ORep E w o x
  s : ∀ o n, E.sz o = some n → ∃ cur ty fr, w.heap[o]? = some (.cells cur ty fr) ∧ cur.size = n

theorem WRel.weaken {E : Env} {H H0 : PH} {w : World} (h : WRel E H w) (hle : H0.le H) : WRel E H0 w := by
  exact ⟨fun b cs hb => ⟨fun x hx => (h.g b cs hb).1 x (hle b x hx), (h.g b cs hb).2⟩, fun o x ho => h.h o x (hle o x ho), h.s⟩

/-- What a step of the call may do: write to its objects 'H', make new blocks. -/
structure Ext (E : Env) (H : PH) (w : World) (E' : Env) (H' : PH) (w' : World) : Prop where
  env : E.le E'
  os : w'.os = w.os
  tape : w'.tape = w.tape
  output : w'.output = w.output
  size : w.heap.size ≤ w'.heap.size
  block : ∀ b, b < w.heap.size → H b = none → w'.heap[b]? = w.heap[b]?
  new : ∀ o x, H' o = some x → (∃ y, H o = some y) ∨ w.heap.size ≤ o
  newG : ∀ b cs, E'.G b = some cs → E.G b = some cs ∨ (∃ y, H b = some y) ∨ w.heap.size ≤ b

theorem Ext.refl (E : Env) (H : PH) (w : World) : Ext E H w E H w :=
  ⟨.refl E, rfl, rfl, rfl, Nat.le_refl _, fun _ _ _ => rfl, fun _ x h => .inl ⟨x, h⟩, fun _ _ h => .inl h⟩

theorem Ext.trans {E1 E2 E3 : Env} {H1 H2 H3 : PH} {w1 w2 w3 : World} (h : Ext E1 H1 w1 E2 H2 w2) (k : Ext E2 H2 w2 E3 H3 w3) : Ext E1 H1 w1 E3 H3 w3 := by
  refine ⟨h.env.trans k.env, k.os.trans h.os, k.tape.trans h.tape, k.output.trans h.output, Nat.le_trans h.size k.size, fun b hb hn => ?_, fun o x ho => ?_, fun b cs hb => ?_⟩
  · have h2 : H2 b = none := by
      cases e : H2 b with
      | none => rfl
      | some x =>
        rcases h.new b x e with ⟨y, hy⟩ | hl
        · rw [hn] at hy; cases hy
        · omega
    rw [k.block b (by have := h.size; omega) h2, h.block b hb hn]
  · rcases k.new o x ho with ⟨y, hy⟩ | hl
    · exact h.new o y hy
    · exact .inr (Nat.le_trans h.size hl)
  · rcases k.newG b cs hb with h1 | ⟨y, hy⟩ | hl
    · exact h.newG b cs h1
    · exact .inr (h.new b y hy)
    · exact .inr (.inr (Nat.le_trans h.size hl))

/-- Forgetting objects. -/
theorem Ext.drop {E E' : Env} {H H' H0 : PH} {w w' : World} (h : Ext E H w E' H' w') (hle : H0.le H') : Ext E H w E' H0 w' :=
  ⟨h.env, h.os, h.tape, h.output, h.size, h.block, fun o x ho => h.new o x (hle o x ho), h.newG⟩

/-- A callee that was handed fewer objects did no more. -/
theorem Ext.narrow {E E' : Env} {H H' H0 : PH} {w w' : World} (h : Ext E H0 w E' H' w') (hle : H0.le H) : Ext E H w E' (H.over H0 H') w' := by
  refine ⟨h.env, h.os, h.tape, h.output, h.size, fun b hb hn => h.block b hb ?_, fun o x ho => ?_, fun b cs hb => ?_⟩
  · cases e : H0 b with
    | none => rfl
    | some x => have := hle b x e; rw [hn] at this; cases this
  · unfold PH.over at ho
    simp only at ho
    split at ho
    · rename_i y hy
      rcases h.new o y hy with ⟨z, hz⟩ | hl
      · exact .inl ⟨z, hle o z hz⟩
      · exact .inr hl
    · split at ho
      · rename_i y hy
        exact .inl ⟨y, hle o y hy⟩
      · exact .inl ⟨x, ho⟩
  · rcases h.newG b cs hb with h1 | ⟨y, hy⟩ | hl
    · exact .inl h1
    · exact .inr (.inl ⟨y, hle b y hy⟩)
    · exact .inr (.inr hl)

theorem WRel.over {E E' : Env} {H H' H0 : PH} {w w' : World} (hW : WRel E H w) (h : Ext E H0 w E' H' w') (hle : H0.le H) (hW' : WRel E' H' w') : WRel E' (H.over H0 H') w' := by
  have keep : ∀ o x, H o = some x → H0 o = none → o < w'.heap.size ∧ ORep E' w' o x := by
    intro o x ho h0
    obtain ⟨hlt, hrep⟩ := hW.h o x ho
    exact ⟨Nat.lt_of_lt_of_le hlt h.size, hrep.mono h.env (h.block o hlt h0)⟩
  refine ⟨fun b cs hb => ⟨?_, (hW'.g b cs hb).2⟩, fun o x ho => ?_, hW'.s⟩
  · intro x hx
    unfold PH.over at hx
    simp only at hx
    split at hx
    · rename_i y hy
      cases hx
      exact (hW'.g b cs hb).1 _ hy
    · split at hx
      · cases hx; rfl
      · rename_i h0
        rcases h.newG b cs hb with hE | ⟨y, hy⟩ | hl
        · exact (hW.g b cs hE).1 x hx
        · rw [h0] at hy; cases hy
        · have := (hW.h b x hx).1; omega
  · unfold PH.over at ho
    simp only at ho
    split at ho
    · rename_i y hy
      cases ho
      exact hW'.h o _ hy
    · split at ho
      · rename_i y hy
        cases ho
        exact ⟨Nat.lt_of_lt_of_le (hW.h o y (hle o y hy)).1 h.size, trivial⟩
      · rename_i h0
        exact keep o x ho h0

end Go.PM
