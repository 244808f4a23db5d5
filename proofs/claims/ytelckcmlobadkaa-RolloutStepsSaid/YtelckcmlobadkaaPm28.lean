/-
  PM28: the library's contracts of slices.Sort and slices.Compact, as contracts over pure values. No condition.
-/
import Derived.Test.YtelckcmlobadkaaPm27
import Derived.Shelf.Sort.Plain
import Derived.Shelf.Slices.CompactI
import Derived.Shelf.Slices.In.SortNone
set_option linter.unusedSimpArgs false
set_option linter.unusedVariables false
namespace Go.PM
open Go Go.RowKit Go.Sort Go.Shelf Go.Proofs

def irows (xs : List Int) : List (List PV) := xs.map fun n => [.int .i64 n]

section
variable {E : Env} {H : PH} {w : World}

theorem WRel.bigger (hW : WRel E H w) {w' : World} (hs : w.heap.size ≤ w'.heap.size) (hb : ∀ b, b < w.heap.size → w'.heap[b]? = w.heap[b]?) : WRel E H w' := by
  refine ⟨fun b cs h => ?_, fun o x h => ?_, fun o n h => ?_⟩
  · obtain ⟨h1, ty, fr, h2⟩ := hW.g b cs h
    exact ⟨h1, ty, fr, (hb b (Array.getElem?_eq_some_iff.1 h2).1).trans h2⟩
  · obtain ⟨h1, h2⟩ := hW.h o x h
    exact ⟨Nat.lt_of_lt_of_le h1 hs, h2.mono (.refl E) (hb o h1)⟩
  · obtain ⟨cur, ty, fr, h1, h2⟩ := hW.s o n h
    exact ⟨cur, ty, fr, (hb o (Array.getElem?_eq_some_iff.1 h1).1).trans h1, h2⟩

theorem Ext.bigger {E' : Env} {H' : PH} {w1 w2 : World} (h : Ext E H w E' H' w1) (ho : w2.os = w1.os) (ht : w2.tape = w1.tape) (hp : w2.output = w1.output) (hs : w1.heap.size ≤ w2.heap.size)
    (hb : ∀ b, b < w1.heap.size → w2.heap[b]? = w1.heap[b]?) : Ext E H w E' H' w2 :=
  ⟨h.env, ho.trans h.os, ht.trans h.tape, hp.trans h.output, Nat.le_trans h.size hs, fun b hlt hn => (hb b (Nat.lt_of_lt_of_le hlt h.size)).trans (h.block b hlt hn), h.new, h.newG⟩

theorem holds_rows (hW : WRel E H w) {o off : Nat} {rs : List (List PV)} {xs : List Int} (ho : H o = some (.rows 1 rs)) (hx : (rs.drop off).take xs.length = irows xs) : Holds (Value.int .i64) w o off xs.toArray := by
  obtain ⟨-, cur, ty, h1, h2, h3, h4, h5⟩ := hW.h o _ ho
  intro j hj
  have hj' : j < xs.length := by simpa using hj
  have hat : at2 rs (off + j) 0 = some (.int .i64 xs[j]) := by
    have e : ((rs.drop off).take xs.length)[j]? = (irows xs)[j]? := by rw [hx]
    rw [List.getElem?_take_of_lt hj', List.getElem?_drop] at e
    unfold at2
    rw [e]
    simp [irows, hj']
  obtain ⟨u, e1, e2, e3⟩ := h5 _ 0 _ hat
  cases e3
  have e4 : xs.toArray[j]! = xs[j] := by simp [hj']
  refine ⟨?_, ?_⟩
  · simp only [World.cell?, h1, Option.isSome_none, Bool.false_eq_true, if_false]
    rw [e4]
    simpa using e1
  · simp [World.frozen?, h1]

theorem put_rel (hW : WRel E H w) {o : Nat} {xs ys : List Int} (ho : H o = some (.rows 1 (irows xs))) (hl : ys.length = xs.length) (n : Nat) (os : Array Obj) :
    WRel E (H.set o (.rows 1 (irows ys))) (grow (putRow (Value.int .i64) (Sort.ahead w n) o 0 ys.toArray) os) ∧ Ext E H w E (H.set o (.rows 1 (irows ys))) (grow (putRow (Value.int .i64) (Sort.ahead w n) o 0 ys.toArray) os) := by
  obtain ⟨-, cur, ty, h1, h2, h3, h4, h5⟩ := hW.h o _ ho
  have hlen : xs.length ≤ cur.size := by simpa [irows] using h4
  have hR : RRep E 1 (irows ys) (putCells (Value.int .i64) 0 ys.toArray cur) := by
    refine ⟨fun r hr => ?_, ?_, fun i j pv hp => ?_⟩
    · unfold irows at hr
      rw [List.mem_map] at hr
      obtain ⟨n, -, rfl⟩ := hr
      rfl
    · simp [irows, putCells]; omega
    · unfold at2 irows at hp
      rw [List.getElem?_map, Option.bind_eq_some_iff] at hp
      obtain ⟨r, hr, hp⟩ := hp
      rw [Option.map_eq_some_iff] at hr
      obtain ⟨m, hm, rfl⟩ := hr
      have hi := (List.getElem?_eq_some_iff.1 hm).1
      cases j with
      | succ j => simp at hp
      | zero =>
        simp at hp
        subst hp
        refine ⟨.int .i64 m, ?_, rfl, .int _ _⟩
        have hc : i < cur.size := by omega
        simp only [Nat.mul_one, Nat.add_zero, putCells, Array.getElem?_mapIdx, Array.getElem?_eq_getElem hc, Option.map_some, Nat.zero_le, true_and, Nat.zero_add, Nat.sub_zero, List.size_toArray]
        rw [if_pos hi]
        have : ys.toArray[i]! = m := by
          obtain ⟨h, e⟩ := List.getElem?_eq_some_iff.1 hm
          simp [h, e]
        rw [this]
  obtain ⟨k1, k2⟩ := hW.setRows ho h1 (by simp [putCells]) hR
  have hheap : ∀ b, b < (w.setRow o (putCells (Value.int .i64) 0 ys.toArray cur)).heap.size → (grow (putRow (Value.int .i64) (Sort.ahead w n) o 0 ys.toArray) os).heap[b]? = (w.setRow o (putCells (Value.int .i64) 0 ys.toArray cur)).heap[b]? := by
    intro b hb
    have hb' : b < w.heap.size := by simpa [World.setRow] using hb
    have e1 : (grow (putRow (Value.int .i64) (Sort.ahead w n) o 0 ys.toArray) os).heap[b]? = (putRow (Value.int .i64) (Sort.ahead w n) o 0 ys.toArray).heap[b]? := by
      unfold grow
      exact Array.getElem?_append_left (by simpa using hb')
    rw [e1]
    simp only [putRow, mapBlock, World.setRow, Array.getElem?_modify, heap_ahead]
    by_cases e : o = b
    · subst e
      simp [h1, onCells]
    · simp [e]
  have hsize : (w.setRow o (putCells (Value.int .i64) 0 ys.toArray cur)).heap.size ≤ (grow (putRow (Value.int .i64) (Sort.ahead w n) o 0 ys.toArray) os).heap.size := by
    simp [World.setRow]
  exact ⟨k1.bigger hsize hheap, k2.bigger rfl rfl rfl hsize hheap⟩
end

section
variable {C : Ctx} {ρ : Ren} {name : Nat}

def sorted (xs : List Int) : List Int := xs.mergeSort fun x y => decide (x ≤ y)

theorem sort_calls (L : Lays.n189 C.P ρ) (hn : C.num name = ρ.f 189) (hf : ∃ fn, C.P.funcs[C.num name]? = some fn ∧ fn.body.isSome = true ∧ (fn.name == "runtime.NumGoroutine") = false) (o : Nat) (xs : List Int) (hx : xs ≠ []) (hl : xs.length < 4611686018427387904) :
    ECalls C name [.osl o 1 0 xs.length] (PH.nil.set o (.rows 1 (irows xs))) (fun r H' => r = .tup [] ∧ H' = PH.nil.set o (.rows 1 (irows (sorted xs)))) := by
  refine ⟨hf, fun E w vs hN hW hvs => ?_⟩
  have ho : (PH.nil.set o (.rows 1 (irows xs))) o = some (.rows 1 (irows xs)) := by simp [set_apply]
  obtain ⟨vl⟩ := vs
  cases hvs with
  | cons h1 h2 =>
  cases h2
  cases h1 with
  | @osl _ _ _ _ cap n a hb hsp hoff hlen hmax hs hroom =>
  have hcap : cap ≠ 0 := by
    intro e; subst e
    exact hx (List.eq_nil_of_length_eq_zero (by omega))
  have ha : a = ⟨o, 0, none⟩ := by
    obtain ⟨b, off, sp⟩ := a
    simp only at hb hsp hoff
    subst hb; subst hsp
    rcases hoff with h | h
    · exact (hcap h).elim
    · simp at h; subst h; rfl
  subst ha
  rw [hn]
  have hH := holds_rows hW (off := 0) (xs := xs) ho (by rw [List.drop_zero]; exact List.take_of_length_le (by simp [irows]))
  refine (Any.slices_Sort_int L o 0 cap xs w hH (hW.h o _ ho).1 hl).mono fun e w' he => ?_
  obtain ⟨rfl, n, os, rfl⟩ := he
  obtain ⟨k1, k2⟩ := put_rel hW ho (ys := sorted xs) (by simp [sorted]) n os
  rw [show (PH.nil.set o (.rows 1 (irows xs))).set o (.rows 1 (irows (sorted xs))) = PH.nil.set o (.rows 1 (irows (sorted xs))) from PH.ext fun q => by simp only [set_apply]; split <;> rfl] at k1 k2
  exact ⟨_, .tup [], E, _, rfl, k1, .tup #[] rfl (by simp), k2, rfl, rfl⟩

theorem sort_calls0 (L : Lays.n189 C.P ρ) (hn : C.num name = ρ.f 189) (hf : ∃ fn, C.P.funcs[C.num name]? = some fn ∧ fn.body.isSome = true ∧ (fn.name == "runtime.NumGoroutine") = false) (v : PV) (H : PH)
    (hv : v = .nils ∨ ∃ o off, v = .osl o 1 off 0) : ECalls C name [v] H (fun r H' => r = .tup [] ∧ H' = H) := by
  refine ⟨hf, fun E w vs hN hW hvs => ?_⟩
  obtain ⟨vl⟩ := vs
  cases hvs with
  | cons h1 h2 =>
  cases h2
  rename_i u
  have : ∃ p cap, u = .slice p 0 cap := by
    rcases hv with rfl | ⟨o, off, rfl⟩
    · cases h1; exact ⟨none, 0, rfl⟩
    · cases h1; exact ⟨_, _, rfl⟩
  obtain ⟨p, cap, rfl⟩ := this
  rw [hn]
  refine (Any.slices_Sort_int_none L p cap w).mono fun e w' he => ?_
  obtain ⟨rfl, rfl⟩ := he
  exact ⟨_, .tup [], E, _, rfl, hW, .tup #[] rfl (by simp), .refl _ _ _, rfl, rfl⟩

theorem compact_calls (L : Lays2.n20 C.P ρ) (hn : C.num name = ρ.f 20) (hf : ∃ fn, C.P.funcs[C.num name]? = some fn ∧ fn.body.isSome = true ∧ (fn.name == "runtime.NumGoroutine") = false) (o : Nat) (xs : List Int) (hx : xs ≠ []) (hl : xs.length < 4611686018427387904) :
    ECalls C name [.osl o 1 0 xs.length] (PH.nil.set o (.rows 1 (irows xs))) (fun r H' => r = .osl o 1 0 (Lib.compact xs).length ∧ H' = PH.nil.set o (.rows 1 (irows (Lib.compact xs ++ List.replicate (xs.length - (Lib.compact xs).length) 0)))) := by
  refine ⟨hf, fun E w vs hN hW hvs => ?_⟩
  have ho : (PH.nil.set o (.rows 1 (irows xs))) o = some (.rows 1 (irows xs)) := by simp [set_apply]
  obtain ⟨vl⟩ := vs
  cases hvs with
  | cons h1 h2 =>
  cases h2
  cases h1 with
  | @osl _ _ _ _ cap n a hb hsp hoff hlen hmax hs hroom =>
  have hcap : cap ≠ 0 := by
    intro e; subst e
    exact hx (List.eq_nil_of_length_eq_zero (by omega))
  have ha : a = ⟨o, 0, none⟩ := by
    obtain ⟨b, off, sp⟩ := a
    simp only at hb hsp hoff
    subst hb; subst hsp
    rcases hoff with h | h
    · exact (hcap h).elim
    · simp at h; subst h; rfl
  subst ha
  rw [hn]
  have hH := holds_rows hW (off := 0) (xs := xs) ho (by rw [List.drop_zero]; exact List.take_of_length_le (by simp [irows]))
  have hle : (Lib.compact xs).length ≤ xs.length := by
    unfold Lib.compact Lib.compactUpTo
    have := List.length_filter_le (Lib.keeps xs.toArray) (List.range xs.length)
    simpa using this
  refine (Any.slices_Compact_int L o 0 cap xs w hH (by omega) hlen).mono fun e w' he => ?_
  obtain ⟨rfl, n, rfl⟩ := he
  have key := put_rel hW ho (ys := Lib.compact xs ++ List.replicate (xs.length - (Lib.compact xs).length) 0) (by simp; omega) n #[]
  rw [grow_empty] at key
  obtain ⟨k1, k2⟩ := key
  rw [show ∀ z, (PH.nil.set o (.rows 1 (irows xs))).set o (.rows 1 z) = PH.nil.set o (.rows 1 z) from fun z => PH.ext fun q => by simp only [set_apply]; split <;> rfl] at k1 k2
  exact ⟨_, .osl o 1 0 _, E, _, rfl, k1, .osl rfl rfl (.inr (by simp)) (by omega) hmax hs hroom, k2, rfl, rfl⟩

theorem compact_calls0 (L : Lays2.n20 C.P ρ) (hn : C.num name = ρ.f 20) (hf : ∃ fn, C.P.funcs[C.num name]? = some fn ∧ fn.body.isSome = true ∧ (fn.name == "runtime.NumGoroutine") = false) (v : PV) (H : PH)
    (hv : v = .nils ∨ ∃ o off, v = .osl o 1 off 0) : ECalls C name [v] H (fun r H' => r = v ∧ H' = H) := by
  refine ⟨hf, fun E w vs hN hW hvs => ?_⟩
  obtain ⟨vl⟩ := vs
  cases hvs with
  | cons h1 h2 =>
  cases h2
  rename_i u
  have : ∃ p cap, u = .slice p 0 cap := by
    rcases hv with rfl | ⟨o, off, rfl⟩
    · cases h1; exact ⟨none, 0, rfl⟩
    · cases h1; exact ⟨_, _, rfl⟩
  obtain ⟨p, cap, rfl⟩ := this
  rw [hn]
  refine (Any.slices_Compact_int_empty L p cap w).mono fun e w' he => ?_
  obtain ⟨rfl, rfl⟩ := he
  exact ⟨_, v, E, _, rfl, hW, h1, .refl _ _ _, rfl, rfl⟩
end
end Go.PM
