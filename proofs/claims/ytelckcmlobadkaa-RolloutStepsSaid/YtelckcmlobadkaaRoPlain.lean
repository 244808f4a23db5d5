/-
  The plain law of a rollout's updated drives: sorting and dropping doubles, and inserting one by one, give the same list. No condition.
-/
import Derived.Lib.SlicesCompact
set_option linter.unusedSimpArgs false
set_option linter.unusedVariables false
namespace Go.RO
open Go

theorem eq_of_strict : ∀ {a b : List Int}, a.Pairwise (· < ·) → b.Pairwise (· < ·) → (∀ y, y ∈ a ↔ y ∈ b) → a = b
  | [], [], _, _, _ => rfl
  | [], y :: ys, _, _, h => by have := (h y).2 (by simp); simp at this
  | x :: xs, [], _, _, h => by have := (h x).1 (by simp); simp at this
  | x :: xs, y :: ys, ha, hb, h => by
    rw [List.pairwise_cons] at ha hb
    have e : x = y := by
      have h1 := (h x).1 (by simp)
      have h2 := (h y).2 (by simp)
      rw [List.mem_cons] at h1 h2
      rcases h1 with h1 | h1
      · exact h1
      · rcases h2 with h2 | h2
        · exact h2.symm
        · have := hb.1 x h1; have := ha.1 y h2; omega
    subst e
    rw [eq_of_strict ha.2 hb.2 fun z => ?_]
    constructor
    · intro hz
      have h1 := (h z).1 (by simp [hz])
      rw [List.mem_cons] at h1
      rcases h1 with rfl | h1
      · have := ha.1 z hz; omega
      · exact h1
    · intro hz
      have h1 := (h z).2 (by simp [hz])
      rw [List.mem_cons] at h1
      rcases h1 with rfl | h1
      · have := hb.1 z hz; omega
      · exact h1

def ins (x : Int) : List Int → List Int
  | [] => [x]
  | y :: ys => if y < x then y :: ins x ys else if y = x then y :: ys else x :: y :: ys

theorem ins_mem (x z : Int) : ∀ l, z ∈ ins x l ↔ z = x ∨ z ∈ l
  | [] => by simp [ins]
  | y :: ys => by
    unfold ins
    split
    · simp only [List.mem_cons, ins_mem x z ys]
      constructor
      · rintro (h | h | h) <;> simp [h]
      · rintro (h | h | h) <;> simp [h]
    · split
      · rename_i e; subst e; simp
      · simp

theorem ins_strict (x : Int) : ∀ l : List Int, l.Pairwise (· < ·) → (ins x l).Pairwise (· < ·)
  | [], _ => by simp [ins]
  | y :: ys, h => by
    rw [List.pairwise_cons] at h
    unfold ins
    split
    · rename_i hlt
      rw [List.pairwise_cons]
      refine ⟨fun z hz => ?_, ins_strict x ys h.2⟩
      rcases (ins_mem x z ys).1 hz with rfl | hz
      · exact hlt
      · exact h.1 z hz
    · rename_i h1
      split
      · rw [List.pairwise_cons]; exact h
      · rename_i h2
        rw [List.pairwise_cons, List.pairwise_cons]
        refine ⟨fun z hz => ?_, h⟩
        rw [List.mem_cons] at hz
        rcases hz with rfl | hz
        · omega
        · have := h.1 z hz; omega

theorem ins_at (x : Int) : ∀ (l : List Int) (k : Nat), k ≤ l.length → (∀ j y, j < k → l[j]? = some y → y < x) → (∀ y, l[k]? = some y → ¬ y < x) →
    ins x l = if l[k]? = some x then l else l.take k ++ (x :: l.drop k)
  | [], k, hk, _, _ => by
    have : k = 0 := by simpa using hk
    subst this
    simp [ins]
  | y :: ys, 0, _, _, h2 => by
    have := h2 y (by simp)
    unfold ins
    rw [if_neg this]
    by_cases e : y = x
    · simp [e]
    · simp [e]
  | y :: ys, k + 1, hk, h1, h2 => by
    have hy := h1 0 y (by omega) (by simp)
    have ih := ins_at x ys k (by simpa using hk) (fun j z hj hz => h1 (j + 1) z (by omega) (by simpa using hz)) (fun z hz => h2 z (by simpa using hz))
    unfold ins
    rw [if_pos hy, ih]
    simp only [List.getElem?_cons_succ]
    split
    · rfl
    · simp

def insAll (out : List Int) (xs : List Int) : List Int := xs.foldl (fun o x => ins x o) out

theorem insAll_mem (z : Int) : ∀ (xs out : List Int), z ∈ insAll out xs ↔ z ∈ out ∨ z ∈ xs
  | [], out => by simp [insAll]
  | x :: xs, out => by
    have := insAll_mem z xs (ins x out)
    unfold insAll at this ⊢
    rw [List.foldl_cons, this, ins_mem, List.mem_cons]
    constructor
    · rintro ((h | h) | h) <;> simp [h]
    · rintro (h | h | h) <;> simp [h]

theorem insAll_strict : ∀ (xs out : List Int), out.Pairwise (· < ·) → (insAll out xs).Pairwise (· < ·)
  | [], out, h => h
  | x :: xs, out, h => insAll_strict xs (ins x out) (ins_strict x out h)

theorem insAll_append (out a b : List Int) : insAll out (a ++ b) = insAll (insAll out a) b := by simp [insAll]

def srt (xs : List Int) : List Int := xs.mergeSort fun x y => decide (x ≤ y)

theorem compact_strict {zs : List Int} (h : zs.Pairwise (· ≤ ·)) : (Lib.compact zs).Pairwise (· < ·) := by
  unfold Lib.compact Lib.compactUpTo
  rw [List.pairwise_map]
  have hr : (List.range zs.length).Pairwise (· < ·) := List.pairwise_lt_range
  have hf := hr.filter (Lib.keeps zs.toArray)
  refine hf.imp_of_mem fun {i j} hi hj hij => ?_
  rw [List.mem_filter, List.mem_range] at hi hj
  obtain ⟨hj1, hj2⟩ := hj
  have k : zs[j]! ≠ zs[j - 1]! := by
    simp only [Lib.keeps, decide_eq_true_eq] at hj2
    rcases hj2 with h0 | h0
    · omega
    · simpa using h0
  have e1 : zs[j]! = zs[j] := by simp [hj1]
  have e2 : zs[j - 1]! = zs[j - 1] := by simp [show j - 1 < zs.length by omega]
  have h1 : zs[i] ≤ zs[j - 1] := by
    rcases Nat.lt_or_ge i (j - 1) with hlt | hge
    · exact List.pairwise_iff_getElem.1 h i (j - 1) hi.1 (by omega) hlt
    · have : i = j - 1 := by omega
      subst this
      exact Int.le_refl _
  have h2 : zs[j - 1] ≤ zs[j] := List.pairwise_iff_getElem.1 h (j - 1) j (by omega) hj1 (by omega)
  rw [e1, e2] at k
  simp only [List.getElem!_toArray]
  rw [e1, show zs[i]! = zs[i] by simp [hi.1]]
  omega

theorem compact_mem (zs : List Int) (y : Int) : y ∈ Lib.compact zs ↔ y ∈ zs := by
  unfold Lib.compact Lib.compactUpTo
  rw [List.mem_map]
  constructor
  · rintro ⟨i, hi, rfl⟩
    rw [List.mem_filter, List.mem_range] at hi
    simp only [List.getElem!_toArray]
    rw [show zs[i]! = zs[i] by simp [hi.1]]
    exact List.getElem_mem _
  · intro hy
    obtain ⟨i, hi, rfl⟩ := List.getElem_of_mem hy
    have key : ∀ i, i < zs.length → ∃ k, k ≤ i ∧ Lib.keeps zs.toArray k = true ∧ zs[k]! = zs[i]! := by
      intro i
      induction i with
      | zero => intro _; exact ⟨0, Nat.le_refl _, by simp [Lib.keeps], rfl⟩
      | succ i ih =>
        intro hi
        by_cases e : zs[i + 1]! = zs[i]!
        · obtain ⟨k, h1, h2, h3⟩ := ih (by omega)
          exact ⟨k, by omega, h2, h3.trans e.symm⟩
        · exact ⟨i + 1, Nat.le_refl _, by simp [Lib.keeps]; simpa using e, rfl⟩
    obtain ⟨k, h1, h2, h3⟩ := key i hi
    refine ⟨k, ?_, ?_⟩
    · rw [List.mem_filter, List.mem_range]; exact ⟨by omega, h2⟩
    · simp only [List.getElem!_toArray]
      rw [h3]; simp [hi]

theorem srt_sorted (xs : List Int) : (srt xs).Pairwise (· ≤ ·) := by
  have := List.pairwise_mergeSort (le := fun x y : Int => decide (x ≤ y)) (fun a b c h1 h2 => by simp at *; omega) (fun a b => by simp; omega) xs
  exact this.imp (by simp)

theorem srt_mem (xs : List Int) (y : Int) : y ∈ srt xs ↔ y ∈ xs := by simp [srt]

/-- Sorting and dropping doubles is inserting one by one. -/
theorem compact_srt (xs : List Int) : Lib.compact (srt xs) = insAll [] xs :=
  eq_of_strict (compact_strict (srt_sorted xs)) (insAll_strict xs [] .nil) fun y => by
    rw [compact_mem, srt_mem, insAll_mem]; simp

end Go.RO
