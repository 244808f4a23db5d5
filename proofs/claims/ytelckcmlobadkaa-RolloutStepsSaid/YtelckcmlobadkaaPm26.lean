/-
  PM26: typed pure values as plain data. No condition.
-/
import Derived.Test.YtelckcmlobadkaaPm25
set_option linter.unusedSimpArgs false
set_option linter.unusedVariables false
namespace Go.PM
open Go

def InK (k : IntKind) (n : Int) : Prop := k.min ≤ n ∧ n ≤ k.max
def intsK (k : IntKind) (xs : List Int) : PV := .sl 1 (xs.map fun n => [.int k n])

theorem Ty.int_inv {k : IntKind} {pv : PV} (h : PV.Ty (.int k) pv) : ∃ n, pv = .int k n ∧ InK k n := by
  cases h with
  | int h => simp only [Lit.wf, Bool.and_eq_true, decide_eq_true_eq] at h; exact ⟨_, rfl, h⟩
theorem Ty.bool_inv {pv : PV} (h : PV.Ty .bool pv) : ∃ b, pv = .bool b := by
  cases h; exact ⟨_, rfl⟩
theorem Ty.str_inv {pv : PV} (h : PV.Ty .str pv) : ∃ s, pv = .str s ∧ s.length ≤ maxLen := by
  cases h with
  | str h => exact ⟨_, rfl, h⟩

/-- A slice of one-cell elements: a list of them. -/
theorem Ty.sl1_inv {ct : CT} {pv : PV} (h : PV.Ty (.sl [ct]) pv) : ∃ vs : List PV, pv = .sl 1 (vs.map fun v => [v]) ∧ vs.length ≤ maxLen ∧ ∀ v ∈ vs, PV.Ty ct v := by
  cases h with
  | @sl es rows hr hl h =>
  have key : ∀ r ∈ rows, r = [r.headD .junk] := fun r hm => by
    have := hr r hm
    match r, this with
    | [x], _ => rfl
  have e : rows = (rows.map fun r => r.headD .junk).map fun v => [v] := by
    rw [List.map_map]
    apply List.ext_getElem (by simp)
    intro n h1 h2
    simp only [List.getElem_map, Function.comp]
    exact key _ (List.getElem_mem h1)
  refine ⟨rows.map fun r => r.headD .junk, by rw [← e]; rfl, by simpa using hl, fun v hv => ?_⟩
  rw [List.mem_map] at hv
  obtain ⟨r, hm, rfl⟩ := hv
  obtain ⟨i, hi, rfl⟩ := List.getElem_of_mem hm
  refine h i 0 _ ct ?_ rfl
  have := key rows[i] hm
  unfold at2
  rw [List.getElem?_eq_getElem hi, Option.bind_some, this]
  rfl

theorem Ty.ints_inv {k : IntKind} {pv : PV} (h : PV.Ty (.sl [.int k]) pv) : ∃ xs : List Int, pv = intsK k xs ∧ xs.length ≤ maxLen ∧ ∀ x ∈ xs, InK k x := by
  obtain ⟨vs, rfl, hl, hv⟩ := Ty.sl1_inv h
  have e : vs = (vs.map fun v => match v with | .int _ n => n | _ => 0).map fun n => PV.int k n := by
    rw [List.map_map]
    apply List.ext_getElem (by simp)
    intro n h1 h2
    simp only [List.getElem_map, Function.comp]
    obtain ⟨m, hm, -⟩ := Ty.int_inv (hv _ (List.getElem_mem h1))
    rw [hm]
  refine ⟨vs.map fun v => match v with | .int _ n => n | _ => 0, ?_, by simpa using hl, fun x hx => ?_⟩
  · unfold intsK
    conv => lhs; rw [e]
    rw [List.map_map]
    rfl
  · rw [List.mem_map] at hx
    obtain ⟨v, hm, rfl⟩ := hx
    obtain ⟨m, rfl, hk⟩ := Ty.int_inv (hv v hm)
    exact hk
end Go.PM
