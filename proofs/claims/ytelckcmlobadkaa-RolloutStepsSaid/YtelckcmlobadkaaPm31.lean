/-
  PM31: lists that the call makes by appending. No condition.
-/
import Derived.Test.YtelckcmlobadkaaPm30
set_option linter.unusedSimpArgs false
set_option linter.unusedVariables false
namespace Go.PM
open Go

/-- 'v' is nil or a slice of the call's own, and shows these rows. -/
def Owned (H : PH) (s : Nat) (v : PV) (rows : List (List PV)) : Prop :=
  (rows = [] ∧ v = .nils) ∨ ∃ q rs, v = .osl q s 0 rows.length ∧ H q = some (.rows s rs) ∧ rows.length ≤ rs.length ∧ rs.take rows.length = rows
/-- 'v' is nil or read-only, and shows these rows. -/
def Seen (s : Nat) (v : PV) (rows : List (List PV)) : Prop := (rows = [] ∧ v = .nils) ∨ v = .sl s rows

section
variable {C : Ctx} {K : Kont} {F : PF} {H : PH} {s b : Nat} {v y : PV} {rows src : List (List PV)}

theorem Owned.nil : Owned H s .nils [] := .inl ⟨rfl, rfl⟩
theorem Owned.view (h : Owned H s v rows) : viewRows H s v = some rows := by
  rcases h with ⟨rfl, rfl⟩ | ⟨q, rs, rfl, h1, h2, h3⟩
  · rfl
  · have : 0 + rows.length ≤ rs.length := by omega
    simp only [viewRows, if_true, h1, true_and, if_pos this, List.drop_zero, h3]
theorem Seen.view (h : Seen s v rows) : viewRows H s v = some rows := by
  rcases h with ⟨rfl, rfl⟩ | rfl
  · rfl
  · simp [viewRows]
theorem Owned.ext {H' : PH} (h : Owned H s v rows) (hk : ∀ o x, H o = some x → H' o = some x) : Owned H' s v rows := by
  rcases h with h | ⟨q, rs, h0, h1, h2, h3⟩
  · exact .inl h
  · exact .inr ⟨q, rs, h0, hk q _ h1, h2, h3⟩

theorem append_owned {K : PV → PH → Prop} (h : Owned H s v rows) (hy : viewRows H s y = some src) (hr : roomFor rows.length src.length b)
    (hk : ∀ v' H', Owned H' s v' (rows ++ src) → (∀ o x, H o = some x → (∀ l, v ≠ .osl o s 0 l) → H' o = some x) → K v' H') : wpAppend H s b v y K := by
  rcases h with ⟨rfl, rfl⟩ | ⟨q, rs, rfl, h1, h2, h3⟩
  · refine ⟨src, hy, hr, fun e => ?_, fun e o ho => ?_⟩
    · subst e
      exact hk _ _ (.inl ⟨rfl, rfl⟩) fun o x ho _ => ho
    · refine hk _ _ (.inr ⟨o, src, rfl, by simp only [hset_at, if_true], Nat.le_refl _, by simp⟩) fun o' x ho' _ => ?_
      have : o' ≠ o := by rintro rfl; rw [ho] at ho'; cases ho'
      simp only [hset_at, if_neg this, ho']
  · have hlen : (rows ++ src).length = rows.length + src.length := List.length_append
    refine ⟨src, hy, rfl, rfl, hr, rs, h1, h2, ?_, fun o ho => ?_⟩
    · rw [h3]
      refine hk _ _ (.inr ⟨q, rows ++ src, by rw [hlen], by simp only [hset_at, if_true], Nat.le_refl _, List.take_length⟩) fun o' x ho' hne => ?_
      have : o' ≠ q := by rintro rfl; exact hne _ rfl
      simp only [hset_at, if_neg this, ho']
    · rw [h3]
      refine hk _ _ (.inr ⟨o, rows ++ src, by rw [hlen], by simp only [hset_at, if_true], Nat.le_refl _, List.take_length⟩) fun o' x ho' hne => ?_
      have h5 : o' ≠ q := by rintro rfl; exact hne _ rfl
      have h6 : o' ≠ o := by rintro rfl; rw [ho] at ho'; cases ho'
      simp only [hset_at, if_neg h5, if_neg h6, ho']

def Pure (u : PV) : Prop := ∀ q s rs, PV.frz q s rs u = u
theorem Owned.frz (h : Owned H s v rows) : ∃ v1, Seen s v1 rows ∧ ∀ F : PF, ∃ F1 H1, SFrz F H F1 H1 ∧ (∀ t, F t = some v → F1 t = some v1) ∧ ∀ i u, F i = some u → Pure u → F1 i = some u := by
  rcases h with ⟨rfl, rfl⟩ | ⟨q, rs, rfl, h1, h2, h3⟩
  · exact ⟨.nils, .inl ⟨rfl, rfl⟩, fun F => ⟨F, H, .refl _ _, fun t h => h, fun i u h _ => h⟩⟩
  · refine ⟨.sl s rows, .inr rfl, fun F => ⟨_, _, .step q h1 (.refl _ _), fun t ht => ?_, fun i u hi hp => ?_⟩⟩
    · have : 0 + rows.length ≤ rs.length := by omega
      simp only [PF.frz, ht, Option.map_some, PV.frz, PV.frz2, PV.frz1, if_true, true_and, if_pos this, List.drop_zero, h3]
    · simp only [PF.frz, hi, Option.map_some]
      rw [hp]

theorem retK_owned {t : Nat} {e : PExit} (he : e = .normal ∨ e = .ret) (h : Owned H s v rows) (ht : F t = some v) : retK [.tmp t] (Sees (.sl s rows)) e F H := by
  rcases h with ⟨rfl, rfl⟩ | ⟨q, rs, rfl, h1, h2, h3⟩
  · exact retK_keep (vs := [.nils]) he .nil (by rw [rev_cons, rev_tmp, ht, rev_nil]) PH.nil_le ⟨.nil s, rfl⟩
  · exact retK_frz he ht h1 h2 ⟨by rw [h3]; exact .refl _, rfl⟩
theorem retK_seen {t : Nat} {e : PExit} (he : e = .normal ∨ e = .ret) (h : Seen s v rows) (ht : F t = some v) : retK [.tmp t] (Sees (.sl s rows)) e F H := by
  rcases h with ⟨rfl, rfl⟩ | rfl
  · exact retK_keep (vs := [.nils]) he .nil (by rw [rev_cons, rev_tmp, ht, rev_nil]) PH.nil_le ⟨.nil s, rfl⟩
  · exact retK_keep he .nil (by rw [rev_cons, rev_tmp, ht, rev_nil]) PH.nil_le ⟨.refl _, rfl⟩
end
end Go.PM
