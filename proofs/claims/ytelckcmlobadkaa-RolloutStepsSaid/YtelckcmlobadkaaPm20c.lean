/-
  PM20c: contracts at other ways to see the same values. No condition.
-/
import Derived.Test.YtelckcmlobadkaaPm20
set_option linter.unusedSimpArgs false
set_option linter.unusedVariables false
namespace Go.PM
open Go

/-- Another way to see a value: an empty slice, nil or owned, is the read-only slice without rows. -/
inductive Co : PV → PV → Prop
  | refl (v : PV) : Co v v
  | junk (v : PV) : Co v .junk
  | nil (s : Nat) : Co .nils (.sl s [])
  | osl0 (o s off s' : Nat) : Co (.osl o s off 0) (.sl s' [])
  | agg {cs ds : List PV} (hl : ds.length = cs.length) (h : ∀ (j : Nat) p q, cs[j]? = some p → ds[j]? = some q → Co p q) : Co (.agg cs) (.agg ds)
  | tup {cs ds : List PV} (hl : ds.length = cs.length) (h : ∀ (j : Nat) p q, cs[j]? = some p → ds[j]? = some q → Co p q) : Co (.tup cs) (.tup ds)
  | rptr {cs ds : List PV} (hl : ds.length = cs.length) (h : ∀ (j : Nat) p q, cs[j]? = some p → ds[j]? = some q → Co p q) : Co (.rptr cs) (.rptr ds)
  | sl {s : Nat} {rs ts : List (List PV)} (hl : ts.length = rs.length) (hr : ∀ (i : Nat) r t, rs[i]? = some r → ts[i]? = some t → t.length = r.length)
      (h : ∀ (i j : Nat) p q, at2 rs i j = some p → at2 ts i j = some q → Co p q) : Co (.sl s rs) (.sl s ts)

structure CoL (ps qs : List PV) : Prop where
  len : qs.length = ps.length
  at_ : ∀ (j : Nat) p q, ps[j]? = some p → qs[j]? = some q → Co p q

theorem CoL.refl (ps : List PV) : CoL ps ps := ⟨rfl, fun j p q h k => by rw [h] at k; cases k; exact .refl p⟩

theorem Co.sound {E : Env} {p q : PV} (h : Co p q) : ∀ {v : Value}, RepV E p v → RepV E q v := by
  induction h with
  | refl => intro v r; exact r
  | junk => intro v _; exact .junk v
  | nil s =>
    intro v r
    cases r
    exact .sl (fun _ _ => .bool false) (by simp) (by decide) (by simp) (by simp) (fun _ _ => rfl) (by simp [at2])
  | osl0 o s off s' =>
    intro v r
    cases r with
    | osl hb hsp hoff hlen hmax hn hroom => exact .sl (fun _ _ => .bool false) (by simp) hmax (by simp) (by simp) (fun _ _ => rfl) (by simp [at2])
  | agg hl h ih =>
    intro v r
    cases r with
    | agg vs hl' h1 hr =>
    refine .agg vs (hl'.trans hl.symm) h1 fun j q u hq hu => ?_
    have hj := (List.getElem?_eq_some_iff.1 hq).1
    have hp := List.getElem?_eq_getElem (show j < _ by rw [hl] at hj; exact hj)
    exact ih j _ q hp hq (hr j _ u hp hu)
  | tup hl h ih =>
    intro v r
    cases r with
    | tup vs hl' hr =>
    refine .tup vs (hl'.trans hl.symm) fun j q u hq hu => ?_
    have hj := (List.getElem?_eq_some_iff.1 hq).1
    have hp := List.getElem?_eq_getElem (show j < _ by rw [hl] at hj; exact hj)
    exact ih j _ q hp hq (hr j _ u hp hu)
  | rptr hl h ih =>
    intro v r
    cases r with
    | rptr u hsp hc h1 hr =>
    refine .rptr u hsp (fun j q hq => ?_) h1 fun j q hq => ?_
    · have hj := (List.getElem?_eq_some_iff.1 hq).1
      exact hc j _ (List.getElem?_eq_getElem (show j < _ by rw [hl] at hj; exact hj))
    · have hj := (List.getElem?_eq_some_iff.1 hq).1
      have hp := List.getElem?_eq_getElem (show j < _ by rw [hl] at hj; exact hj)
      exact ih j _ q hp hq (hr j _ hp)
  | @sl s rs ts hl hrr h ih =>
    intro v r
    have key : ∀ (i j : Nat) q, at2 ts i j = some q → ∃ p, at2 rs i j = some p := by
      intro i j q hq
      unfold at2 at hq ⊢
      rw [Option.bind_eq_some_iff] at hq
      obtain ⟨t, ht, hq⟩ := hq
      have hi := (List.getElem?_eq_some_iff.1 ht).1
      have hr := List.getElem?_eq_getElem (show i < rs.length by omega)
      have := hrr i _ t hr ht
      have hj := (List.getElem?_eq_some_iff.1 hq).1
      rw [hr]
      exact ⟨(rs[i])[j]'(by omega), by simp⟩
    cases r with
    | sl u hcap hmax hs ha h1 hr =>
    rw [← hl]
    refine .sl u (by omega) hmax (fun t ht => ?_) (fun hne => ?_) h1 fun i j q hq => ?_
    · obtain ⟨i, hi, rfl⟩ := List.getElem_of_mem ht
      have := hrr i rs[i] ts[i] (by simp) (by simp)
      rw [this]
      exact hs _ (by simp)
    · obtain ⟨ad, e, sp, hc⟩ := ha (by rintro rfl; exact hne (List.eq_nil_of_length_eq_zero (by simpa using hl)))
      refine ⟨ad, e, sp, fun i j q hq => ?_⟩
      obtain ⟨p, hp⟩ := key i j q hq
      exact hc i j p hp
    · obtain ⟨p, hp⟩ := key i j q hq
      exact ih i j p q hp hq (hr i j p hp)


theorem CoL.sound {E : Env} : ∀ {ps qs : List PV} {vs : List Value}, CoL ps qs → RepVs E ps vs → RepVs E qs vs
  | [], qs, vs, h, r => by
    cases r
    have : qs = [] := List.eq_nil_of_length_eq_zero h.len
    subst this
    exact .nil
  | p :: ps, qs, vs, h, r => by
    cases r with
    | cons r1 r2 =>
    cases qs with
    | nil => have := h.len; simp at this
    | cons q qs =>
      refine .cons ((h.at_ 0 p q rfl rfl).sound r1) (CoL.sound ⟨by simpa using h.len, fun j x y a b => h.at_ (j + 1) x y (by simpa using a) (by simpa using b)⟩ r2)

theorem ECalls.args {C : Ctx} {name : Nat} {args args' : List PV} {H : PH} {R : PV → PH → Prop} (h : ECalls C name args' H R) (hc : CoL args args') : ECalls C name args H R :=
  ⟨h.1, fun E w vs hN hW hvs => h.2 E w vs hN hW (hc.sound hvs)⟩

theorem ECalls.post {C : Ctx} {name : Nat} {args : List PV} {H : PH} {R R' : PV → PH → Prop} (h : ECalls C name args H R) (hR : ∀ r H', R r H' → ∃ r', Co r r' ∧ R' r' H') : ECalls C name args H R' :=
  ⟨h.1, fun E w vs hN hW hvs => (h.2 E w vs hN hW hvs).mono fun e w' he => by
    obtain ⟨v, pv, E', H', rfl, hW', hr, hE, hp⟩ := he
    obtain ⟨pv', hco, hp'⟩ := hR pv H' hp
    exact ⟨v, pv', E', H', rfl, hW', hco.sound hr, hE, hp'⟩⟩
end Go.PM
