/-
  PM30: calls that own objects, results that are given up. No condition.
-/
import Derived.Test.YtelckcmlobadkaaPm29
set_option linter.unusedSimpArgs false
set_option linter.unusedVariables false
namespace Go.PM
open Go

section
variable {C : Ctx} {K : Kont} {F : PF} {H : PH}

theorem PH.over_nil_set (o : Nat) (x : PObj) : H.over .nil (PH.nil.set o x) = H.set o x := PH.ext fun q => by
  rw [over_at]; simp only [hset_at, hnil_at]; split <;> simp_all
theorem PH.over_set_set (o : Nat) (x y : PObj) : H.over (PH.nil.set o x) (PH.nil.set o y) = H.set o y := PH.ext fun q => by
  rw [over_at]; simp only [hset_at, hnil_at]; split <;> simp_all
theorem PH.over_set_nil (o : Nat) (x : PObj) : H.over (PH.nil.set o x) .nil = H.set o .dead := PH.ext fun q => by
  rw [over_at]; simp only [hset_at, hnil_at]; split <;> simp_all

/-- A call that is handed objects. -/
theorem wpCall_own {name : Nat} {vs : List PV} {H0 : PH} {R : PV → PH → Prop} {args : List POpd} {d : Option Nat} {K : PF → PH → Prop} (h : ECalls C name vs H0 R) (ha : POpd.evs F args = some vs) (hle : H0.le H)
    (hk : ∀ r H', R r H' → Apart H H0 H' → K (F.put d r) (H.over H0 H')) : wpCall C name args [] d K F H :=
  .inl ⟨vs, H0, R, by rw [ha]; simp, hle, h, hk⟩

theorem retK_keep {res : List PRes} {R : PV → PH → Prop} {vs : List PV} {e : PExit} (he : e = .normal ∨ e = .ret) (H0 : PH) (h : PRes.evs F H res = some vs) (hle : H0.le H) (hR : R (packRes vs) H0) : retK res R e F H := by
  have key : ∃ vs, PRes.evs F H res = some vs ∧ ∃ F1 H1 H2, SFrz (PF.nil.set 0 (packRes vs)) H F1 H1 ∧ H2.le H1 ∧ ∃ u, F1 0 = some u ∧ R u H2 :=
    ⟨vs, h, _, H, H0, .refl _ _, hle, packRes vs, by rw [set_at, if_pos rfl], hR⟩
  rcases he with rfl | rfl <;> exact key

/-- A result that is a slice of the call's own: read-only from now on. -/
theorem retK_frz {t o s k : Nat} {rs : List (List PV)} {R : PV → PH → Prop} {e : PExit} (he : e = .normal ∨ e = .ret) (h : F t = some (.osl o s 0 k)) (ho : H o = some (.rows s rs)) (hk : k ≤ rs.length) (hR : R (.sl s (rs.take k)) .nil) :
    retK [.tmp t] R e F H := by
  have key : ∃ vs, PRes.evs F H [.tmp t] = some vs ∧ ∃ F1 H1 H2, SFrz (PF.nil.set 0 (packRes vs)) H F1 H1 ∧ H2.le H1 ∧ ∃ u, F1 0 = some u ∧ R u H2 := by
    refine ⟨[.osl o s 0 k], by rw [rev_cons, rev_tmp, h, rev_nil], _, _, .nil, .step o ho (.refl _ _), PH.nil_le, .sl s (rs.take k), ?_, hR⟩
    have : 0 + k ≤ rs.length := by omega
    simp only [PF.frz, set_at, if_true, packRes, Option.map_some, PV.frz, PV.frz2, PV.frz1, true_and, if_pos this, List.drop_zero]
  rcases he with rfl | rfl <;> exact key

/-- What a call yields that owns nothing, up to the way to see it. -/
def Sees (v : PV) (r : PV) (H : PH) : Prop := Co r v ∧ H = PH.nil
theorem ECalls.sees {name : Nat} {args : List PV} {H : PH} {v : PV} (h : ECalls C name args H (Sees v)) : ECalls C name args H (Gives v) :=
  h.post fun r H' ⟨h1, h2⟩ => ⟨v, h1, rfl, h2⟩
theorem Gives.sees {v r : PV} {H : PH} (h : Gives v r H) : Sees v r H := by
  obtain ⟨rfl, rfl⟩ := h
  exact ⟨.refl _, rfl⟩
theorem ECalls.to_sees {name : Nat} {args : List PV} {H : PH} {v : PV} (h : ECalls C name args H (Gives v)) : ECalls C name args H (Sees v) :=
  h.post fun r H' hr => ⟨r, .refl _, hr.sees⟩

/-- Appending to a slice of the call's own or to none. -/
theorem wpAppend_nil {s b : Nat} {y : PV} {src : List (List PV)} {K : PV → PH → Prop} (hy : viewRows H s y = some src) (hr : roomFor 0 src.length b) (h0 : src = [] → K .nils H)
    (h1 : src ≠ [] → ∀ o, H o = none → K (.osl o s 0 src.length) (H.set o (.rows s src))) : wpAppend H s b .nils y K := ⟨src, hy, hr, h0, h1⟩
theorem wpAppend_own {o s b len : Nat} {rs : List (List PV)} {y : PV} {src : List (List PV)} {K : PV → PH → Prop} (hy : viewRows H s y = some src) (hr : roomFor len src.length b) (ho : H o = some (.rows s rs)) (hl : len ≤ rs.length)
    (h0 : K (.osl o s 0 (len + src.length)) (H.set o (.rows s (rs.take len ++ src))))
    (h1 : ∀ o', H o' = none → K (.osl o' s 0 (len + src.length)) ((H.set o .dead).set o' (.rows s (rs.take len ++ src)))) : wpAppend H s b (.osl o s 0 len) y K :=
  ⟨src, hy, rfl, rfl, hr, rs, ho, hl, h0, h1⟩
end
end Go.PM
