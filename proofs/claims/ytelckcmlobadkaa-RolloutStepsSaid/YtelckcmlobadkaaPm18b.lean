/-
  PM18b: two instructions of a region that draws its order may be exchanged. No condition.
-/
import Derived.Test.YtelckcmlobadkaaPm18a
set_option linter.unusedSimpArgs false
set_option linter.unusedVariables false
namespace Go.PM
open Go

theorem PH.fresh_off (H : PH) (l : List Nat) : ∃ o, H o = none ∧ o ∉ l := by
  obtain ⟨n, hn⟩ := H.fin
  refine ⟨n + l.sum + 1, hn _ (by omega), fun h => ?_⟩
  have : n + l.sum + 1 ≤ l.sum := by
    have key : ∀ (l : List Nat) (x : Nat), x ∈ l → x ≤ l.sum := by
      intro l
      induction l with
      | nil => intro x hx; cases hx
      | cons y ys ih =>
        intro x hx
        rcases List.mem_cons.1 hx with rfl | hx
        · simp
        · have := ih x hx; simp; omega
    exact key l _ h
  omega

theorem PH.set_comm (H : PH) {o q : Nat} (x y : PObj) (h : o ≠ q) : (H.set o x).set q y = (H.set q y).set o x := by
  refine PH.ext fun p => ?_
  simp only [set_apply]
  by_cases h1 : p = q <;> by_cases h2 : p = o <;> simp_all
theorem PH.le_set {H : PH} {o : Nat} (x : PObj) (h : H o = none) : H.le (H.set o x) := by
  intro p y hp
  rw [set_apply]
  split
  · rename_i e; subst e; rw [h] at hp; cases hp
  · exact hp
theorem PH.set_none {H : PH} {o q : Nat} {x : PObj} : (H.set o x) q = none ↔ q ≠ o ∧ H q = none := by
  rw [set_apply]
  split <;> simp_all
theorem PH.le_trans {A B D : PH} (h : A.le B) (k : B.le D) : A.le D := fun o x ho => k o x (h o x ho)
theorem PH.le_none {A B : PH} (h : A.le B) {o : Nat} (hb : B o = none) : A o = none := by
  cases ha : A o with
  | none => rfl
  | some x => have := h o x ha; rw [hb] at this; cases this

theorem PH.le_off {A B : PH} (h : A.le B) {o : Nat} {x : PObj} (ho : A o = none) : A.le (B.set o x) := by
  intro p y hp
  rw [set_apply]
  split
  · rename_i e; subst e; rw [ho] at hp; cases hp
  · exact h p y hp

/-- What a kind of 'calm' reads: one object at most, and more objects do no harm. -/
structure CalmOk (f : PH → Option PV) : Prop where
  dep : ∃ q : Nat, ∀ (H H' : PH), H q = H' q → f H = f H'
  mono : ∀ (H H' : PH) v, H.le H' → f H = some v → f H' = some v

structure WriteOk (w : PH → (PV → PH → Prop) → Prop) : Prop where
  mono : ∀ H (K K' : PV → PH → Prop), (∀ v H', K v H' → K' v H') → w H K → w H K'
  some : ∀ H (K : PV → PH → Prop), w H K → ∃ v H', K v H'

inductive Kind.Ok : Kind → Prop
  | fail : Kind.Ok .fail
  | calm {f : PH → Option PV} (h : CalmOk f) : Kind.Ok (.calm f)
  | new (r : Option ((Nat → PV) × PObj)) : Kind.Ok (.new r)
  | write {w : PH → (PV → PH → Prop) → Prop} (h : WriteOk w) : Kind.Ok (.write w)
  | call (name : Nat) (args : Option (List PV)) : Kind.Ok (.call name args)
  | ins (r : Option (Nat × MSh × List KS × PV)) : Kind.Ok (.ins r)

section
variable {C : Ctx} {Hs : PH} {S : Spec} {H : PH}

theorem wpWrite_mono {op : POp} {F : PF} {K K' : PV → PH → Prop} (h : ∀ v H', K v H' → K' v H') (hw : wpWrite op F H K) : wpWrite op F H K' := by
  cases op
  case store n p x =>
    simp only [wpWrite] at hw ⊢
    split at hw
    · obtain ⟨h1, H', h2, h3⟩ := hw; exact ⟨h1, H', h2, h _ _ h3⟩
    · exact hw.elim
  case append s b x y =>
    simp only [wpWrite] at hw ⊢
    split at hw
    · rename_i a c ha hc
      obtain ⟨src, h1, h2⟩ := hw
      refine ⟨src, h1, ?_⟩
      split at h2
      · exact ⟨h2.1, fun e => h _ _ (h2.2.1 e), fun e o ho => h _ _ (h2.2.2 e o ho)⟩
      · obtain ⟨g1, g2, g3, rs, g4, g5, g6, g7⟩ := h2
        exact ⟨g1, g2, g3, rs, g4, g5, h _ _ g6, fun o ho => h _ _ (g7 o ho)⟩
      · exact h2.elim
    · exact hw.elim
  case mapset sh x k v =>
    simp only [wpWrite] at hw ⊢
    split at hw
    · split at hw
      · exact ⟨hw.1, h _ _ hw.2⟩
      · exact hw.elim
    · exact hw.elim
  case insert sh x k v =>
    simp only [wpWrite] at hw ⊢
    split at hw
    · split at hw
      · exact ⟨hw.1, hw.2.1, h _ _ hw.2.2⟩
      · exact hw.elim
    · exact hw.elim
  all_goals exact hw.elim

theorem wpWrite_some {op : POp} {F : PF} {K : PV → PH → Prop} (hw : wpWrite op F H K) : ∃ v H', K v H' := by
  cases op
  case store n p x =>
    simp only [wpWrite] at hw
    split at hw
    · obtain ⟨h1, H', h2, h3⟩ := hw; exact ⟨_, _, h3⟩
    · exact hw.elim
  case append s b x y =>
    simp only [wpWrite] at hw
    split at hw
    · rename_i a c ha hc
      obtain ⟨src, h1, h2⟩ := hw
      split at h2
      · by_cases e : src = []
        · exact ⟨_, _, h2.2.1 e⟩
        · obtain ⟨o, ho⟩ := H.fresh
          exact ⟨_, _, h2.2.2 e o ho⟩
      · obtain ⟨g1, g2, g3, rs, g4, g5, g6, g7⟩ := h2
        exact ⟨_, _, g6⟩
      · exact h2.elim
    · exact hw.elim
  case mapset sh x k v =>
    simp only [wpWrite] at hw
    split at hw
    · split at hw
      · exact ⟨_, _, hw.2⟩
      · exact hw.elim
    · exact hw.elim
  case insert sh x k v =>
    simp only [wpWrite] at hw
    split at hw
    · split at hw
      · exact ⟨_, _, hw.2.2⟩
      · exact hw.elim
    · exact hw.elim
  all_goals exact hw.elim

theorem okind_ok (op : POp) (F : PF) : (op.kind F).Ok := by
  have hgen : (if op.isNew then Kind.new (allocOf op F) else if op.isWrite then .write (fun H K => wpWrite op F H K) else .calm (peval op F)).Ok := by
    split
    · exact .new _
    · split
      · exact .write ⟨fun H K K' h hw => wpWrite_mono h hw, fun H K hw => wpWrite_some hw⟩
      · exact .calm ⟨peval_dep op F, fun H H' v h hv => peval_mono h hv⟩
  cases op
  case call n as => exact .call _ _
  case callv x as =>
    simp only [POp.kind]
    split
    · exact .call _ _
    · exact .fail
  case insert sh x k v => exact .ins _
  all_goals exact hgen

theorem ikind_ok (i : PInstr) (F : PF) : (i.kind F).Ok := by
  unfold PInstr.kind
  split
  · exact okind_ok _ _
  · split
    · split
      · exact okind_ok _ _
      · exact .calm ⟨⟨0, fun _ _ _ => rfl⟩, fun _ _ _ _ h => h⟩
    · exact .calm ⟨⟨0, fun _ _ _ => rfl⟩, fun _ _ _ _ h => h⟩
    · exact .fail

theorem Kind.run_mono {k : Kind} (hk : k.Ok) {st : Bool} {K K' : PV → PH → Prop} (h : ∀ v H', Hs.le H' → K v H' → K' v H') (hle : Hs.le H) (hr : k.run C Hs S st K H) : k.run C Hs S st K' H := by
  cases hk with
  | fail => exact hr
  | calm _ => obtain ⟨v, h1, h2⟩ := hr; exact ⟨v, h1, h _ _ hle h2⟩
  | new r => obtain ⟨mk, x, h1, h2⟩ := hr; exact ⟨mk, x, h1, fun o ho => h _ _ (PH.le_trans hle (PH.le_set x ho)) (h2 o ho)⟩
  | write hw => exact hw.mono _ _ _ (fun v H' hh => ⟨hh.1, h _ _ hh.1 hh.2⟩) hr
  | call name args =>
    obtain ⟨vs, D, R, h1, h2, h3, h4, h5, h6⟩ := hr
    exact ⟨vs, D, R, h1, h2, h3, h4, h5, fun r H' a b => ⟨(h6 r H' a b).1, h _ _ (h6 r H' a b).1 (h6 r H' a b).2⟩⟩
  | ins r =>
    obtain ⟨o, sh, key, v, g, h1, h2, h3, h4, h5⟩ := hr
    exact ⟨o, sh, key, v, g, h1, h2, h3, h4, h _ _ (PH.le_off hle h4) h5⟩

def Kind.cls : Kind → Nat
  | .fail | .calm _ => 0
  | .new _ => 1
  | .write _ => 2
  | .call .. => 3
  | .ins _ => 4

theorem only_set {H : PH} {D : List Nat} {o : Nat} (x : PObj) (h : o ∉ D) : (H.set o x).only D = H.only D := by
  refine PH.ext fun q => ?_
  simp only [PH.only, set_apply]
  split
  · rename_i hq
    rw [if_neg (by rintro rfl; exact h hq)]
  · rfl
theorem over_at (H H0 H' : PH) (o : Nat) : (H.over H0 H') o = (match H' o with | some x => some x | none => match H0 o with | some _ => some .dead | none => H o) := rfl
theorem only_at (H : PH) (D : List Nat) (o : Nat) : (H.only D) o = if o ∈ D then H o else none := rfl

theorem over_set {H H' : PH} {D : List Nat} {o : Nat} (x : PObj) (ho : o ∉ D) (h' : H' o = none) : (H.set o x).over (H.only D) H' = (H.over (H.only D) H').set o x := by
  refine PH.ext fun q => ?_
  rw [over_at, set_apply, set_apply, over_at]
  by_cases e : q = o
  · subst e
    simp only [h', only_at, if_neg ho, if_true]
  · simp only [if_neg e]

theorem over_none {H H' : PH} {D : List Nat} {o : Nat} (h : (H.over (H.only D) H') o = none) : H o = none ∧ H' o = none := by
  rw [over_at] at h
  cases h1 : H' o with
  | some x => rw [h1] at h; cases h
  | none =>
    rw [h1] at h
    simp only at h
    cases h2 : (H.only D) o with
    | some x => rw [h2] at h; cases h
    | none => rw [h2] at h; exact ⟨h, rfl⟩

/-- A call and a new object. -/
theorem swap_call_new {name : Nat} {args : Option (List PV)} {r : Option ((Nat → PV) × PObj)} {K : PV → PV → PH → Prop} {si sj : Bool}
    (h : (Kind.call name args).run C Hs S si (fun v H' => (Kind.new r).run C Hs S sj (fun u H'' => K v u H'') H') H) :
    (Kind.new r).run C Hs S sj (fun u H' => (Kind.call name args).run C Hs S si (fun v H'' => K v u H'') H') H := by
  obtain ⟨vs, D, R, h1, h2, h3, h4, h5, h6⟩ := h
  obtain ⟨r0, H0, h5a, h5b⟩ := h5 H
  obtain ⟨-, mk, x, hr, -⟩ := h6 r0 H0 h5a h5b
  refine ⟨mk, x, hr, fun o ho => ?_⟩
  have hoD : o ∉ D := fun hD => by obtain ⟨y, hy⟩ := h3 o hD; rw [ho] at hy; cases hy
  refine ⟨vs, D, R, h1, h2, fun q hq => ?_, ?_, ?_, ?_⟩
  · rw [set_apply]
    split
    · exact ⟨_, rfl⟩
    · exact h3 q hq
  · rw [only_set x hoD]; exact h4
  · rw [only_set x hoD]; exact h5
  · intro v H' hR hap
    rw [only_set x hoD] at hR hap ⊢
    have h' : H' o = none := by
      cases e : H' o with
      | none => rfl
      | some y =>
        have := hap o y e (by rw [only_at, if_neg hoD])
        rw [set_apply, if_pos rfl] at this; cases this
    have hap' : Apart H (H.only D) H' := fun q y hq h0 => by
      have := hap q y hq h0
      rw [set_apply] at this
      split at this
      · cases this
      · exact this
    obtain ⟨g1, mk', x', g2, g3⟩ := h6 v H' hR hap'
    rw [hr] at g2
    cases g2
    have hon : (H.over (H.only D) H') o = none := by rw [over_at, h', only_at, if_neg hoD]; exact ho
    rw [over_set x hoD h']
    exact ⟨PH.le_trans g1 (PH.le_set x hon), g3 o hon⟩

theorem swap_new_call {name : Nat} {args : Option (List PV)} {r : Option ((Nat → PV) × PObj)} {K : PV → PV → PH → Prop} {si sj : Bool} (hle : Hs.le H)
    (h : (Kind.new r).run C Hs S si (fun v H' => (Kind.call name args).run C Hs S sj (fun u H'' => K v u H'') H') H) :
    (Kind.call name args).run C Hs S sj (fun u H' => (Kind.new r).run C Hs S si (fun v H'' => K v u H'') H') H := by
  obtain ⟨mk, x, hr, h⟩ := h
  obtain ⟨o0, ho0⟩ := H.fresh
  obtain ⟨vs, D, R, h1, h2, -⟩ := h o0 ho0
  obtain ⟨o, ho, hoD⟩ := H.fresh_off D
  have all : ∀ q, H q = none → q ∉ D → (∀ p ∈ D, ∃ y, (H.set q x) p = some y) ∧ ECalls C name vs (H.only D) (R (H.only D)) ∧ (∀ G : PH, ∃ r H', R (H.only D) r H' ∧ Apart G (H.only D) H') ∧
      ∀ r H', R (H.only D) r H' → Apart (H.set q x) (H.only D) H' → Hs.le ((H.set q x).over (H.only D) H') ∧ K (mk q) r ((H.set q x).over (H.only D) H') := by
    intro q hq hqD
    obtain ⟨vs', D', R', g1, g2, g3, g4, g5, g6⟩ := h q hq
    rw [h1] at g1; cases g1
    rw [h2] at g2; cases g2
    rw [only_set x hqD] at g4 g5 g6
    exact ⟨g3, g4, g5, g6⟩
  obtain ⟨a3, a4, a5, -⟩ := all o ho hoD
  have hD : ∀ q ∈ D, ∃ y, H q = some y := fun q hq => by
    obtain ⟨y, hy⟩ := a3 q hq
    rw [set_apply, if_neg (by rintro rfl; exact hoD hq)] at hy
    exact ⟨y, hy⟩
  have hoff : ∀ q, H q = none → q ∉ D := fun q hq hD' => by obtain ⟨y, hy⟩ := hD q hD'; rw [hq] at hy; cases hy
  refine ⟨vs, D, R, h1, h2, hD, a4, a5, fun u H' hR hap => ?_⟩
  have step : ∀ q, (H.over (H.only D) H') q = none → Hs.le ((H.over (H.only D) H').set q x) ∧ K (mk q) u ((H.over (H.only D) H').set q x) := by
    intro q hq
    obtain ⟨hq1, hq2⟩ := over_none hq
    have hqD := hoff q hq1
    obtain ⟨-, -, -, a6⟩ := all q hq1 hqD
    have := a6 u H' hR fun p y hp h0 => by
      rw [set_apply]
      split
      · rename_i e; subst e; rw [hq2] at hp; cases hp
      · exact hap p y hp h0
    rw [over_set x hqD hq2] at this
    exact this
  refine ⟨?_, mk, x, hr, fun q hq => (step q hq).2⟩
  obtain ⟨q, hq⟩ := (H.over (H.only D) H').fresh
  have hq1 := (step q hq).1
  intro p y hp
  have := hq1 p y hp
  rw [set_apply] at this
  split at this
  · rename_i e
    subst e
    have := PH.le_none hle (over_none hq).1
    rw [hp] at this; cases this
  · exact this

theorem swap_new_new {r r' : Option ((Nat → PV) × PObj)} {K : PV → PV → PH → Prop} {si sj : Bool}
    (h : (Kind.new r).run C Hs S si (fun v H' => (Kind.new r').run C Hs S sj (fun u H'' => K v u H'') H') H) :
    (Kind.new r').run C Hs S sj (fun u H' => (Kind.new r).run C Hs S si (fun v H'' => K v u H'') H') H := by
  obtain ⟨mk, x, hr, h⟩ := h
  obtain ⟨o0, ho0⟩ := H.fresh
  obtain ⟨mk', x', hr', -⟩ := h o0 ho0
  refine ⟨mk', x', hr', fun q hq => ⟨mk, x, hr, fun o ho => ?_⟩⟩
  rw [PH.set_none] at ho
  obtain ⟨mk2, x2, hr2, g⟩ := h o ho.2
  rw [hr'] at hr2
  cases hr2
  have := g q (PH.set_none.2 ⟨Ne.symm ho.1, hq⟩)
  rwa [PH.set_comm H x x' ho.1] at this

/-- What is calm and anything that does not turn what it reads. -/
theorem swap_calm_any {f : PH → Option PV} {k : Kind} {K : PV → PV → PH → Prop} {si sj : Bool} (hf : CalmOk f) (hk : k.Ok) (hst : k.cls = 2 ∨ k.cls = 3 ∨ k.cls = 4 → si = true) (hle : Hs.le H)
    (h : (Kind.calm f).run C Hs S si (fun v H' => k.run C Hs S sj (fun u H'' => K v u H'') H') H) :
    k.run C Hs S sj (fun u H' => (Kind.calm f).run C Hs S si (fun v H'' => K v u H'') H') H := by
  obtain ⟨v, hv, h⟩ := h
  cases hk with
  | fail => exact h
  | @calm g hg => obtain ⟨u, hu, h⟩ := h; exact ⟨u, hu, v, hv, h⟩
  | new r =>
    obtain ⟨mk, x, hr, h⟩ := h
    refine ⟨mk, x, hr, fun o ho => ⟨v, ?_, h o ho⟩⟩
    cases si
    · exact hf.mono _ _ _ (PH.le_set x ho) hv
    · exact hv
  | write hw =>
    have : si = true := hst (.inl rfl)
    subst this
    exact Kind.run_mono (.write hw) (fun u H' _ hh => ⟨v, hv, hh⟩) hle h
  | call name args =>
    have : si = true := hst (.inr (.inl rfl))
    subst this
    exact Kind.run_mono (.call name args) (fun u H' _ hh => ⟨v, hv, hh⟩) hle h
  | ins r =>
    have : si = true := hst (.inr (.inr rfl))
    subst this
    exact Kind.run_mono (.ins r) (fun u H' _ hh => ⟨v, hv, hh⟩) hle h

theorem swap_any_calm {f : PH → Option PV} {k : Kind} {K : PV → PV → PH → Prop} {si sj : Bool} (hf : CalmOk f) (hk : k.Ok) (hst : k.cls = 2 ∨ k.cls = 3 ∨ k.cls = 4 → sj = true) (hle : Hs.le H)
    (h : k.run C Hs S si (fun v H' => (Kind.calm f).run C Hs S sj (fun u H'' => K v u H'') H') H) :
    (Kind.calm f).run C Hs S sj (fun u H' => k.run C Hs S si (fun v H'' => K v u H'') H') H := by
  cases hk with
  | fail => exact h.elim
  | @calm g hg => obtain ⟨u, hu, v, hv, h⟩ := h; exact ⟨v, hv, u, hu, h⟩
  | new r =>
    obtain ⟨mk, x, hr, h⟩ := h
    cases sj with
    | true =>
      obtain ⟨o0, ho0⟩ := H.fresh
      obtain ⟨u, hu, -⟩ := h o0 ho0
      refine ⟨u, hu, mk, x, hr, fun o ho => ?_⟩
      obtain ⟨u', hu', hK⟩ := h o ho
      simp only [if_true] at hu hu'
      rw [hu] at hu'; cases hu'
      exact hK
    | false =>
      obtain ⟨q, hq⟩ := hf.dep
      obtain ⟨o0, ho0, hne⟩ := H.fresh_off [q]
      obtain ⟨u, hu, -⟩ := h o0 ho0
      simp only [Bool.false_eq_true, if_false] at hu
      have hu' : f H = some u := by
        rw [← hu]
        exact hq _ _ (by rw [set_apply, if_neg (by simpa using Ne.symm (fun e => hne (by simp [e])))])
      refine ⟨u, hu', mk, x, hr, fun o ho => ?_⟩
      obtain ⟨u2, hu2, hK⟩ := h o ho
      simp only [Bool.false_eq_true, if_false] at hu2
      rw [hf.mono _ _ _ (PH.le_set x ho) hu'] at hu2
      cases hu2
      exact hK
  | @write w hw =>
    have : sj = true := hst (.inl rfl)
    subst this
    obtain ⟨_, _, _, u, hu, _⟩ := hw.some _ _ h
    refine ⟨u, hu, hw.mono _ _ _ (fun v H' hh => ⟨hh.1, ?_⟩) h⟩
    obtain ⟨-, u', hu', hK⟩ := hh
    simp only [if_true] at hu hu'
    rw [hu] at hu'; cases hu'
    exact hK
  | call name args =>
    have : sj = true := hst (.inr (.inl rfl))
    subst this
    obtain ⟨vs, D, R, h1, h2, h3, h4, h5, h6⟩ := h
    obtain ⟨r0, H0, h5a, h5b⟩ := h5 H
    obtain ⟨-, u, hu, -⟩ := h6 r0 H0 h5a h5b
    refine ⟨u, hu, vs, D, R, h1, h2, h3, h4, h5, fun r H' hR hap => ?_⟩
    obtain ⟨g1, u', hu', hK⟩ := h6 r H' hR hap
    simp only [if_true] at hu hu'
    rw [hu] at hu'; cases hu'
    exact ⟨g1, hK⟩
  | ins r =>
    have : sj = true := hst (.inr (.inr rfl))
    subst this
    obtain ⟨o, sh, key, v, g, h1, h2, h3, h4, u, hu, hK⟩ := h
    exact ⟨u, hu, o, sh, key, v, g, h1, h2, h3, h4, hK⟩

/-- Two new keys. -/
theorem swap_ins_ins {r r' : Option (Nat × MSh × List KS × PV)} {K : PV → PV → PH → Prop} {si sj : Bool}
    (h : (Kind.ins r).run C Hs S si (fun v H' => (Kind.ins r').run C Hs S sj (fun u H'' => K v u H'') H') H) :
    (Kind.ins r').run C Hs S sj (fun u H' => (Kind.ins r).run C Hs S si (fun v H'' => K v u H'') H') H := by
  obtain ⟨o, sh, key, v, g, h1, h2, h3, h4, o', sh', key', v', g', k1, k2, k3, k4, hK⟩ := h
  by_cases e : o' = o
  · subst e
    rw [set_apply, if_pos rfl] at k2
    cases k2
    have hne : key' ≠ key := by
      rintro rfl
      simp [PMap.upd] at k3
    have k3' : g key' = none := by simpa [PMap.upd, hne] using k3
    refine ⟨o', sh, key', v', g, k1, h2, k3', h4, o', sh, key, v, g.upd key' v', h1, by rw [set_apply, if_pos rfl], by simp [PMap.upd, Ne.symm hne, h3], h4, ?_⟩
    have : ((H.set o' (.map sh (g.upd key' v'))).set o' (.map sh ((g.upd key' v').upd key v))) = ((H.set o' (.map sh (g.upd key v))).set o' (.map sh ((g.upd key v).upd key' v'))) := by
      refine PH.ext fun q => ?_
      simp only [set_apply]
      split
      · congr 2
        funext k
        simp only [PMap.upd]
        by_cases h5 : k = key <;> by_cases h6 : k = key' <;> simp_all
      · rfl
    rw [this]
    exact hK
  · rw [set_apply, if_neg e] at k2
    refine ⟨o', sh', key', v', g', k1, k2, k3, k4, o, sh, key, v, g, h1, by rw [set_apply, if_neg (Ne.symm e)]; exact h2, h3, h4, ?_⟩
    rw [PH.set_comm H _ _ e]
    exact hK

/-- Which two kinds may be exchanged. -/
def mayB (a b : Nat) (sa sb : Bool) : Bool :=
  match a, b with
  | 0, 0 | 0, 1 | 1, 0 | 1, 1 | 1, 3 | 3, 1 | 4, 4 => true
  | 0, _ => sa
  | _, 0 => sb
  | _, _ => false

theorem swap_kinds {ki kj : Kind} {K : PV → PV → PH → Prop} {si sj : Bool} (hi : ki.Ok) (hj : kj.Ok) (hm : mayB ki.cls kj.cls si sj = true) (hle : Hs.le H)
    (h : ki.run C Hs S si (fun v H' => kj.run C Hs S sj (fun u H'' => K v u H'') H') H) :
    kj.run C Hs S sj (fun u H' => ki.run C Hs S si (fun v H'' => K v u H'') H') H := by
  by_cases hci : ki.cls = 0
  · cases hi with
    | fail => exact h.elim
    | calm hf =>
      refine swap_calm_any hf hj (fun hc => ?_) hle h
      rcases hc with hc | hc | hc <;> (rw [hc] at hm; simpa [mayB, Kind.cls] using hm)
    | new | write | call | ins => simp [Kind.cls] at hci
  · by_cases hcj : kj.cls = 0
    · cases hj with
      | fail =>
        cases hi with
        | fail => exact h
        | calm _ => simp [Kind.cls] at hci
        | new r =>
          obtain ⟨mk, x, -, h⟩ := h
          obtain ⟨o, ho⟩ := H.fresh
          exact h o ho
        | write hw => obtain ⟨_, _, _, hh⟩ := hw.some _ _ h; exact hh
        | call name args =>
          obtain ⟨vs, D, R, h1, h2, h3, h4, h5, h6⟩ := h
          obtain ⟨r0, H0, h5a, h5b⟩ := h5 H
          exact (h6 r0 H0 h5a h5b).2
        | ins r =>
          obtain ⟨o, sh, key, v, g, h1, h2, h3, h4, h5⟩ := h
          exact h5
      | calm hf =>
        refine swap_any_calm hf hi (fun hc => ?_) hle h
        rcases hc with hc | hc | hc <;> (rw [hc] at hm; simpa [mayB, Kind.cls] using hm)
      | new | write | call | ins => simp [Kind.cls] at hcj
    · cases hi with
      | fail | calm => simp [Kind.cls] at hci
      | new r =>
        cases hj with
        | fail | calm => simp [Kind.cls] at hcj
        | new r' => exact swap_new_new h
        | write => simp [Kind.cls, mayB] at hm
        | call => exact swap_new_call hle h
        | ins => simp [Kind.cls, mayB] at hm
      | write => cases hj <;> simp [Kind.cls, mayB] at hm hcj
      | call =>
        cases hj with
        | fail | calm => simp [Kind.cls] at hcj
        | new r' => exact swap_call_new h
        | write => simp [Kind.cls, mayB] at hm
        | call => simp [Kind.cls, mayB] at hm
        | ins => simp [Kind.cls, mayB] at hm
      | ins =>
        cases hj with
        | fail | calm => simp [Kind.cls] at hcj
        | new r' => simp [Kind.cls, mayB] at hm
        | write => simp [Kind.cls, mayB] at hm
        | call => simp [Kind.cls, mayB] at hm
        | ins => exact swap_ins_ins h

end
end Go.PM
