/-
  PM18c: a region that draws its order: its lexical order stands for all. No condition.
-/
import Derived.Test.YtelckcmlobadkaaPm18b
import Derived.Orders
set_option linter.unusedSimpArgs false
set_option linter.unusedVariables false
namespace Go.PM
open Go Go.RowKit

def PInstr.apart (x y : PInstr) : Bool :=
  (match x.dst with
    | some d => !(y.slots).contains d && y.dst != some d
    | none => true) &&
  (match y.dst with
    | some d => !(x.slots).contains d
    | none => true)

theorem put_same {F : PF} {l : List Nat} {d : Option Nat} (v : PV) (h : ∀ t, d = some t → t ∉ l) : Same l (F.put d v) F := by
  intro t ht
  cases d with
  | none => rfl
  | some d =>
    have : t ≠ d := by rintro rfl; exact h t rfl ht
    simp only [PF.put, PF.set, upd, if_neg this]

theorem put_swap {F : PF} {d e : Option Nat} (v u : PV) (h : ∀ t, d = some t → e ≠ some t) : (F.put d v).put e u = (F.put e u).put d v := by
  cases d with
  | none => rfl
  | some d =>
    cases e with
    | none => rfl
    | some e =>
      have hne : d ≠ e := by rintro rfl; exact h d rfl rfl
      exact upd_comm F (some v) (some u) hne

theorem apart_spec {x y : PInstr} (h : x.apart y = true) : (∀ d, x.dst = some d → d ∉ y.slots) ∧ (∀ d, x.dst = some d → y.dst ≠ some d) ∧ (∀ d, y.dst = some d → d ∉ x.slots) := by
  refine ⟨fun d hd => ?_, fun d hd => ?_, fun d hd => ?_⟩ <;> simp [PInstr.apart, hd] at h
  · exact h.1.1
  · exact h.1.2
  · exact h.2

def POp.cls : POp → Nat
  | .call .. | .callv .. => 3
  | .insert .. => 4
  | op => if op.isNew then 1 else if op.isWrite then 2 else 0

/-- Which two instructions may be exchanged. -/
def mayI (a b : Nat) (sa sb : Bool) : Bool :=
  match a, b with
  | 0, 0 | 0, 1 | 1, 0 | 1, 1 => true
  | 4, 4 => sa && sb
  | 0, _ => sa
  | _, 0 => sb
  | 1, 3 => sa
  | 3, 1 => sb
  | _, _ => false

def freeI (x y : PInstr × Bool) : Bool := x.1.apart y.1 && mayI x.1.op.cls y.1.op.cls x.2 y.2

section
variable {C : Ctx} {Hs : PH} {S : Spec} {H : PH} {F : PF}

theorem okind_cls (op : POp) (F : PF) : (op.kind F).cls = op.cls ∨ (op.kind F).cls = 0 := by
  have hgen : (if op.isNew then Kind.new (allocOf op F) else if op.isWrite then .write (fun H K => wpWrite op F H K) else .calm (peval op F)).cls = (if op.isNew then 1 else if op.isWrite then 2 else 0) := by
    split
    · rfl
    · split <;> rfl
  cases op
  case call n as => exact .inl rfl
  case callv x as =>
    simp only [POp.kind]
    split
    · exact .inl rfl
    · exact .inr rfl
  case insert sh x k v => exact .inl rfl
  all_goals exact .inl hgen

theorem ikind_cls (i : PInstr) (F : PF) : (i.kind F).cls = i.op.cls ∨ (i.kind F).cls = 0 := by
  unfold PInstr.kind
  split
  · exact okind_cls _ _
  · split
    · split
      · exact okind_cls _ _
      · exact .inr rfl
    · exact .inr rfl
    · exact .inr rfl

theorem may_of {a b a' b' : Nat} {sa sb : Bool} (h : mayI a b sa sb = true) (ha : a' = a ∨ a' = 0) (hb : b' = b ∨ b' = 0) : mayB a' b' sa sb = true := by
  unfold mayI at h
  split at h
  all_goals (rcases ha with rfl | rfl <;> rcases hb with rfl | rfl <;> simp_all [mayB])

theorem Kind.run_some {k : Kind} (hk : k.Ok) {st : Bool} {K : PV → PH → Prop} (hr : k.run C Hs S st K H) : ∃ v H', K v H' := by
  cases hk with
  | fail => exact hr.elim
  | calm _ => obtain ⟨v, h1, h2⟩ := hr; exact ⟨v, _, h2⟩
  | new r => obtain ⟨mk, x, h1, h2⟩ := hr; obtain ⟨o, ho⟩ := H.fresh; exact ⟨_, _, h2 o ho⟩
  | write hw => obtain ⟨v, H', h⟩ := hw.some _ _ hr; exact ⟨v, H', h.2⟩
  | call name args =>
    obtain ⟨vs, D, R, h1, h2, h3, h4, h5, h6⟩ := hr
    obtain ⟨r, H', a, b⟩ := h5 H
    exact ⟨_, _, (h6 r H' a b).2⟩
  | ins r =>
    obtain ⟨o, sh, key, v, g, h1, h2, h3, h4, h5⟩ := hr
    exact ⟨_, _, h5⟩

def oneD (C : Ctx) (Hs : PH) (S : Spec) (i : PInstr × Bool) (K : PF → PH → Prop) (F : PF) (H : PH) : Prop := (i.1.kind F).run C Hs S i.2 (fun v H' => K (F.put i.1.dst v) H') H

theorem oneD_mono {i : PInstr × Bool} {K K' : PF → PH → Prop} (h : ∀ F' H', Hs.le H' → K F' H' → K' F' H') (hle : Hs.le H) (hr : oneD C Hs S i K F H) : oneD C Hs S i K' F H :=
  Kind.run_mono (ikind_ok _ _) (fun v H' a b => h _ _ a b) hle hr

theorem oneD_swap {i j : PInstr × Bool} {K : PF → PH → Prop} (hf : freeI i j = true) (hle : Hs.le H) (h : oneD C Hs S i (oneD C Hs S j K) F H) : oneD C Hs S j (oneD C Hs S i K) F H := by
  simp only [freeI, Bool.and_eq_true] at hf
  obtain ⟨h1, h2, h3⟩ := apart_spec hf.1
  unfold oneD at h ⊢
  have e1 : ∀ v, j.1.kind (F.put i.1.dst v) = j.1.kind F := fun v => ikind_same (put_same v h1)
  have e2 : ∀ v, i.1.kind (F.put j.1.dst v) = i.1.kind F := fun v => ikind_same (put_same v h3)
  simp only [e1] at h
  simp only [e2]
  have := swap_kinds (K := fun v u H'' => K ((F.put i.1.dst v).put j.1.dst u) H'') (ikind_ok i.1 F) (ikind_ok j.1 F) (may_of hf.2 (ikind_cls _ _) (ikind_cls _ _)) hle h
  refine Kind.run_mono (ikind_ok j.1 F) (fun u H' a b => ?_) hle this
  refine Kind.run_mono (ikind_ok i.1 F) (fun v H'' _ c => ?_) a b
  rw [put_swap v u h2] at c
  exact c

/-- 'j' waits for 'i'. -/
inductive Before (ops : Array Oper) : Nat → Nat → Prop
  | one {i j : Nat} {o : Oper} {e} (ho : ops[j]? = some o) (he : e ∈ o.after) (hb : Region.binds .any e = true) (hi : e.on = i) : Before ops i j
  | step {i m j : Nat} {o : Oper} {e} (h : Before ops i m) (ho : ops[j]? = some o) (he : e ∈ o.after) (hb : Region.binds .any e = true) (hm : e.on = m) : Before ops i j

def Closed (ops : Array Oper) (listed : Array Bool) : Prop := ∀ j o, ops[j]? = some o → listed.getD j false = true → ∀ e ∈ o.after, Region.binds .any e = true → listed.getD e.on false = true

theorem Closed.unlisted {ops : Array Oper} {listed : Array Bool} (hc : Closed ops listed) {i j : Nat} (h : Before ops i j) (hj : listed.getD j false = true) : listed.getD i false = true := by
  induction h with
  | one ho he hb hi => subst hi; exact hc _ _ ho hj _ he hb
  | step h ho he hb hm ih => subst hm; exact ih (hc _ _ ho hj _ he hb)

theorem Closed.not_ready {ops : Array Oper} {listed : Array Bool} (hc : Closed ops listed) {i j : Nat} (h : Before ops i j) (hi : listed.getD i false = false) : j ∉ Region.ready .any ops listed := by
  intro hj
  rw [mem_ready] at hj
  obtain ⟨-, o, ho, hall⟩ := hj
  cases h with
  | one ho' he hb hi' =>
    rw [ho] at ho'; cases ho'
    subst hi'
    rw [hall _ he hb] at hi; cases hi
  | step h ho' he hb hm =>
    rw [ho] at ho'; cases ho'
    subst hm
    rw [hc.unlisted h (hall _ he hb)] at hi; cases hi

theorem Closed.set {ops : Array Oper} {listed : Array Bool} (hc : Closed ops listed) {i : Nat} (hi : i ∈ Region.ready .any ops listed) : Closed ops (listed.setIfInBounds i true) := by
  intro j o ho hj e he hb
  by_cases hji : j = i
  · subst hji
    rw [mem_ready] at hi
    obtain ⟨-, o', ho', hall⟩ := hi
    rw [ho] at ho'; cases ho'
    exact getD_set_true (hall e he hb)
  · rw [getD_set_ne false (Ne.symm hji)] at hj
    exact getD_set_true (hc j o ho hj e he hb)

def anyP (C : Ctx) (Hs : PH) (S : Spec) (ops : Array Oper) (il : List (PInstr × Bool)) (K : PF → PH → Prop) : Nat → Array Bool → PF → PH → Prop
  | 0, listed, F, H => Region.ready .any ops listed = [] ∧ K F H
  | fuel + 1, listed, F, H => (Region.ready .any ops listed = [] → K F H) ∧
    ∀ i ∈ Region.ready .any ops listed, ∀ p, il[i]? = some p → oneD C Hs S p (anyP C Hs S ops il K fuel (listed.setIfInBounds i true)) F H

theorem anyP_first {ops : Array Oper} {il : List (PInstr × Bool)} {K : PF → PH → Prop} {i : Nat} {p : PInstr × Bool} (hp : il[i]? = some p) :
    ∀ (fuel : Nat) (listed : Array Bool) (F : PF) (H : PH), Hs.le H → Closed ops listed →
      (∀ j q, il[j]? = some q → j ≠ i → listed.getD j true = false → ¬ Before ops i j → freeI p q = true) →
      i ∈ Region.ready .any ops listed → oneD C Hs S p (anyP C Hs S ops il K fuel (listed.setIfInBounds i true)) F H → anyP C Hs S ops il K (fuel + 1) listed F H := by
  intro fuel
  induction fuel with
  | zero =>
    intro listed F H hle hc hfree hr h
    refine ⟨fun e => (by rw [e] at hr; cases hr), fun j hj q hq => ?_⟩
    by_cases hji : j = i
    · subst hji; rw [hp] at hq; cases hq; exact h
    · obtain ⟨v, H', hh⟩ := Kind.run_some (ikind_ok _ _) h
      have := ready_mono hj hji
      rw [hh.1] at this; cases this
  | succ fuel ih =>
    intro listed F H hle hc hfree hr h
    refine ⟨fun e => (by rw [e] at hr; cases hr), fun j hj q hq => ?_⟩
    by_cases hji : j = i
    · subst hji; rw [hp] at hq; cases hq; exact h
    · have hi0 := (mem_ready.1 hr).1
      have hj0 := (mem_ready.1 hj).1
      have hi0' : listed.getD i false = false := by
        rcases Nat.lt_or_ge i listed.size with h' | h'
        · simp [h'] at hi0 ⊢; exact hi0
        · simp [Array.getElem?_eq_none h'] at hi0
      have hnb : ¬ Before ops i j := fun hb => hc.not_ready hb hi0' hj
      have h1 : oneD C Hs S p (oneD C Hs S q (anyP C Hs S ops il K fuel ((listed.setIfInBounds i true).setIfInBounds j true))) F H :=
        oneD_mono (fun F' H' _ hh => hh.2 j (ready_mono hj hji) q hq) hle h
      have h2 := oneD_swap (hfree j q hq hji hj0 hnb) hle h1
      refine oneD_mono (fun F' H' hle' hh => ?_) hle h2
      refine ih (listed.setIfInBounds j true) F' H' hle' (hc.set hj) (fun k r hk hki hun hno => hfree k r hk hki ?_ hno) (ready_mono hr (Ne.symm hji)) ?_
      · by_cases hjk : j = k
        · subst hjk; exact hj0
        · rw [getD_set_ne true hjk] at hun; exact hun
      · rw [Array.setIfInBounds_comm _ _ hji]; exact hh

-- the check that the kernel runs
def depsOf (o : Oper) : List Nat := (o.after.toList.filter fun e => Region.binds .any e).map (·.on)
def maskOf (ms : List Nat) (ds : List Nat) : Nat := ds.foldl (fun s d => s ||| (2 ^ d ||| ms.getD d 0)) 0
def masks : List Oper → List Nat → List Nat
  | [], acc => acc
  | o :: os, acc => masks os (acc ++ [maskOf acc (depsOf o)])

/-- From place 'k' on: each waits for earlier ones alone, and its mask is right. -/
def masksOk (ms : List Nat) : Nat → List Oper → Bool
  | _, [] => true
  | k, o :: os => (depsOf o).all (· < k) && ms.getD k 0 == maskOf ms (depsOf o) && masksOk ms (k + 1) os

def pairsWith (ms : List Nat) (i : Nat) (p : PInstr × Bool) : Nat → List (PInstr × Bool) → Bool
  | _, [] => true
  | j, q :: qs => ((ms.getD j 0).testBit i || freeI p q) && pairsWith ms i p (j + 1) qs
def pairsOk (ms : List Nat) : Nat → List (PInstr × Bool) → Bool
  | _, [] => true
  | i, p :: ps => pairsWith ms i p (i + 1) ps && pairsOk ms (i + 1) ps

def drawOk (ops : Array Oper) (il : List (PInstr × Bool)) : Bool :=
  let ms := masks ops.toList []
  masksOk ms 0 ops.toList && pairsOk ms 0 il

theorem mask_bit {ms : List Nat} {i : Nat} : ∀ {ds : List Nat} {s : Nat}, (ds.foldl (fun s d => s ||| (2 ^ d ||| ms.getD d 0)) s).testBit i = true → s.testBit i = true ∨ ∃ d ∈ ds, d = i ∨ (ms.getD d 0).testBit i = true
  | [], s, h => .inl h
  | d :: ds, s, h => by
    rw [List.foldl_cons] at h
    rcases mask_bit h with h | ⟨e, he, h⟩
    · rw [Nat.testBit_or, Nat.testBit_or, Nat.testBit_two_pow] at h
      simp only [Bool.or_eq_true, decide_eq_true_eq] at h
      rcases h with h | h | h
      · exact .inl h
      · exact .inr ⟨d, by simp, .inl h⟩
      · exact .inr ⟨d, by simp, .inr h⟩
    · exact .inr ⟨e, by simp [he], h⟩

theorem masksOk_at {ms : List Nat} : ∀ {l : List Oper} {k j : Nat} {o : Oper}, masksOk ms k l = true → l[j]? = some o → (∀ d ∈ depsOf o, d < k + j) ∧ ms.getD (k + j) 0 = maskOf ms (depsOf o)
  | [], _, _, _, _, h => by simp at h
  | o :: os, k, j, o', h, ho => by
    simp only [masksOk, Bool.and_eq_true, List.all_eq_true, decide_eq_true_eq, beq_iff_eq] at h
    cases j with
    | zero => simp only [List.getElem?_cons_zero, Option.some.injEq] at ho; subst ho; exact ⟨h.1.1, h.1.2⟩
    | succ j =>
      have := masksOk_at h.2 (by simpa using ho)
      rw [Nat.add_assoc, Nat.add_comm 1 j] at this
      exact this

theorem mask_before {ms : List Nat} {ops : Array Oper} (h : masksOk ms 0 ops.toList = true) (i : Nat) : ∀ (n j : Nat), j < n → j < ops.size → (ms.getD j 0).testBit i = true → Before ops i j := by
  intro n
  induction n with
  | zero => intro j hj; omega
  | succ n ih =>
    intro j hj hlt hb
    have ho : ops.toList[j]? = some ops[j] := by simp [hlt]
    have ho' : ops[j]? = some ops[j] := by simp [hlt]
    obtain ⟨h1, h2⟩ := masksOk_at h ho
    rw [Nat.zero_add] at h1 h2
    rw [h2] at hb
    rcases mask_bit hb with hb | ⟨d, hd, hb⟩
    · simp at hb
    · have hdj := h1 d hd
      simp only [depsOf, List.mem_map, List.mem_filter] at hd
      obtain ⟨e, ⟨he, hbd⟩, rfl⟩ := hd
      rcases hb with rfl | hb
      · exact .one ho' (by simpa using he) hbd rfl
      · exact .step (ih e.on (by omega) (by omega) hb) ho' (by simpa using he) hbd rfl

theorem pairsWith_at {ms : List Nat} {i : Nat} {p : PInstr × Bool} : ∀ {l : List (PInstr × Bool)} {k j : Nat} {q : PInstr × Bool}, pairsWith ms i p k l = true → l[j]? = some q → (ms.getD (k + j) 0).testBit i = true ∨ freeI p q = true
  | [], _, _, _, _, h => by simp at h
  | x :: xs, k, j, q, h, hq => by
    simp only [pairsWith, Bool.and_eq_true, Bool.or_eq_true] at h
    cases j with
    | zero => simp only [List.getElem?_cons_zero, Option.some.injEq] at hq; subst hq; exact h.1
    | succ j =>
      have := pairsWith_at h.2 (by simpa using hq)
      rw [Nat.add_assoc, Nat.add_comm 1 j] at this
      exact this

theorem anyP_lex {ops : Array Oper} {il : List (PInstr × Bool)} {K : PF → PH → Prop} {ms : List Nat} (hlen : il.length = ops.size) (hms : masksOk ms 0 ops.toList = true) :
    ∀ (l : List (PInstr × Bool)) (k : Nat) (listed : Array Bool) (F : PF) (H : PH), (∀ j, l[j]? = il[k + j]?) → k + l.length = ops.size → listed.size = ops.size → (∀ j, j < ops.size → (listed.getD j true = true ↔ j < k)) → pairsOk ms k l = true → Hs.le H →
      wpD C Hs S l K F H → anyP C Hs S ops il K l.length listed F H
  | [], k, listed, F, H, hl, hk, hls, hlk, _, hle, h => by
    refine ⟨?_, h⟩
    cases hr : Region.ready .any ops listed with
    | nil => rfl
    | cons x xs =>
      have hx : x ∈ Region.ready .any ops listed := by rw [hr]; simp
      obtain ⟨h0, o, ho, -⟩ := mem_ready.1 hx
      have hlt : x < ops.size := (Array.getElem?_eq_some_iff.1 ho).1
      have := (hlk x hlt).2 (by simp at hk; omega)
      rw [h0] at this; cases this
  | p :: l, k, listed, F, H, hl, hk, hls, hlk, hB, hle, h => by
    have hp : il[k]? = some p := by simpa using (hl 0).symm
    have hks : k < ops.size := by simp at hk; omega
    simp only [pairsOk, Bool.and_eq_true] at hB
    have ho : ops[k]? = some ops[k] := by simp [hks]
    have hgt : ∀ j, j < ops.size → (listed.getD j false = listed.getD j true) := fun j hj => by
      simp [show j < listed.size by omega]
    have hcl : ∀ j, j < ops.size → ∀ e ∈ ops[j]!.after, True := fun _ _ _ _ => trivial
    have deps : ∀ j o, ops[j]? = some o → ∀ e ∈ o.after, Region.binds .any e = true → e.on < j := by
      intro j o hj e he hb
      have hlt : j < ops.size := (Array.getElem?_eq_some_iff.1 hj).1
      have := (masksOk_at hms (j := j) (o := o) (by simpa using hj)).1 e.on (by
        simp only [depsOf, List.mem_map, List.mem_filter]
        exact ⟨e, ⟨by simpa using he, hb⟩, rfl⟩)
      omega
    have hready : k ∈ Region.ready .any ops listed := by
      rw [mem_ready]
      refine ⟨?_, _, ho, fun e he hb => ?_⟩
      · cases hh : listed.getD k true with
        | false => rfl
        | true => have := (hlk k hks).1 hh; omega
      · have hd := deps k _ ho e he hb
        rw [hgt e.on (by omega)]
        exact (hlk e.on (by omega)).2 hd
    have hclosed : Closed ops listed := by
      intro j o hj hlj e he hb
      have hlt : j < ops.size := (Array.getElem?_eq_some_iff.1 hj).1
      have hd := deps j o hj e he hb
      rw [hgt j hlt] at hlj
      have := (hlk j hlt).1 hlj
      rw [hgt e.on (by omega)]
      exact (hlk e.on (by omega)).2 (by omega)
    refine anyP_first hp l.length listed F H hle hclosed (fun j q hq hne hun hnb => ?_) hready ?_
    · have hjs : j < ops.size := by
        have := (List.getElem?_eq_some_iff.1 hq).1
        omega
      have hjk : k < j := by
        rcases Nat.lt_trichotomy j k with h' | h' | h'
        · have := (hlk j hjs).2 h'
          rw [hun] at this; cases this
        · exact (hne h').elim
        · exact h'
      have hq' : l[j - (k + 1)]? = some q := by
        have := hl (j - k)
        rw [show k + (j - k) = j by omega, hq, show j - k = (j - (k + 1)) + 1 by omega] at this
        simpa using this
      rcases pairsWith_at hB.1 hq' with hb | hb
      · rw [show k + 1 + (j - (k + 1)) = j by omega] at hb
        exact (hnb (mask_before hms k (j + 1) j (by omega) hjs hb)).elim
      · exact hb
    · have h' : oneD C Hs S p (wpD C Hs S l K) F H := h
      refine oneD_mono (fun F' H' hle' hh => ?_) hle h'
      refine anyP_lex hlen hms l (k + 1) _ F' H' (fun j => ?_) (by simp at hk; omega) (by simpa using hls) (fun j hj => ?_) hB.2 hle' hh
      · have := hl (j + 1)
        rw [show k + (j + 1) = k + 1 + j by omega] at this
        simpa using this
      · by_cases hjk : k = j
        · subst hjk
          simp [show k < listed.size by omega]
        · rw [getD_set_ne true hjk, hlk j hj]
          omega

end
end Go.PM
