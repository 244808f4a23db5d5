/-
  PM18a: what an operation reads: slots and objects. No condition.
-/
import Derived.Test.YtelckcmlobadkaaPm18
set_option linter.unusedSimpArgs false
set_option linter.unusedVariables false
namespace Go.PM
open Go

def POpd.slots : POpd → List Nat
  | .tmp t => [t]
  | .const _ => []
def slotsO : Option POpd → List Nat
  | none => []
  | some x => x.slots
def slotsL : List POpd → List Nat
  | [] => []
  | x :: xs => x.slots ++ slotsL xs
def slots3 : List (Nat × Nat × POpd) → List Nat
  | [] => []
  | x :: xs => x.2.2.slots ++ slots3 xs
def slots2 : List (Nat × POpd) → List Nat
  | [] => []
  | x :: xs => x.2.slots ++ slots2 xs

def POp.slots : POp → List Nat
  | .mv x => x.slots
  | .pick c a b => c.slots ++ (a.slots ++ b.slots)
  | .bin _ x y => x.slots ++ y.slots
  | .eqb _ x y => x.slots ++ y.slots
  | .eqs _ _ x y => x.slots ++ y.slots
  | .un _ x => x.slots
  | .conv _ x => x.slots
  | .same x => x.slots
  | .alloc _ => []
  | .box _ x => x.slots
  | .build _ ps => slots3 ps
  | .bslice _ _ _ _ ps => slots2 ps
  | .load _ p => p.slots
  | .store _ p x => p.slots ++ x.slots
  | .nilchk x => x.slots
  | .fieldA _ x => x.slots
  | .field _ _ x => x.slots
  | .idxS _ x i => x.slots ++ i.slots
  | .idxA _ _ x i => x.slots ++ i.slots
  | .idxV _ _ _ x i => x.slots ++ i.slots
  | .idxStr x i => x.slots ++ i.slots
  | .slice _ x lo hi mx => x.slots ++ (slotsO lo ++ (slotsO hi ++ slotsO mx))
  | .sliceStr x lo hi => x.slots ++ (slotsO lo ++ slotsO hi)
  | .sliceA _ _ x lo hi mx => x.slots ++ (slotsO lo ++ (slotsO hi ++ slotsO mx))
  | .len x => x.slots
  | .lenStr x => x.slots
  | .capNil x => x.slots
  | .extract x _ => x.slots
  | .mkslice _ _ _ l c => l.slots ++ c.slots
  | .append _ _ x y => x.slots ++ y.slots
  | .minmax _ x y => x.slots ++ y.slots
  | .mkfn _ cs => slotsL cs
  | .mkmap _ => []
  | .lookup _ _ x k _ => x.slots ++ k.slots
  | .mapset _ x k v => x.slots ++ (k.slots ++ v.slots)
  | .insert _ x k v => x.slots ++ (k.slots ++ v.slots)
  | .stuck => []
  | .bytes2str x => x.slots
  | .str2bytes x => x.slots
  | .call _ as => slotsL as
  | .callv x as => x.slots ++ slotsL as

def Same (l : List Nat) (F F' : PF) : Prop := ∀ t ∈ l, F t = F' t
theorem Same.left {a b : List Nat} {F F' : PF} (h : Same (a ++ b) F F') : Same a F F' := fun t ht => h t (by simp [ht])
theorem Same.right {a b : List Nat} {F F' : PF} (h : Same (a ++ b) F F') : Same b F F' := fun t ht => h t (by simp [ht])

section
variable {F F' : PF} {H H' : PH}

theorem ev_same {x : POpd} (h : Same x.slots F F') : x.ev F = x.ev F' := by
  cases x with
  | tmp t => exact h t (by simp [POpd.slots])
  | const v => rfl

theorem evs_same : ∀ {xs : List POpd}, Same (slotsL xs) F F' → POpd.evs F xs = POpd.evs F' xs
  | [], _ => rfl
  | x :: xs, h => by
    simp only [POpd.evs, ev_same h.left, evs_same h.right]

theorem fillP_same : ∀ {ps : List (Nat × Nat × POpd)} {cs : List PV}, Same (slots3 ps) F F' → fillP cs F ps = fillP cs F' ps
  | [], _, _ => rfl
  | (o, s, x) :: ps, cs, h => by
    simp only [fillP]
    rw [ev_same (x := x) h.left]
    split
    · rw [fillP_same (ps := ps) h.right]
    · rfl

theorem fillRows_same {s : Nat} : ∀ {ps : List (Nat × POpd)} {rs : List (List PV)}, Same (slots2 ps) F F' → fillRows s rs F ps = fillRows s rs F' ps
  | [], _, _ => rfl
  | (i, x) :: ps, rs, h => by
    simp only [fillRows]
    rw [ev_same (x := x) h.left]
    split
    · rw [fillRows_same (ps := ps) h.right]
    · rfl

theorem bnd_same {d : Int} {x : Option POpd} (h : Same (slotsO x) F F') : bnd F d x = bnd F' d x := by
  cases x with
  | none => rfl
  | some x => simp only [bnd, ev_same (x := x) h]

theorem peval_same {op : POp} (h : Same op.slots F F') : peval op F H = peval op F' H := by
  cases op
  case mv x => simp only [peval, ev_same (x := x) h]
  case same x => simp only [peval, ev_same (x := x) h]
  case pick c a b => simp only [peval, ev_same (x := c) h.left, ev_same (x := a) h.right.left, ev_same (x := b) h.right.right]
  case bin x y => simp only [peval, ev_same (x := x) h.left, ev_same (x := y) h.right]
  case eqb x y => simp only [peval, ev_same (x := x) h.left, ev_same (x := y) h.right]
  case eqs x y => simp only [peval, ev_same (x := x) h.left, ev_same (x := y) h.right]
  case un x => simp only [peval, ev_same (x := x) h]
  case conv x => simp only [peval, ev_same (x := x) h]
  case box r x => cases r <;> simp only [peval, ev_same (x := x) h]
  case build ps => simp only [peval, fillP_same (ps := ps) h]
  case bslice r _ _ _ ps => cases r <;> simp only [peval, fillRows_same (ps := ps) h]
  case load n p => cases n <;> simp only [peval, ev_same (x := p) h]
  case nilchk x => simp only [peval, ev_same (x := x) h]
  case fieldA x => simp only [peval, ev_same (x := x) h]
  case field x => simp only [peval, ev_same (x := x) h]
  case idxS x i => simp only [peval, ev_same (x := x) h.left, ev_same (x := i) h.right]
  case idxA x i => simp only [peval, ev_same (x := x) h.left, ev_same (x := i) h.right]
  case idxV x i => simp only [peval, ev_same (x := x) h.left, ev_same (x := i) h.right]
  case idxStr x i => simp only [peval, ev_same (x := x) h.left, ev_same (x := i) h.right]
  case slice s x lo hi mx =>
    have h1 : x.ev F = x.ev F' := ev_same h.left
    have h2 : ∀ d, bnd F d lo = bnd F' d lo := fun d => bnd_same h.right.left
    have h3 : ∀ d, bnd F d hi = bnd F' d hi := fun d => bnd_same h.right.right.left
    cases mx with
    | none => simp only [peval, h1, h2, h3]
    | some m =>
      have h4 : ∀ d, bnd F d (some m) = bnd F' d (some m) := fun d => bnd_same (x := some m) h.right.right.right
      simp only [peval, h1, h2, h3, h4]
  case sliceStr x lo hi =>
    have h1 : x.ev F = x.ev F' := ev_same h.left
    have h2 : ∀ d, bnd F d lo = bnd F' d lo := fun d => bnd_same h.right.left
    have h3 : ∀ d, bnd F d hi = bnd F' d hi := fun d => bnd_same h.right.right
    simp only [peval, h1, h2, h3]
  case len x => simp only [peval, ev_same (x := x) h]
  case lenStr x => simp only [peval, ev_same (x := x) h]
  case capNil x => simp only [peval, ev_same (x := x) h]
  case extract x i => simp only [peval, ev_same (x := x) h]
  case minmax x y => simp only [peval, ev_same (x := x) h.left, ev_same (x := y) h.right]
  case mkfn cs => simp only [peval, evs_same (xs := cs) h]
  case lookup sh z x k ok => simp only [peval, ev_same (x := x) h.left, ev_same (x := k) h.right]
  case bytes2str x => simp only [peval, ev_same (x := x) h]
  all_goals rfl

theorem alloc_same {op : POp} (h : Same op.slots F F') : allocOf op F = allocOf op F' := by
  cases op
  case box r x => cases r <;> simp only [allocOf, ev_same (x := x) h]
  case bslice r _ _ _ ps => cases r <;> simp only [allocOf, fillRows_same (ps := ps) h]
  case mkslice l c => simp only [allocOf, ev_same (x := l) h.left, ev_same (x := c) h.right]
  all_goals rfl

theorem write_same {op : POp} {K : PV → PH → Prop} (h : Same op.slots F F') : wpWrite op F H K = wpWrite op F' H K := by
  cases op
  case store n p x => simp only [wpWrite, ev_same (x := p) h.left, ev_same (x := x) h.right]
  case append s b x y => simp only [wpWrite, ev_same (x := x) h.left, ev_same (x := y) h.right]
  case mapset sh x k v => simp only [wpWrite, ev_same (x := x) h.left, ev_same (x := k) h.right.left, ev_same (x := v) h.right.right]
  case insert sh x k v => simp only [wpWrite, ev_same (x := x) h.left, ev_same (x := k) h.right.left, ev_same (x := v) h.right.right]
  all_goals rfl

theorem kind_same {op : POp} (h : Same op.slots F F') : op.kind F = op.kind F' := by
  have hgen : (if op.isNew then Kind.new (allocOf op F) else if op.isWrite then .write (fun H K => wpWrite op F H K) else .calm (peval op F)) =
      (if op.isNew then Kind.new (allocOf op F') else if op.isWrite then .write (fun H K => wpWrite op F' H K) else .calm (peval op F')) := by
    rw [alloc_same h]
    have h1 : (fun H K => wpWrite op F H K) = fun H K => wpWrite op F' H K := by
      funext H K
      exact write_same h
    have h2 : peval op F = peval op F' := by
      funext H
      exact peval_same h
    rw [h1, h2]
  cases op
  case call n as => simp only [POp.kind, evs_same (xs := as) h]
  case callv x as => simp only [POp.kind, ev_same (x := x) h.left, evs_same (xs := as) h.right]
  case insert sh x k v => simp only [POp.kind, ev_same (x := x) h.left, ev_same (x := k) h.right.left, ev_same (x := v) h.right.right]
  all_goals exact hgen

def PInstr.slots (i : PInstr) : List Nat :=
  match i.guard with
  | none => i.op.slots
  | some (t, _) => t :: i.op.slots

theorem ikind_same {i : PInstr} (h : Same i.slots F F') : i.kind F = i.kind F' := by
  unfold PInstr.kind
  unfold PInstr.slots at h
  cases hg : i.guard with
  | none => rw [hg] at h; exact kind_same h
  | some p =>
    obtain ⟨t, want⟩ := p
    rw [hg] at h
    simp only
    rw [h t (by simp), kind_same (fun u hu => h u (by simp [hu]))]

/-- At most one object is read. -/
theorem load_dep (p : PV) : ∃ q : Nat, ∀ (H H' : PH) n, H q = H' q → loadCells H p n = loadCells H' p n := by
  cases p
  case ptr o s i c => exact ⟨o, fun H H' n h => by simp only [loadCells, h]⟩
  all_goals exact ⟨0, fun H H' n h => rfl⟩
theorem view_dep (s : Nat) (p : PV) : ∃ q : Nat, ∀ (H H' : PH), H q = H' q → viewRows H s p = viewRows H' s p := by
  cases p
  case osl o s' off len => exact ⟨o, fun H H' h => by simp only [viewRows, h]⟩
  all_goals exact ⟨0, fun H H' h => rfl⟩

theorem peval_dep (op : POp) (F : PF) : ∃ q : Nat, ∀ (H H' : PH), H q = H' q → peval op F H = peval op F H' := by
  cases op
  case load n p =>
    cases hp : p.ev F with
    | none => exact ⟨0, fun H H' _ => by cases n <;> simp only [peval, hp]⟩
    | some a =>
      obtain ⟨q, hq⟩ := load_dep a
      exact ⟨q, fun H H' h => by cases n <;> simp only [peval, hp, hq H H' _ h]⟩
  case lookup sh z x k ok =>
    cases hp : x.ev F with
    | none => exact ⟨0, fun H H' _ => by simp only [peval, hp]⟩
    | some a =>
      cases a
      case map o => exact ⟨o, fun H H' h => by cases hk : k.ev F <;> simp only [peval, hp, hk, h]⟩
      all_goals exact ⟨0, fun H H' _ => by simp only [peval, hp]⟩
  case bytes2str x =>
    cases hp : x.ev F with
    | none => exact ⟨0, fun H H' _ => by simp only [peval, hp]⟩
    | some a =>
      obtain ⟨q, hq⟩ := view_dep 1 a
      exact ⟨q, fun H H' h => by simp only [peval, hp, hq H H' h]⟩
  case box r x => cases r <;> exact ⟨0, fun H H' _ => rfl⟩
  case bslice r _ _ _ _ => cases r <;> exact ⟨0, fun H H' _ => rfl⟩
  all_goals exact ⟨0, fun H H' _ => rfl⟩

theorem load_mono {p : PV} {n : Nat} {cs : List PV} (hle : H.le H') (h : loadCells H p n = some cs) : loadCells H' p n = some cs := by
  cases p
  case ptr o s i c =>
    simp only [loadCells] at h ⊢
    cases ho : H o with
    | none => rw [ho] at h; cases h
    | some x => rw [hle o x ho]; rw [ho] at h; exact h
  all_goals exact h
theorem view_mono {s : Nat} {p : PV} {rs : List (List PV)} (hle : H.le H') (h : viewRows H s p = some rs) : viewRows H' s p = some rs := by
  cases p
  case osl o s' off len =>
    simp only [viewRows] at h ⊢
    cases ho : H o with
    | none => rw [ho] at h; simp at h
    | some x => rw [hle o x ho]; rw [ho] at h; exact h
  all_goals exact h

theorem peval_mono {op : POp} {v : PV} (hle : H.le H') (h : peval op F H = some v) : peval op F H' = some v := by
  cases op
  case load n p =>
    cases hp : p.ev F with
    | none => cases n <;> simp only [peval, hp] at h <;> cases h
    | some a =>
      cases n with
      | none =>
        simp only [peval, hp] at h ⊢
        cases hl : loadCells H a 1 with
        | none => rw [hl] at h; cases h
        | some cs => rw [load_mono hle hl]; rw [hl] at h; exact h
      | some n =>
        simp only [peval, hp] at h ⊢
        cases hl : loadCells H a n with
        | none => rw [hl] at h; cases h
        | some cs => rw [load_mono hle hl]; rw [hl] at h; exact h
  case lookup sh z x k ok =>
    simp only [peval] at h ⊢
    split at h
    · rename_i o kv ho hk
      cases hh : H o with
      | none => rw [hh] at h; cases h
      | some y => rw [hle o y hh]; rw [hh] at h; exact h
    · cases h
  case bytes2str x =>
    simp only [peval] at h ⊢
    split at h
    · rename_i a ha
      cases hl : viewRows H 1 a with
      | none => rw [hl] at h; cases h
      | some rs => rw [view_mono hle hl]; rw [hl] at h; exact h
    · cases h
  case box r x => cases r <;> exact h
  case bslice r _ _ _ _ => cases r <;> exact h
  all_goals exact h

end
end Go.PM
