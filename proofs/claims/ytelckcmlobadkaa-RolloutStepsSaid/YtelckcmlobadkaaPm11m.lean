/-
  PM11m: maps: looking up and storing. No condition.
-/
import Derived.Test.YtelckcmlobadkaaPm11
import GoSem.Instr.MapUpdate
set_option linter.unusedSimpArgs false
set_option linter.unusedVariables false
namespace Go.PM
open Go Go.RowKit

def KSh.desc : KSh → TypeDesc
  | .int k => .int k
  | .bool => .bool
  | .str => .string
def KSh.sc : KSh → Sc
  | .int _ => .int
  | .bool => .bool
  | .str => .str
def KS.pv : KS → PV
  | .int k n => .int k n
  | .bool b => .bool b
  | .str s => .str s

section
variable {T : Tbl} {n : Nat} {E : Env} {F : PF} {H : PH} {a : Act} {w : World}

theorem beqD {α : Type} [BEq α] [LawfulBEq α] [DecidableEq α] (a b : α) : (a == b) = decide (a = b) := by
  by_cases h : a = b <;> simp [h]

theorem KS.of_rep {pv : PV} {v : Value} {k : KS} (h : RepV E pv v) (hk : KS.of pv = some k) : v = k.val := by
  unfold KS.of at hk
  split at hk <;> cases hk <;> cases h
  · rfl
  · rfl
  · simp [KS.val]

theorem KS.pv_rep (k : KS) : RepV E k.pv k.val := by
  cases k with
  | int k n => exact .int k n
  | bool b => exact .bool b
  | str s =>
    have := RepV.str (E := E) ⟨s.toArray⟩
    simpa [KS.pv, KS.val] using this

theorem KS.ofs_rep : ∀ {ps : List PV} {ks : List KS} {vs : List Value}, KS.ofs ps = some ks → vs.length = ps.length → (∀ (j : Nat) p v, ps[j]? = some p → vs[j]? = some v → RepV E p v) → vs = ks.map KS.val
  | [], ks, vs, h, hl, _ => by
    simp [KS.ofs] at h; subst h
    simp at hl; subst hl; rfl
  | p :: ps, ks, vs, h, hl, hr => by
    simp only [KS.ofs] at h
    split at h
    · rename_i k ks' h1 h2
      cases h
      cases vs with
      | nil => simp at hl
      | cons v vs =>
        have e2 := KS.ofs_rep (vs := vs) h2 (by simpa using hl) fun j q u x y => hr (j + 1) q u (by simpa using x) (by simpa using y)
        rw [KS.of_rep (hr 0 p v rfl rfl) h1, e2]
        rfl
    · cases h

theorem keyOf_rep {sh : MSh} {pv : PV} {v : Value} {k : List KS} (h : RepV E pv v) (hk : keyOf sh pv = some k) : v = keyVal sh k ∧ k.map KS.sh = sh.2 ∧ (sh.1 = false → ∃ s, k = [s]) := by
  obtain ⟨b, l⟩ := sh
  unfold keyOf at hk
  split at hk
  · rename_i cs hb
    simp only at hb
    subst hb
    simp only [Option.bind_eq_some_iff] at hk
    obtain ⟨k', h1, h2⟩ := hk
    split at h2
    · rename_i he
      cases h2
      cases h with
      | agg vs hl h1' hr =>
      refine ⟨?_, he, by simp⟩
      have := KS.ofs_rep (vs := vs.toList) h1 (by simpa using hl) fun j p u x y => hr j p u x (by simpa using y)
      simp only [keyVal, if_true, Value.agg.injEq]
      rw [← this]
    · cases h2
  · rename_i v' hb
    simp only at hb
    subst hb
    simp only [Option.bind_eq_some_iff] at hk
    obtain ⟨s, h1, h2⟩ := hk
    split at h2
    · rename_i he
      cases h2
      exact ⟨by simp [keyVal, KS.of_rep h h1], by simpa using he, fun _ => ⟨s, rfl⟩⟩
    · cases h2
  · cases hk

theorem kscalar_spec {t : TypeId} {s : KSh} (h : T.kscalar t = some s) : T.P.underlying t = some s.desc ∧ T.scalar t = some s.sc := by
  unfold Tbl.kscalar at h
  unfold Tbl.scalar
  split at h <;> cases h <;> (rename_i hu; rw [hu]; exact ⟨rfl, rfl⟩)

theorem sameNow_key {s : KSh} {x y : KS} (hx : x.sh = s) (hy : y.sh = s) : Instr.sameNow s.desc x.val y.val = some (decide (x = y)) := by
  subst hx
  cases x <;> cases y <;> simp [KS.sh] at hy
  · subst hy
    simp [KSh.desc, KS.sh, KS.val, Instr.sameNow]
    exact beqD _ _
  · simp [KSh.desc, KS.sh, KS.val, Instr.sameNow]
    exact beqD _ _
  · rename_i a b
    simp only [KSh.desc, KS.sh, KS.val, Instr.sameNow, Option.some.injEq, KS.str.injEq]
    rw [beq_toListBytes, ByteArray.toList_eq, ByteArray.toList_eq]
    simp
    exact beqD _ _

theorem kflat_flat : ∀ {fs : List Field} {k : Nat} {l : List KSh}, T.kflatFrom k fs = some l → T.flatFrom k fs = some (l.map KSh.sc)
  | [], k, l, h => by simp [Tbl.kflatFrom] at h; subst h; rfl
  | f :: fs, k, l, h => by
    simp only [Tbl.kflatFrom] at h
    split at h
    · rename_i c cs h1 h2
      split at h
      · rename_i hc
        cases h
        simp only [Tbl.flatFrom, (kscalar_spec h1).2, kflat_flat h2]
        rw [if_pos hc]
        rfl
      · cases h
    · cases h

theorem eqs_pv : ∀ {l : List KSh} {xs ys : List KS}, xs.map KS.sh = l → ys.map KS.sh = l → PV.eqs (l.map KSh.sc) (xs.map KS.pv) (ys.map KS.pv) = some (decide (xs = ys))
  | [], xs, ys, hx, hy => by
    simp at hx hy; subst hx; subst hy; simp [PV.eqs]
  | s :: l, xs, ys, hx, hy => by
    cases xs with
    | nil => simp at hx
    | cons x xs =>
    cases ys with
    | nil => simp at hy
    | cons y ys =>
    simp only [List.map_cons, List.cons.injEq] at hx hy
    have h1 : PV.eq1 s.sc x.pv y.pv = some (decide (x = y)) := by
      obtain ⟨hx1, -⟩ := hx
      obtain ⟨hy1, -⟩ := hy
      subst hx1
      cases x <;> cases y <;> simp [KS.sh] at hy1
      · subst hy1
        simp [KSh.sc, KS.sh, KS.pv, PV.eq1]
        exact beqD _ _
      · simp [KSh.sc, KS.sh, KS.pv, PV.eq1]
        exact beqD _ _
      · simp [KSh.sc, KS.sh, KS.pv, PV.eq1]
        exact beqD _ _
    simp only [List.map_cons, PV.eqs, h1]
    by_cases e : x = y
    · subst e
      simp only [decide_true, eqs_pv hx.2 hy.2]
      simp
    · simp only [e, decide_false, List.length_map]
      have l1 : xs.length = l.length := by rw [← hx.2]; simp
      have l2 : ys.length = l.length := by rw [← hy.2]; simp
      rw [if_pos ⟨l1, l2⟩]
      simp [e]

theorem equal_key {t : TypeId} {fs : Array Field} {l : List KSh} (hu : T.P.underlying t = some (.struct fs)) (hp : T.P.stoodInHeld t = false) (hl : T.kflatFrom 0 fs.toList = some l) {x y : List KS} (hx : x.map KS.sh = l) (hy : y.map KS.sh = l) :
    (Op.equal t (keyVal (true, l) x) (keyVal (true, l) y)).run T.P w = .ok (decide (x = y)) w := by
  have hfo : T.P.fieldsOf t = fs := by simp [Program.fieldsOf, hu]
  have rr : ∀ (z : List KS) (j : Nat) q u, (z.map KS.pv)[j]? = some q → (z.map KS.val).toArray[0 + j]? = some u → RepV (E := ⟨fun _ => none, fun _ => none, fun _ => 0⟩) q u := by
    intro z j q u h1 h2
    simp only [List.getElem?_map, Option.map_eq_some_iff, Nat.zero_add, List.getElem?_toArray] at h1 h2
    obtain ⟨k, hk, rfl⟩ := h1
    obtain ⟨k', hk', rfl⟩ := h2
    rw [hk] at hk'; cases hk'
    exact KS.pv_rep k
  have he := eqs_sound (w := w) 9998 (x.map KS.val).toArray (y.map KS.val).toArray fs.toList (l.map KSh.sc) 0 (x.map KS.pv) (y.map KS.pv) _ (kflat_flat hl) (eqs_pv hx hy) (rr x) (rr y) (by simp) (by simp)
  have h1 := run_equalIn_struct w 9999 t (x.map KS.val).toArray (y.map KS.val).toArray (by rw [hfo]; exact hu) hp
  rw [hfo, he] at h1
  simpa [Op.equal, Op.maxDepth, keyVal] using h1

/-- The first entry with the key. -/
def Found (L : List (List KS × PV)) (es : List MapEntry) (k : List KS) (i : Nat) (r : Option (Nat × Value)) : Prop :=
  match findL k L i with
  | none => r = none
  | some (j, pv) => ∃ e' : MapEntry, i ≤ j ∧ es[j - i]? = some e' ∧ L[j - i]? = some (k, pv) ∧ r = some (j, e'.val)

theorem Found.next {L : List (List KS × PV)} {es : List MapEntry} {k : List KS} {i : Nat} {r : Option (Nat × Value)} {e : List KS × PV} {e' : MapEntry} (h : Found L es k (i + 1) r) (hne : e.1 ≠ k) : Found (e :: L) (e' :: es) k i r := by
  unfold Found at h ⊢
  simp only [findL, if_neg hne]
  split at h
  · exact h
  · rename_i j pv hj
    obtain ⟨x, h1, h2, h3, h4⟩ := h
    refine ⟨x, by omega, ?_, ?_, h4⟩
    · rw [show j - i = (j - (i + 1)) + 1 by omega]; exact h2
    · rw [show j - i = (j - (i + 1)) + 1 by omega]; exact h3

theorem Found.here {L : List (List KS × PV)} {es : List MapEntry} {k : List KS} {i : Nat} {e : List KS × PV} {e' : MapEntry} (he : e.1 = k) : Found (e :: L) (e' :: es) k i (some (i, e'.val)) := by
  unfold Found
  simp only [findL, if_pos he]
  refine ⟨e', Nat.le_refl _, by simp, ?_, rfl⟩
  subst he
  simp

def KeysAre (sh : MSh) (L : List (List KS × PV)) (es : List MapEntry) : Prop :=
  es.length = L.length ∧ ∀ (i : Nat) e e', L[i]? = some e → es[i]? = some e' → e.1.map KS.sh = sh.2 ∧ e'.key = keyVal sh e.1

theorem KeysAre.tail {sh : MSh} {e : List KS × PV} {L : List (List KS × PV)} {e' : MapEntry} {es : List MapEntry} (h : KeysAre sh (e :: L) (e' :: es)) : KeysAre sh L es :=
  ⟨by simpa using h.1, fun i x y a b => h.2 (i + 1) x y (by simpa using a) (by simpa using b)⟩

theorem findNow_key {s : KSh} {x : KS} (hx : x.sh = s) : ∀ {L : List (List KS × PV)} {es : List MapEntry} {i : Nat}, KeysAre (false, [s]) L es → ∃ r, Instr.findNow s.desc x.val es i = some r ∧ Found L es [x] i r
  | [], es, i, h => by
    have : es = [] := by simpa using h.1
    subst this
    exact ⟨none, rfl, rfl⟩
  | e :: L, es, i, h => by
    cases es with
    | nil => have := h.1; simp at this
    | cons e' es =>
    obtain ⟨h1, h2⟩ := h.2 0 e e' rfl rfl
    obtain ⟨ek, ep⟩ := e
    cases ek with
    | nil => simp at h1
    | cons y ys =>
      simp only [List.map_cons, List.cons.injEq, List.map_eq_nil_iff] at h1
      obtain ⟨hy, rfl⟩ := h1
      have hk : e'.key = y.val := by rw [h2]; rfl
      simp only [Instr.findNow, hk, sameNow_key hx hy]
      by_cases e0 : x = y
      · subst e0
        simp only [decide_true]
        exact ⟨_, rfl, Found.here rfl⟩
      · simp only [e0, decide_false]
        obtain ⟨r, g1, g2⟩ := findNow_key hx (i := i + 1) h.tail
        exact ⟨r, g1, g2.next (by simp; exact fun e => e0 e.symm)⟩

theorem findAsking_key {t : TypeId} {fs : Array Field} {l : List KSh} (hu : T.P.underlying t = some (.struct fs)) (hp : T.P.stoodInHeld t = false) (hl : T.kflatFrom 0 fs.toList = some l) {x : List KS} (hx : x.map KS.sh = l) :
    ∀ {L : List (List KS × PV)} {es : List MapEntry} {i : Nat}, KeysAre (true, l) L es → ∃ r, (Instr.findAsking t (keyVal (true, l) x) es i).run T.P w = .ok r w ∧ Found L es x i r
  | [], es, i, h => by
    have : es = [] := by simpa using h.1
    subst this
    exact ⟨none, rfl, rfl⟩
  | e :: L, es, i, h => by
    cases es with
    | nil => have := h.1; simp at this
    | cons e' es =>
    obtain ⟨h1, h2⟩ := h.2 0 e e' rfl rfl
    simp only [Instr.findAsking, Sem.run_bind, h2, equal_key hu hp hl hx h1, Result.andThen_ok]
    by_cases e0 : x = e.1
    · subst e0
      simp only [decide_true, if_true, Sem.run_pure]
      exact ⟨_, rfl, Found.here rfl⟩
    · simp only [e0, decide_false, Bool.false_eq_true, if_false]
      obtain ⟨r, g1, g2⟩ := findAsking_key hu hp hl hx (i := i + 1) h.tail
      exact ⟨r, g1, g2.next (fun e => e0 e.symm)⟩

theorem keyShape_cases {t : TypeId} {sh : MSh} (h : T.keyShape t = some sh) : (∃ s, sh = (false, [s]) ∧ T.kscalar t = some s) ∨ (∃ fs l, sh = (true, l) ∧ T.P.underlying t = some (.struct fs) ∧ T.P.stoodInHeld t = false ∧ T.kflatFrom 0 fs.toList = some l) := by
  unfold Tbl.keyShape at h
  split at h
  · rename_i fs hu
    split at h
    · rename_i hp
      simp only [Option.map_eq_some_iff] at h
      obtain ⟨l, hl, rfl⟩ := h
      exact .inr ⟨fs, l, rfl, hu, hp, hl⟩
    · cases h
  · simp only [Option.map_eq_some_iff] at h
    obtain ⟨s, hs, rfl⟩ := h
    exact .inl ⟨s, rfl, hs⟩

theorem findKey_sound {t : TypeId} {sh : MSh} (hsh : T.keyShape t = some sh) {k : List KS} (hk : k.map KS.sh = sh.2) {L : List (List KS × PV)} {es : List MapEntry} (h : KeysAre sh L es) :
    ∃ r, (Instr.findKey t (keyVal sh k) es).run T.P w = .ok r w ∧ Found L es k 0 r := by
  rcases keyShape_cases hsh with ⟨s, rfl, hs⟩ | ⟨fs, l, rfl, hu, hp, hl⟩
  · have hd := (kscalar_spec hs).1
    cases k with
    | nil => simp at hk
    | cons x xs =>
      simp only [List.map_cons, List.cons.injEq, List.map_eq_nil_iff] at hk
      obtain ⟨hx, rfl⟩ := hk
      obtain ⟨r, g1, g2⟩ := findNow_key hx (i := 0) h
      refine ⟨r, ?_, g2⟩
      have hv : keyVal (false, [s]) [x] = x.val := rfl
      simp only [Instr.findKey, Sem.run_bind, run_underlying hd, Result.andThen_ok, hv, g1, Sem.run_pure]
  · obtain ⟨r, g1, g2⟩ := findAsking_key (w := w) hu hp hl hk (i := 0) h
    cases es with
    | nil =>
      have : L = [] := by simpa using h.1.symm
      subst this
      refine ⟨none, ?_, rfl⟩
      simp [Instr.findKey, run_underlying hu, Instr.findNow]
    | cons e es =>
      refine ⟨r, ?_, g2⟩
      have hno : Instr.findNow (.struct fs) (keyVal (true, l) k) (e :: es) 0 = none := by
        simp [Instr.findNow, Instr.sameNow, keyVal]
      simp only [Instr.findKey, Sem.run_bind, run_underlying hu, Result.andThen_ok, hno]
      exact g1

theorem checkScalar {t : TypeId} {s : KSh} (hs : T.kscalar t = some s) (em : Bool) (d : Nat) (x : KS) : (Instr.checkKey em (d + 1) t x.val).run T.P w = .ok () w := by
  have hu := (kscalar_spec hs).1
  simp only [Instr.checkKey, Sem.run_bind, run_underlying hu, Result.andThen_ok]
  cases s <;> cases x <;> rfl

theorem checkKey_sound {t : TypeId} {sh : MSh} (hsh : T.keyShape t = some sh) {k : List KS} (hk : k.map KS.sh = sh.2) (em : Bool) : (Instr.checkKey em 10000 t (keyVal sh k)).run T.P w = .ok () w := by
  rcases keyShape_cases hsh with ⟨s, rfl, hs⟩ | ⟨fs, l, rfl, hu, hp, hl⟩
  · cases k with
    | nil => simp at hk
    | cons x xs =>
      simp only [List.map_cons, List.cons.injEq, List.map_eq_nil_iff] at hk
      obtain ⟨hx, rfl⟩ := hk
      exact checkScalar hs em 9999 x
  · simp only [keyVal, if_true]
    obtain ⟨m, hm⟩ : ∃ m : Nat, m = 9999 := ⟨_, rfl⟩
    rw [show (10000 : Nat) = m + 1 by omega]
    simp only [Instr.checkKey, Sem.run_bind, run_underlying hu, Result.andThen_ok]
    rw [← Array.forIn_toList]
    have key : ∀ (fs : List Field) (l : List KSh) (j : Nat), T.kflatFrom j fs = some l → (∀ (i : Nat) s, l[i]? = some s → ∃ x : KS, (k.map KS.val).toArray[j + i]? = some x.val) →
        (forIn fs PUnit.unit (fun f (_ : PUnit) => (do
          if f.name ≠ "_" then
            Instr.checkKey em m f.type (← part f.type (k.map KS.val).toArray f.offset)
            pure (ForInStep.yield PUnit.unit)
          else pure (ForInStep.yield PUnit.unit) : Sem (ForInStep PUnit)))).run T.P w = .ok PUnit.unit w := by
      intro fs
      induction fs with
      | nil => intro l j _ _; simp
      | cons f fs ih =>
        intro l j h hv
        simp only [Tbl.kflatFrom] at h
        split at h
        · rename_i c cs h1 h2
          split at h
          · rename_i hc
            cases h
            obtain ⟨x, hx⟩ := hv 0 c rfl
            simp only [List.forIn_cons, Sem.run_bind, Sem.run_ite]
            rw [if_pos hc.1]
            have hp1 := part_sound (w := w) (kscalar_spec h1).2 (k.map KS.val).toArray f.offset x.val (by rw [hc.2]; simpa using hx)
            simp only [Sem.run_bind, hp1, Result.andThen_ok]
            rw [show m = 9998 + 1 by omega, checkScalar h1 em 9998 x, ← show m = 9998 + 1 by omega]
            simp only [Result.andThen_ok, Sem.run_pure]
            exact ih cs (j + 1) h2 fun i s hs => by
              obtain ⟨y, hy⟩ := hv (i + 1) s (by simpa using hs)
              exact ⟨y, by rw [show j + 1 + i = j + (i + 1) by omega]; exact hy⟩
          · cases h
        · cases h
    have := key fs.toList l 0 hl fun i s hs => by
      have hlen : k.length = l.length := by rw [show l = k.map KS.sh from hk.symm]; simp
      have hi : i < l.length := (List.getElem?_eq_some_iff.1 hs).1
      exact ⟨k[i], by simp [show i < k.length by omega]⟩
    simp at this ⊢
    rw [this]
    rfl

theorem mapOf_found {L : List (List KS × PV)} {es : List MapEntry} {k : List KS} {r : Option (Nat × Value)} (h : Found L es k 0 r) (hv : ∀ (i : Nat) (e : List KS × PV) (e' : MapEntry), L[i]? = some e → es[i]? = some e' → RepV E e.2 e'.val) :
    (mapOf L k = none ∧ r = none) ∨ ∃ j pv v, mapOf L k = some pv ∧ r = some (j, v) ∧ RepV E pv v := by
  unfold Found at h
  unfold mapOf
  split at h
  · rename_i hn
    exact .inl ⟨by rw [hn]; rfl, h⟩
  · rename_i j pv hj
    obtain ⟨e', -, h2, h3, h4⟩ := h
    exact .inr ⟨j, pv, e'.val, by rw [hj]; rfl, h4, hv _ _ e' h3 h2⟩

theorem lookup_sound {t kt et : TypeId} {sh : MSh} {info : TypeInfo} {z : Value} {pz pk : PV} {x k : Value} {o : Nat} {g : PMap} {key : List KS} {ok : Bool} (ht : T.P.underlying t = some (.map kt et)) (hsh : T.keyShape kt = some sh)
    (hi : T.P.info? et = some info) (hz : info.zero = some z) (hpz : ofValue z = some pz) (hx : RepV E (.map o) x) (hk : RepV E pk k) (ho : H o = some (.map sh g)) (hkey : keyOf sh pk = some key) (hW : WRel E H w) :
    ∃ v, (Instr.lookup t x k ok).run T.P w = .ok v w ∧ RepV E (if ok then .tup [(g key).getD pz, .bool (g key).isSome] else (g key).getD pz) v := by
  cases hx
  obtain ⟨hlt, es, clock, L, hh, hsz, rfl, hes⟩ := hW.h o _ ho
  obtain ⟨hkv, hks, -⟩ := keyOf_rep hk hkey
  have hKA : KeysAre sh L es.toList := ⟨by simpa using hsz, fun i e e' a b => by have := hes i e e' a (by simpa using b); exact ⟨this.1, this.2.1⟩⟩
  obtain ⟨r, g1, g2⟩ := findKey_sound (w := w) hsh hks hKA
  have g3 := mapOf_found (E := E) g2 fun i e e' a b => (hes i e e' a (by simpa using b)).2.2
  subst hkv
  have hget : (getObj o).run T.P w = .ok (.map es clock) w := by simp [getObj, Sem.run, hh]
  have hzv : (zeroValue et).run T.P w = .ok z w := by simp [zeroValue, typeInfo, run_program, hi, hz]
  simp only [Instr.lookup, Sem.run_bind, run_underlying ht, Result.andThen_ok, hget, Sem.run_pure, checkKey_sound hsh hks, g1]
  rcases g3 with ⟨g4, rfl⟩ | ⟨j, pv, v, g4, rfl, hr⟩
  · simp only [hzv, Sem.run_bind, Result.andThen_ok, Sem.run_pure, g4, Option.getD_none, Option.isSome_none]
    cases ok
    · exact ⟨z, rfl, ofValue_rep hpz⟩
    · refine ⟨_, rfl, .tup #[z, .bool false] rfl fun j p u a b => ?_⟩
      match j with
      | 0 => simp at a b; subst a; subst b; exact ofValue_rep hpz
      | 1 => simp at a b; subst a; subst b; exact .bool _
      | j + 2 => simp at a
  · simp only [Sem.run_pure, Result.andThen_ok, g4, Option.getD_some, Option.isSome_some]
    cases ok
    · exact ⟨v, rfl, hr⟩
    · refine ⟨_, rfl, .tup #[v, .bool true] rfl fun j p u a b => ?_⟩
      match j with
      | 0 => simp at a b; subst a; subst b; exact hr
      | 1 => simp at a b; subst a; subst b; exact .bool _
      | j + 2 => simp at a
end
end Go.PM
