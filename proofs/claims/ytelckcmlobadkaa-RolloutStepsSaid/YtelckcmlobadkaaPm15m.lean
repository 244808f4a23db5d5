/-
  PM15m: storing in a map. No condition.
-/
import Derived.Test.YtelckcmlobadkaaPm15
import Derived.Test.YtelckcmlobadkaaPm11m
import Derived.MapKept
set_option linter.unusedSimpArgs false
set_option linter.unusedVariables false
namespace Go.PM
open Go Go.RowKit

section
variable {T : Tbl} {n : Nat} {E : Env} {F : PF} {H : PH} {a : Act} {w : World}

theorem findL_shift (k : List KS) : ∀ (L : List (List KS × PV)) (i j : Nat), (findL k L i).map (·.2) = (findL k L j).map (·.2)
  | [], _, _ => rfl
  | e :: L, i, j => by
    simp only [findL]
    split
    · rfl
    · exact findL_shift k L _ _

theorem mapOf_cons (e : List KS × PV) (L : List (List KS × PV)) (k : List KS) : mapOf (e :: L) k = if e.1 = k then some e.2 else mapOf L k := by
  unfold mapOf
  simp only [findL]
  split
  · rfl
  · exact findL_shift k L _ _

theorem mapOf_push {key : List KS} {pv : PV} : ∀ {L : List (List KS × PV)}, mapOf L key = none → mapOf (L ++ [(key, pv)]) = PMap.upd (mapOf L) key pv
  | [], _ => by
    funext k
    simp only [List.nil_append, mapOf_cons, PMap.upd]
    by_cases h : key = k
    · rw [if_pos h, if_pos h.symm]
    · rw [if_neg h, if_neg (fun e => h e.symm)]
  | e :: L, h => by
    rw [mapOf_cons] at h
    split at h
    · cases h
    · rename_i hne
      funext k
      rw [List.cons_append, mapOf_cons, mapOf_push h]
      simp only [PMap.upd, mapOf_cons]
      by_cases h1 : e.1 = k
      · have : k ≠ key := fun e2 => hne (h1.trans e2)
        simp [h1, this]
      · simp [h1]

theorem mapOf_set {key : List KS} {pv : PV} : ∀ {L : List (List KS × PV)} {i j : Nat} {p : PV}, findL key L i = some (j, p) → i ≤ j ∧ mapOf (L.set (j - i) (key, pv)) = PMap.upd (mapOf L) key pv
  | [], i, j, p, h => by simp [findL] at h
  | e :: L, i, j, p, h => by
    simp only [findL] at h
    split at h
    · rename_i he
      cases h
      refine ⟨Nat.le_refl _, ?_⟩
      funext k
      rw [Nat.sub_self, List.set_cons_zero, mapOf_cons]
      simp only [PMap.upd, mapOf_cons]
      by_cases h1 : key = k
      · subst h1; simp
      · have h2 : k ≠ key := fun e2 => h1 e2.symm
        have h3 : e.1 ≠ k := fun e2 => h1 (he.symm.trans e2)
        simp [h1, h2, h3]
    · rename_i he
      obtain ⟨h1, h2⟩ := mapOf_set (pv := pv) h
      refine ⟨by omega, ?_⟩
      funext k
      rw [show j - i = (j - (i + 1)) + 1 by omega, List.set_cons_succ, mapOf_cons, h2]
      simp only [PMap.upd, mapOf_cons]
      by_cases h3 : e.1 = k
      · have : k ≠ key := fun e2 => he (h3.trans e2)
        simp [h3, this]
      · simp [h3]

theorem WRel.setMap (hW : WRel E H w) {o : Nat} {sh : MSh} {g : PMap} {es es' : Array MapEntry} {clock clock' : Nat} {L : List (List KS × PV)} (ho : H o = some (.map sh g)) (hh : w.heap[o]? = some (.map es clock)) (hsz : es'.size = L.length)
    (hL : ∀ (i : Nat) e e', L[i]? = some e → es'[i]? = some e' → e.1.map KS.sh = sh.2 ∧ e'.key = keyVal sh e.1 ∧ RepV E e.2 e'.val) :
    WRel E (H.set o (.map sh (mapOf L))) { w with heap := w.heap.setIfInBounds o (.map es' clock') } ∧ Ext E H w E (H.set o (.map sh (mapOf L))) { w with heap := w.heap.setIfInBounds o (.map es' clock') } := by
  have hlt := (hW.h o _ ho).1
  have hother : ∀ b, b ≠ o → (w.heap.setIfInBounds o (.map es' clock'))[b]? = w.heap[b]? := fun b hb => Array.getElem?_setIfInBounds_ne (Ne.symm hb)
  have hself : (w.heap.setIfInBounds o (.map es' clock'))[o]? = some (.map es' clock') := by simp [hlt]
  have hGne : ∀ b ds, E.G b = some ds → b ≠ o := fun b ds hb e => by
    subst e
    have := (hW.g b ds hb).1 _ ho
    cases this
  refine ⟨⟨fun b ds hb => ?_, fun q x hq => ?_, fun q m hs => ?_⟩, ⟨.refl E, rfl, rfl, rfl, by simp, fun b _ hn => hother b (fun e => by subst e; rw [ho] at hn; cases hn), fun q x hq => ?_, fun b ds hb => .inl hb⟩⟩
  · obtain ⟨h1, ty', fr, h2⟩ := hW.g b ds hb
    have hne := hGne b ds hb
    refine ⟨fun x hx => h1 x ?_, ty', fr, (hother b hne).trans h2⟩
    rw [set_apply, if_neg hne] at hx
    exact hx
  · rw [set_apply] at hq
    split at hq
    · rename_i e
      subst e
      cases hq
      exact ⟨by simpa using hlt, es', clock', L, hself, hsz, rfl, hL⟩
    · rename_i e
      obtain ⟨h1, h2⟩ := hW.h q x hq
      exact ⟨by simpa using h1, h2.mono (.refl E) (hother q e)⟩
  · obtain ⟨cur', ty', fr, h1, h2⟩ := hW.s q m hs
    have hne : q ≠ o := fun e => by subst e; rw [hh] at h1; cases h1
    exact ⟨cur', ty', fr, (hother q hne).trans h1, h2⟩
  · rw [set_apply] at hq
    split at hq
    · rename_i e; subst e; exact .inl ⟨_, ho⟩
    · exact .inl ⟨x, hq⟩

theorem sameBits_ks (k : KS) (d : Nat) : Instr.sameBits d k.val k.val = true := by
  cases k <;> cases d <;> simp [KS.val, Instr.sameBits, beq_toListBytes]

theorem sameBits_key (sh : MSh) (k : List KS) (hk : sh.1 = false → ∃ s, k = [s]) : Instr.sameBits 10000 (keyVal sh k) (keyVal sh k) = true := by
  obtain ⟨b, l⟩ := sh
  cases b with
  | false =>
    obtain ⟨s, rfl⟩ := hk rfl
    exact sameBits_ks s 10000
  | true =>
    simp only [keyVal, if_true]
    obtain ⟨m, hm⟩ : ∃ m : Nat, m = 9999 := ⟨_, rfl⟩
    rw [show (10000 : Nat) = m + 1 by omega]
    simp only [Instr.sameBits, beq_self_eq_true, Bool.true_and, List.all_eq_true]
    rintro ⟨x, y⟩ hxy
    have : ∀ (l : List Value), (x, y) ∈ l.zip l → x = y ∧ x ∈ l := by
      intro l
      induction l with
      | nil => intro h; simp at h
      | cons z zs ih =>
        intro h
        simp only [List.zip_cons_cons, List.mem_cons, Prod.mk.injEq] at h
        rcases h with ⟨rfl, rfl⟩ | h
        · exact ⟨rfl, by simp⟩
        · exact ⟨(ih h).1, by simp [(ih h).2]⟩
    obtain ⟨rfl, hmem⟩ := this _ hxy
    simp only [List.mem_map] at hmem
    obtain ⟨s, -, rfl⟩ := hmem
    exact sameBits_ks s m

theorem mapset_sound {t kt et : TypeId} {sh : MSh} {pk pv : PV} {x k v : Value} {o : Nat} {g : PMap} {key : List KS} (ht : T.P.underlying t = some (.map kt et)) (hsh : T.keyShape kt = some sh)
    (hx : RepV E (.map o) x) (hk : RepV E pk k) (hv : RepV E pv v) (ho : H o = some (.map sh g)) (hkey : keyOf sh pk = some key) (hW : WRel E H w) :
    ∃ w', (Instr.mapUpdate t x k v).run T.P w = .ok () w' ∧ WRel E (H.set o (.map sh (g.upd key pv))) w' ∧ Ext E H w E (H.set o (.map sh (g.upd key pv))) w' := by
  cases hx
  obtain ⟨hlt, es, clock, L, hh, hsz, rfl, hes⟩ := hW.h o _ ho
  obtain ⟨hkv, hks, hk1⟩ := keyOf_rep hk hkey
  have hKA : KeysAre sh L es.toList := ⟨by simpa using hsz, fun i e e' a b => by have := hes i e e' a (by simpa using b); exact ⟨this.1, this.2.1⟩⟩
  obtain ⟨r, g1, g2⟩ := findKey_sound (w := w) hsh hks hKA
  subst hkv
  have hget : (getObj o).run T.P w = .ok (.map es clock) w := by simp [getObj, Sem.run, hh]
  have hset : ∀ x, (setObj o x).run T.P w = .ok () { w with heap := w.heap.setIfInBounds o x } := fun x => MapKept.run_setObj_map x hh
  simp only [Instr.mapUpdate, Sem.run_bind, run_underlying ht, Result.andThen_ok, hget, checkKey_sound hsh hks, g1]
  unfold Found at g2
  split at g2
  · rename_i hn
    subst g2
    have hm : mapOf L key = none := by unfold mapOf; rw [hn]; rfl
    have hp : PMap.upd (mapOf L) key pv = mapOf (L ++ [(key, pv)]) := (mapOf_push hm).symm
    rw [hp]
    simp only [hset]
    refine ⟨_, rfl, hW.setMap ho hh (by simp [hsz]) fun i e e' h1 h2 => ?_⟩
    rcases Nat.lt_trichotomy i L.length with h3 | h3 | h3
    · rw [List.getElem?_append_left h3] at h1
      rw [Array.getElem?_push_lt (by omega)] at h2
      exact hes i e e' h1 (by rw [Array.getElem?_eq_getElem (by omega)]; exact h2)
    · subst h3
      rw [List.getElem?_append_right (Nat.le_refl _)] at h1
      rw [← hsz, Array.getElem?_push_size] at h2
      simp at h1 h2
      subst h1; subst h2
      exact ⟨hks, rfl, hv⟩
    · rw [List.getElem?_eq_none (by simp; omega)] at h1
      cases h1
  · rename_i j p hj
    obtain ⟨e0, -, h2, h3, rfl⟩ := g2
    have hp : PMap.upd (mapOf L) key pv = mapOf (L.set j (key, pv)) := by
      have := (mapOf_set (pv := pv) hj).2
      simpa using this.symm
    rw [hp]
    simp only [Nat.sub_zero] at h2 h3
    have h2' : es[j]? = some e0 := by simpa using h2
    have hek : e0.key = keyVal sh key := (hes j _ e0 h3 h2').2.1
    have hstay : (Instr.keyThatStays (((es[j]?).map (·.key)).getD (keyVal sh key)) (keyVal sh key)).run T.P w = .ok (keyVal sh key) w := by
      rw [h2']
      simp only [Option.map_some, Option.getD_some, hek, Instr.keyThatStays, sameBits_key sh key hk1, if_true, Sem.run_pure]
    simp only [Sem.run_bind, hstay, Result.andThen_ok, hset]
    refine ⟨_, rfl, hW.setMap ho hh (by simp [hsz]) fun i e e' h4 h5 => ?_⟩
    rw [Array.getElem?_modify] at h5
    rw [List.getElem?_set] at h4
    have hjl : j < L.length := (List.getElem?_eq_some_iff.1 h3).1
    by_cases hij : j = i
    · subst hij
      rw [if_pos rfl, if_pos hjl] at h4
      rw [if_pos rfl, h2'] at h5
      simp at h4 h5
      subst h4; subst h5
      exact ⟨hks, rfl, hv⟩
    · rw [if_neg hij] at h4 h5
      exact hes i e e' h4 h5
end
end Go.PM
