/-
  PM17f: an object that is never written again becomes read-only data. No condition.
-/
import Derived.Test.YtelckcmlobadkaaPm17
set_option linter.unusedSimpArgs false
set_option linter.unusedVariables false
namespace Go.PM
open Go Go.RowKit

section
variable {T : Tbl} {n : Nat} {E : Env} {F : PF} {H : PH} {a : Act} {w : World}

def oneOf (cur : Array Value) (k : Nat) : Value := if ((cur[k]?).getD (.int .i64 0)).oneCell' then (cur[k]?).getD (.int .i64 0) else .int .i64 0
theorem oneOf_one (cur : Array Value) (k : Nat) : (oneOf cur k).oneCell' = true := by
  unfold oneOf
  split
  · assumption
  · rfl

theorem frz1_rep {o s : Nat} {rs : List (List PV)} {cur : Array Value} {E' : Env} (hle : E.le E') (hG : E'.G o = some cur) (hsz : E.sz o = some cur.size) (hR : RRep E s rs cur) {pv : PV} {v : Value} (h : RepV E pv v) :
    RepV E' (pv.frz1 o s rs) v := by
  unfold PV.frz1
  split
  · rename_i q s' off len
    split
    · rename_i e
      subst e
      split
      · rename_i hc
        obtain ⟨rfl, hfit⟩ := hc
        cases h with
        | osl hb hsp hoff hlen hmax hn hroom =>
        rename_i cap N ad
        have hl : ((rs.drop off).take len).length = len := by rw [List.length_take, List.length_drop]; omega
        have hat : ∀ i j p, at2 ((rs.drop off).take len) i j = some p → at2 rs (off + i) j = some p := by
          intro i j p hp
          unfold at2 at hp ⊢
          rw [List.getElem?_take] at hp
          split at hp
          · rw [List.getElem?_drop] at hp; exact hp
          · simp at hp
        have key : RepV E' (.sl s' ((rs.drop off).take len)) (.slice (some ad) ((rs.drop off).take len).length cap) := by
          have hu : ∀ i j p, at2 ((rs.drop off).take len) i j = some p → ∃ u, cur[(off + i) * s' + j]? = some u ∧ RepV E p u ∧ oneOf cur ((off + i) * s' + j) = u := by
            intro i j p hp
            obtain ⟨u, g1, g2, g3⟩ := hR.2.2 _ _ _ (hat i j p hp)
            exact ⟨u, g1, g3, by simp [oneOf, g1, g2]⟩
          refine .sl (fun i j => oneOf cur ((off + i) * s' + j)) (by rw [hl]; exact hlen) hmax (fun r hr => hR.1 r (List.mem_of_mem_drop (List.mem_of_mem_take hr))) (fun hne => ?_) (fun i j => oneOf_one _ _) (fun i j p hp => ?_)
          · have hpos : 0 < ((rs.drop off).take len).length := List.length_pos_iff.2 hne
            have hoff' : ad.off = off * s' := by
              rcases hoff with h | h
              · omega
              · exact h
            refine ⟨ad, rfl, hsp, fun i j p hp => ?_⟩
            obtain ⟨u, g1, -, g3⟩ := hu i j p hp
            rw [g3]
            unfold Env.cell
            rw [hb, hG, Option.bind_some, hoff']
            have e : off * s' + i * s' + j = (off + i) * s' + j := by rw [Nat.add_mul]
            rw [e]
            exact g1
          · obtain ⟨u, -, g2, g3⟩ := hu i j p hp
            rw [g3]
            exact g2.mono hle
        rw [hl] at key
        exact key
      · exact .junk _
    · exact h.mono hle
  · exact h.mono hle

theorem frz2_rep {o s : Nat} {rs : List (List PV)} {cur : Array Value} {E' : Env} (hle : E.le E') (hG : E'.G o = some cur) (hsz : E.sz o = some cur.size) (hR : RRep E s rs cur) {pv : PV} {v : Value} (h : RepV E pv v) :
    RepV E' (pv.frz2 o s rs) v := by
  unfold PV.frz2
  split
  · cases h with
    | agg vs hl h1 hr =>
    refine .agg vs (by simpa using hl) h1 (fun j p u hp hu => ?_)
    rw [List.getElem?_map, Option.map_eq_some_iff] at hp
    obtain ⟨q, hq, rfl⟩ := hp
    exact frz1_rep hle hG hsz hR (hr j q u hq hu)
  · exact frz1_rep hle hG hsz hR h

theorem frz_rep {o s : Nat} {rs : List (List PV)} {cur : Array Value} {E' : Env} (hle : E.le E') (hG : E'.G o = some cur) (hsz : E.sz o = some cur.size) (hR : RRep E s rs cur) {pv : PV} {v : Value} (h : RepV E pv v) :
    RepV E' (pv.frz o s rs) v := by
  unfold PV.frz
  split
  · cases h with
    | tup vs hl hr =>
    refine .tup vs (by simpa using hl) (fun j p u hp hu => ?_)
    rw [List.getElem?_map, Option.map_eq_some_iff] at hp
    obtain ⟨q, hq, rfl⟩ := hp
    exact frz2_rep hle hG hsz hR (hr j q u hq hu)
  · exact frz2_rep hle hG hsz hR h

/-- One object given up. -/
theorem WRel.frz (hW : WRel E H w) {o s : Nat} {rs : List (List PV)} (ho : H o = some (.rows s rs)) : ∃ E', WRel E' (H.frz o s rs) w ∧ Ext E H w E' (H.frz o s rs) w ∧ ∀ {pv : PV} {v : Value}, RepV E pv v → RepV E' (pv.frz o s rs) v := by
  obtain ⟨hlt, cur, ty, hh, hsz, h1, h2, h3⟩ := hW.h o _ ho
  have hR : RRep E s rs cur := ⟨h1, h2, h3⟩
  have hGo : E.G o = none := by
    cases h : E.G o with
    | none => rfl
    | some ds => have := (hW.g o ds h).1 _ ho; cases this
  have hle : E.le ⟨upd E.G o (some cur), E.sz, E.num⟩ := by
    refine ⟨fun b ds hb => ?_, fun b m h => h, rfl⟩
    have hne : b ≠ o := fun e => by subst e; rw [hGo] at hb; cases hb
    simp only
    rw [upd_ne _ _ hne]
    exact hb
  have hG' : (⟨upd E.G o (some cur), E.sz, E.num⟩ : Env).G o = some cur := by simp [upd]
  have happ : ∀ q, (H.frz o s rs).f q = if q = o then none else (H q).map (PObj.frz o s rs) := fun q => rfl
  refine ⟨⟨upd E.G o (some cur), E.sz, E.num⟩, ⟨fun b ds hb => ?_, fun q x hq => ?_, hW.s⟩, ⟨hle, rfl, rfl, rfl, Nat.le_refl _, fun _ _ _ => rfl, fun q x hq => ?_, fun b ds hb => ?_⟩, fun h => frz_rep hle hG' hsz hR h⟩
  · simp only [upd] at hb
    split at hb
    · rename_i e
      subst e
      cases hb
      refine ⟨fun x hx => ?_, ty, (0, 0), hh⟩
      rw [happ, if_pos rfl] at hx
      cases hx
    · rename_i e
      obtain ⟨g1, g2⟩ := hW.g b ds hb
      refine ⟨fun x hx => ?_, g2⟩
      rw [happ, if_neg e, Option.map_eq_some_iff] at hx
      obtain ⟨y, hy, rfl⟩ := hx
      have := g1 y hy
      subst this
      rfl
  · rw [happ] at hq
    split at hq
    · cases hq
    · rw [Option.map_eq_some_iff] at hq
      obtain ⟨y, hy, rfl⟩ := hq
      obtain ⟨g1, g2⟩ := hW.h q y hy
      refine ⟨g1, ?_⟩
      cases y with
      | rows s' rs' =>
        obtain ⟨cur', ty', k1, k2, k3, k4, k5⟩ := g2
        refine ⟨cur', ty', k1, k2, ?_, by simpa using k4, fun i j p hp => ?_⟩
        · intro r hr
          simp only [List.mem_map] at hr
          obtain ⟨r', hr', rfl⟩ := hr
          simpa using k3 r' hr'
        · simp only [at2, List.getElem?_map, Option.bind_map] at hp
          have hp' : ∃ p', at2 rs' i j = some p' ∧ p = p'.frz1 o s rs := by
            unfold at2
            cases hr : rs'[i]? with
            | none => simp [hr] at hp
            | some r =>
              simp only [hr, Option.bind_some, Function.comp, List.getElem?_map, Option.map_eq_some_iff] at hp ⊢
              obtain ⟨p', h1, h2⟩ := hp
              exact ⟨p', h1, h2.symm⟩
          obtain ⟨p', hp1, rfl⟩ := hp'
          obtain ⟨u, m1, m2, m3⟩ := k5 i j p' hp1
          exact ⟨u, m1, m2, frz1_rep hle hG' hsz hR m3⟩
      | map es => exact ORep.mono hle rfl g2
      | dead => trivial
  · rw [happ] at hq
    split at hq
    · cases hq
    · rw [Option.map_eq_some_iff] at hq
      obtain ⟨y, hy, -⟩ := hq
      exact .inl ⟨y, hy⟩
  · simp only [upd] at hb
    split at hb
    · rename_i e; subst e; exact .inr (.inl ⟨_, ho⟩)
    · exact .inl hb

theorem SFrz.sound {F F' : PF} {H H' : PH} (h : SFrz F H F' H') : ∀ {E : Env}, WRel E H w → ∃ E', WRel E' H' w ∧ Ext E H w E' H' w ∧ ∀ (f : Nat → Value), (∀ i pv, F i = some pv → RepV E pv (f i)) → ∀ i pv, F' i = some pv → RepV E' pv (f i) := by
  induction h with
  | refl F H => intro E hW; exact ⟨E, hW, .refl E H w, fun f h => h⟩
  | step o ho _ ih =>
    intro E hW
    obtain ⟨E1, h1, h2, h3⟩ := hW.frz ho
    obtain ⟨E2, k1, k2, k3⟩ := ih h1
    refine ⟨E2, k1, h2.trans k2, fun f hf => k3 f fun i pv hi => ?_⟩
    simp only [PF.frz, Option.map_eq_some_iff] at hi
    obtain ⟨q, hq, rfl⟩ := hi
    exact h3 (hf i q hq)

theorem ARel.frz {F' : PF} {H' : PH} (hA : ARel n E F a) (hW : WRel E H w) (h : SFrz F H F' H') : ∃ E', ARel n E' F' a ∧ WRel E' H' w ∧ Ext E H w E' H' w := by
  obtain ⟨E', h1, h2, h3⟩ := h.sound hW
  exact ⟨E', ⟨hA.size, hA.defers, h3 (fun i => a.tmps.getD i undef) hA.t⟩, h1, h2⟩

end
end Go.PM
