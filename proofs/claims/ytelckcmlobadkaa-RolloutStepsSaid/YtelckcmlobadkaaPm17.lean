/-
  PM17: writing operations are sound. No condition.
-/
import Derived.Test.YtelckcmlobadkaaPm16
set_option linter.unusedSimpArgs false
set_option linter.unusedVariables false
namespace Go.PM
open Go Go.RowKit

section
variable {T : Tbl} {n : Nat} {E : Env} {F : PF} {H : PH} {a : Act} {w : World}

theorem grown_size (w : World) (need old : Nat) (e : TypeId) : need ≤ grownCap w need old e := grownCap_ge w need old e

theorem zeroCells_list (z : Array Value) (k : Nat) : (Builtin.zeroCells z k) = (Builtin.zeroCells z k).toList.toArray := by simp

theorem run_append_exec {o : Oper} {c : Call} {x y : Operand} {t : TypeId} {v : Value} {w' : World} (ho : o.op = .call c) (hcc : c.callee = .builtin .append) (hca : c.args.toList = [x, y]) (hct : c.argTypes.toList = [t, t])
    (h : (Builtin.append_ #[t, t] o.type #[a.eval x, a.eval y]).run T.P w = .ok v w') : (execOp a.eval o).run T.P w = .ok (.value v) w' := by
  unfold execOp
  rw [ho]
  have e1 : c.argTypes = #[t, t] := by apply Array.ext'; simp [hct]
  have e2 := args2 hca a.eval
  simp [resolve, hcc, invoke, builtin, e1, e2, h]

/-- Rows beyond the k-th are forgotten. -/
theorem WRel.trim (hW : WRel E H w) {o s k : Nat} {rs : List (List PV)} (ho : H o = some (.rows s rs)) : WRel E (H.set o (.rows s (rs.take k))) w ∧ Ext E H w E (H.set o (.rows s (rs.take k))) w := by
  refine ⟨⟨fun b ds hb => ⟨fun y hy => ?_, (hW.g b ds hb).2⟩, fun q y hq => ?_, hW.s⟩, ⟨.refl E, rfl, rfl, rfl, Nat.le_refl _, fun _ _ _ => rfl, fun q y hq => ?_, fun b ds hb => .inl hb⟩⟩
  · rw [set_apply] at hy
    split at hy
    · rename_i e; subst e
      have := (hW.g b ds hb).1 _ ho
      cases this
    · exact (hW.g b ds hb).1 y hy
  · rw [set_apply] at hq
    split at hq
    · rename_i e
      subst e
      cases hq
      obtain ⟨h1, cur, ty, hh, hsz, hrow, hlen, hcell⟩ := hW.h q _ ho
      refine ⟨h1, cur, ty, hh, hsz, fun r hr => hrow r (List.mem_of_mem_take hr), ?_, fun i j p hp => hcell i j p ?_⟩
      · have : (rs.take k).length * s ≤ rs.length * s := Nat.mul_le_mul_right _ (by rw [List.length_take]; omega)
        omega
      · unfold at2 at hp ⊢
        rw [List.getElem?_take] at hp
        split at hp
        · exact hp
        · simp at hp
    · exact hW.h q y hq
  · rw [set_apply] at hq
    split at hq
    · rename_i e; subst e; exact .inl ⟨_, ho⟩
    · exact .inl ⟨y, hq⟩

theorem append_sound {o : Oper} {c : Call} {x y : Operand} {t e : TypeId} {i : TypeInfo} {px py : PV} {K : PV → PH → Prop} (ho : o.op = .call c) (hcc : c.callee = .builtin .append) (hca : c.args.toList = [x, y]) (hct : c.argTypes.toList = [t, t])
    (ht : T.P.underlying t = some (.slice e)) (hi : T.P.info? e = some i) (hz : i.zero.isSome = true) (hzs : (i.zero.map (·.cells.size)) = some i.size) (h0 : 0 < i.size)
    (hx : RepV E px (a.eval x)) (hy : RepV E py (a.eval y)) (hK : wpAppend H i.size i.bytes px py K) (hW : WRel E H w) : Writes T.P E H w o a K := by
  obtain ⟨z, hz⟩ := Option.isSome_iff_exists.1 hz
  have hzz : z.cells.size = i.size := by simpa [hz] using hzs
  obtain ⟨src, hsrc, hK⟩ := hK
  obtain ⟨ad, cap, news, hyv, hnl, hn1, hsrow, hncell, hfirst⟩ := src_cells T.P hW hy hsrc
  -- the new row, where it grows
  have grow : ∀ (base : Option Addr) (sLen sCap : Nat) (rs : List (List PV)) (olds : List Value), (Builtin.firstCells i.size sLen (.slice base sLen sCap)).run T.P w.drew = .ok olds.toArray w.drew → olds.length = sLen * i.size → rs.length = sLen →
      (∀ r ∈ rs, r.length = i.size) → (∀ i' j q, at2 rs i' j = some q → ∃ u, olds[i' * i.size + j]? = some u ∧ u.oneCell' = true ∧ RepV E q u) → sCap < sLen + src.length → roomFor sLen src.length i.bytes → a.eval x = .slice base sLen sCap →
      ∀ (H1 : PH), WRel E H1 w → Ext E H w E H1 w → ∃ v w' E' q, (execOp a.eval o).run T.P w = .ok (.value v) w' ∧ H1 q = none ∧ RepV E' (.osl q i.size 0 (sLen + src.length)) v ∧ WRel E' (H1.set q (.rows i.size (rs ++ src))) w' ∧ Ext E H w E' (H1.set q (.rows i.size (rs ++ src))) w' := by
    intro base sLen sCap rs olds hfo hol hrl hrr hrc hlt hroom hxv H1 hW1 hE1
    have hrun := run_app_grow (w := w) (ty := o.type) ht hi hz base sLen sCap src.length cap ad olds news hfo (by rw [← hyv]; exact hfirst w.drew rfl) hlt hroom.1 hroom.2
    have hge := grown_size w (sLen + src.length) sCap e
    have hcm := grownCap_le_maxLen w (sLen + src.length) sCap e hroom.1
    generalize hgc : grownCap w (sLen + src.length) sCap e = gc at *
    have hnc : ∀ i' j q, at2 src i' j = some q → ∃ u, news[i' * i.size + j]? = some u ∧ u.oneCell' = true ∧ RepV E q u := fun i' j q hq => by
      obtain ⟨u, g1, g2⟩ := hncell i' j q hq
      exact ⟨u, g1, hn1 u (List.mem_of_getElem? g1), g2⟩
    have hR := RRep.join (E := E) (tail := (Builtin.zeroCells z.cells (gc - (sLen + src.length))).toList) hrr hsrow (by rw [hol, hrl]) hnl hrc hnc
    have hcells : (olds.toArray ++ news.toArray ++ Builtin.zeroCells z.cells (gc - (sLen + src.length))) = (olds ++ news ++ (Builtin.zeroCells z.cells (gc - (sLen + src.length))).toList).toArray := by
      apply Array.ext'; simp
    rw [hcells] at hrun
    have hsz : (olds ++ news ++ (Builtin.zeroCells z.cells (gc - (sLen + src.length))).toList).toArray.size = gc * i.size := by
      have ez : (Builtin.zeroCells z.cells (gc - (sLen + src.length))).toList.length = (gc - (sLen + src.length)) * i.size := by
        rw [Array.length_toList, size_zeroCells, hzz]
      rw [List.size_toArray, List.length_append, List.length_append, ez, hol, hnl, ← Nat.add_mul, ← Nat.add_mul]
      congr 1
      omega
    obtain ⟨g1, g2⟩ := hW1.drew.addObj e hR
    refine ⟨_, _, _, w.heap.size, run_append_exec ho hcc hca hct (by rw [hxv, hyv]; exact hrun), hW1.h_new, ?_, g1, hE1.trans g2.of_drew⟩
    refine .osl rfl rfl (.inr (by simp)) hge hcm (own_sz _ _ _) ?_
    rw [hsz]
    omega
  split at hK
  · -- nil
    have hx' : a.eval x = .slice none 0 0 := by
      generalize a.eval x = v at hx
      cases hx
      rfl
    obtain ⟨hroom, hnil, hsome⟩ := hK
    by_cases hs0 : src = []
    · subst hs0
      have hf0 := hfirst w rfl
      have hn0 : news = [] := List.eq_nil_of_length_eq_zero (by rw [hnl]; simp)
      subst hn0
      rw [hyv] at hf0
      have hrun := run_app_stay (w := w) (ty := o.type) ht hi none 0 0 cap ad (Nat.le_refl _) hf0
      exact ⟨_, _, w, E, H, .nils, run_append_exec ho hcc hca hct (by rw [hx', hyv]; exact hrun), .inl rfl, .nils, hW, .refl E H w, hnil rfl⟩
    · have hpos : 0 < src.length := List.length_pos_iff.2 hs0
      obtain ⟨v, w', E', q, g1, g2, g3, g4, g5⟩ := grow none 0 0 [] [] (by simp [Builtin.firstCells]) (by simp) rfl (by simp) (fun i' j q hq => by simp [at2] at hq) (by omega) hroom hx' H hW (.refl E H w)
      refine ⟨v, _, w', E', _, _, g1, .inl rfl, g3, g4, g5, ?_⟩
      have := hsome hs0 q g2
      simpa using this
  · -- an object of the call's own
    rename_i q s off len
    obtain ⟨rfl, rfl, hroom, rs, hq, hrlle, hKin, hKnew⟩ := hK
    have hform : ∃ b sCap, a.eval x = .slice (some b) len sCap := by
      generalize a.eval x = v at hx
      cases hx
      exact ⟨_, _, rfl⟩
    obtain ⟨b, sCap, hxv⟩ := hform
    obtain ⟨sLen, rfl⟩ : ∃ sLen, sLen = len := ⟨_, rfl⟩
    · rw [hxv] at hx
      cases hx with
      | osl hb hsp hoff hlen hmax hnn hsroom =>
      rename_i N
      obtain ⟨hqlt, cur, ty, hh, hsz, hrow0, hrlen0, hcell0⟩ := hW.h q _ hq
      obtain ⟨hWt, hEt⟩ := hW.trim (k := sLen) hq
      obtain ⟨-, cur', ty', hh', hsz', hrow, hrlen, hcell⟩ := hWt.h q (.rows i.size (rs.take sLen)) (by rw [set_apply, if_pos rfl])
      rw [hh] at hh'
      cases hh'
      have hrl : (rs.take sLen).length = sLen := by rw [List.length_take]; omega
      generalize hrs0 : rs.take sLen = rs0 at *
      have hNc : N = cur.size := by rw [hsz] at hnn; cases hnn; rfl
      subst hNc
      simp only [Nat.zero_mul, Nat.zero_add] at hsroom hoff
      by_cases hs0 : src = []
      · subst hs0
        have hf0 := hfirst w rfl
        have hn0 : news = [] := List.eq_nil_of_length_eq_zero (by rw [hnl]; simp)
        subst hn0
        rw [hyv] at hf0
        have hrun := run_app_stay (w := w) (ty := o.type) ht hi (some b) sLen sCap cap ad hlen hf0
        simp only [List.append_nil, List.length_nil, Nat.add_zero] at hKin
        exact ⟨_, _, w, E, _, .osl q i.size 0 sLen, run_append_exec ho hcc hca hct (by rw [hxv, hyv]; exact hrun), .inl rfl, .osl hb hsp (by simpa using hoff) hlen hmax hsz (by omega), hWt, hEt, hKin⟩
      · have hpos : 0 < src.length := List.length_pos_iff.2 hs0
        by_cases hfit : sLen + src.length ≤ sCap
        · have hb0 : b = ⟨q, 0, none⟩ := by
            have : b.off = 0 := by
              rcases hoff with h | h
              · omega
              · exact h
            cases b; simp_all
          subst hb0
          have hle2 : (sLen + src.length) * i.size ≤ sCap * i.size := Nat.mul_le_mul_right _ hfit
          rw [Nat.add_mul] at hle2
          have hrun := run_app_room (w := w) (ty := o.type) ht hi q sLen sCap src.length cap ad cur hh news hnl (by rw [← hyv]; exact hfirst w rfl) hn1 hfit (by omega)
          have hlo : (cur.toList.take (sLen * i.size)).length = rs0.length * i.size := by
            rw [List.length_take, Array.length_toList, hrl]; omega
          have hRn := RRep.join (E := E) (s := i.size) (rs := rs0) (src := src) (olds := cur.toList.take (sLen * i.size)) (news := news) (tail := cur.toList.drop (sLen * i.size + news.length)) hrow hsrow hlo hnl
            (fun i' j p hp => by
              obtain ⟨u, g1, g2, g3⟩ := hcell i' j p hp
              obtain ⟨hi', hj'⟩ := at2_lt hrow hp
              refine ⟨u, ?_, g2, g3⟩
              have : (i' + 1) * i.size ≤ rs0.length * i.size := Nat.mul_le_mul_right _ hi'
              rw [Nat.succ_mul, hrl] at this
              rw [List.getElem?_take, if_pos (by omega), Array.getElem?_toList]
              exact g1)
            (fun i' j p hp => by
              obtain ⟨u, g1, g2⟩ := hncell i' j p hp
              exact ⟨u, g1, hn1 u (List.mem_of_getElem? g1), g2⟩)
          obtain ⟨g1, g2⟩ := hW.setRows hq hh (rs' := rs0 ++ src) (cs := (cur.toList.take (sLen * i.size) ++ news ++ cur.toList.drop (sLen * i.size + news.length)).toArray)
            (by rw [List.size_toArray]; simp only [List.length_append, List.length_take, List.length_drop]; have e : cur.toList.length = cur.size := Array.length_toList; omega) hRn
          exact ⟨_, _, _, E, _, .osl q i.size 0 (sLen + src.length), run_append_exec ho hcc hca hct (by rw [hxv, hyv]; exact hrun), .inl rfl, .osl rfl rfl (.inr (by simp)) hfit hmax hsz (by omega), g1, g2, hKin⟩
        · have hfo : ∃ olds : List Value, (Builtin.firstCells i.size sLen (.slice (some b) sLen sCap)).run T.P w.drew = .ok olds.toArray w.drew ∧ olds.length = sLen * i.size ∧
              (∀ i' j p, at2 rs0 i' j = some p → ∃ u, olds[i' * i.size + j]? = some u ∧ u.oneCell' = true ∧ RepV E p u) := by
            by_cases hl0 : sLen = 0
            · subst hl0
              refine ⟨[], run_firstCells_some w.drew i.size 0 b 0 sCap [] (by simp) (by simp), by simp, fun i' j p hp => ?_⟩
              have := (at2_lt hrow hp).1
              omega
            · have hb0 : b = ⟨q, 0, none⟩ := by
                have : b.off = 0 := by
                  rcases hoff with h | h
                  · omega
                  · exact h
                cases b; simp_all
              subst hb0
              have hll : (cur.toList.take (sLen * i.size)).length = sLen * i.size := by
                rw [List.length_take, Array.length_toList]
                rw [hrl] at hrlen
                omega
              refine ⟨cur.toList.take (sLen * i.size), run_firstCells_some w.drew i.size sLen _ sLen sCap _ hll (fun j u hu => ?_), hll, fun i' j p hp => ?_⟩
              · rw [add_plain, Nat.zero_add]
                rw [List.getElem?_take] at hu
                split at hu
                · rw [Array.getElem?_toList] at hu
                  show w.cell? ⟨q, j, none⟩ = some u
                  rw [cell_of_row w q j cur ty (0, 0) hh]
                  exact hu
                · cases hu
              · obtain ⟨u, g1, g2, g3⟩ := hcell i' j p hp
                obtain ⟨hi', hj'⟩ := at2_lt hrow hp
                refine ⟨u, ?_, g2, g3⟩
                have : (i' + 1) * i.size ≤ rs0.length * i.size := Nat.mul_le_mul_right _ hi'
                rw [Nat.succ_mul, hrl] at this
                rw [List.getElem?_take, if_pos (by omega), Array.getElem?_toList]
                exact g1
          obtain ⟨olds, hfo, hol, hoc⟩ := hfo
          obtain ⟨hWd, hEd⟩ := hW.dead hq
          obtain ⟨v, w', E', q', g1, g2, g3, g4, g5⟩ := grow (some b) sLen sCap rs0 olds hfo hol hrl hrow hoc (by omega) hroom hxv _ hWd hEd
          refine ⟨v, _, w', E', _, _, g1, .inl rfl, g3, g4, g5, hKnew q' ?_⟩
          rw [set_apply] at g2
          split at g2
          · cases g2
          · exact g2
  · cases hK

end
end Go.PM
