/-
  PM7: 'peval' is sound, operation by operation. No condition.
-/
import Derived.Test.YtelckcmlobadkaaPm6
set_option linter.unusedSimpArgs false
set_option linter.unusedVariables false
namespace Go.PM
open Go Go.RowKit

section
variable {T : Tbl} {n : Nat} {E : Env} {F : PF} {H : PH} {a : Act} {w : World}

/-- What 'execOp' makes of an operation that yields a value. -/
def ValueOf (P : Program) (o : Oper) (a : Act) (s : Sem Value) : Prop := ∀ w, (execOp a.eval o).run P w = (s.run P w).andThen fun v w' => .ok (.value v) w'

theorem build_sound {t : TypeId} {parts : Array (Nat × Operand)} {z : List PV} {pl : List (Nat × Nat × POpd)} {out : List PV} (hz : T.zero t = some z)
    (hp : (∃ fs : Array Field, T.P.underlying t = some (.struct fs) ∧ (fs.toList.mapM (fun f => (T.P.info? f.type).map fun i => (f.offset, i.size))).isSome = true ∧ T.partsOf (T.place fs) parts.toList = some pl) ∨
      (∃ k e s, T.P.underlying t = some (.array k e) ∧ T.size e = some s ∧ T.partsOf (fun i => some (i * s, s)) parts.toList = some pl))
    (ho : fillP z F pl = some out) (hA : ARel n E F a) (hN : E.num = T.num) :
    ∃ v, (Instr.build t (parts.map fun (i, x) => (i, a.eval x))).run T.P w = .ok v w ∧ RepV E (.agg out) v := by
  obtain ⟨it, zv, hit, hiz, hzr⟩ := zero_rep (E := E) hz
  rcases hp with ⟨fs, hu, hm, hpl⟩ | ⟨k, e, s, hu, hs, hpl⟩
  · obtain ⟨places, hpm⟩ := Option.isSome_iff_exists.1 hm
    obtain ⟨us, h1, h2⟩ := fill_sound hA hN _ _ _ _ _ hpl ho hzr
    refine ⟨.agg us, run_build w t _ us ?_, .agg us h2.1 h2.2.1 h2.2.2⟩
    simp only [Program.built, hit, hu, hiz, hpm]
    have hpf : (fun (x : Nat) => places.toArray[x]?) = T.place fs := by
      funext i
      rw [List.getElem?_toArray]
      exact places_sound fs places hpm i
    simp only [Array.toList_map]
    rw [hpf]
    exact h1
  · obtain ⟨us, h1, h2⟩ := fill_sound hA hN _ _ _ _ _ hpl ho hzr
    refine ⟨.agg us, run_build w t _ us ?_, .agg us h2.1 h2.2.1 h2.2.2⟩
    unfold Tbl.size at hs
    cases hie : T.P.info? e with
    | none => simp [hie] at hs
    | some ie =>
      simp [hie] at hs
      subst hs
      simp only [Program.built, hit, hu, hiz, hie, Array.toList_map]
      exact h1

theorem size_info {t : TypeId} {s : Nat} (h : T.size t = some s) : ∃ i, T.P.info? t = some i ∧ i.size = s := by
  unfold Tbl.size at h
  cases hi : T.P.info? t with
  | none => simp [hi] at h
  | some i => exact ⟨i, rfl, by simpa [hi] using h⟩

theorem run_size {t : TypeId} {s : Nat} (h : T.size t = some s) : (sizeOf t).run T.P w = .ok s w := by
  obtain ⟨i, hi, rfl⟩ := size_info h
  simp [sizeOf, typeInfo, hi]

theorem run_isAgg' {t : TypeId} {b : Bool} (h : T.isAgg t = some b) : (isAgg t).run T.P w = .ok b w := by
  unfold Tbl.isAgg at h
  split at h
  · rename_i hu; cases h; simp [isAgg, run_underlying hu]
  · rename_i hu; cases h; simp [isAgg, run_underlying hu]
  · rename_i d h1 h2 hu
    cases h
    cases d <;> first
      | exact (h1 _ rfl).elim
      | exact (h2 _ _ rfl).elim
      | (simp [isAgg, run_underlying hu]; done)
  · cases h

theorem loadAt_one {t : TypeId} {pv pq : PV} {v : Value} (ht : T.isAgg t = some false) (hW : WRel E H w) (hv : RepV E pv v) (h : loadCells H pv 1 = some [pq]) :
    ∃ u, (Instr.loadAt t v).run T.P w = .ok u w ∧ RepV E pq u := by
  obtain ⟨b, off, rfl, -, us, hl, h1, hc, hr⟩ := loadCells_sound hW hv h
  match us, hl with
  | [u], _ =>
    refine ⟨u, ?_, hr 0 pq u rfl rfl⟩
    have := hc 0 u rfl
    simp only [Nat.add_zero] at this
    simp [Instr.loadAt, Instr.sureAddr, loadVar, run_isAgg' ht, this]

theorem loadAt_many {t : TypeId} {k : Nat} {pv : PV} {cs : List PV} {v : Value} (ht : T.isAgg t = some true) (hs : T.size t = some k) (hW : WRel E H w) (hv : RepV E pv v) (h : loadCells H pv k = some cs) :
    ∃ u, (Instr.loadAt t v).run T.P w = .ok u w ∧ RepV E (.agg cs) u := by
  obtain ⟨b, off, rfl, hlen, us, hl, h1, hc, hr⟩ := loadCells_sound hW hv h
  have hload := run_loadCells_list (P := T.P) w ⟨b, off, none⟩ us (fun j u hu => by rw [add_plain]; exact hc j u hu)
  refine ⟨.agg us.toArray, ?_, .agg us.toArray (by simp [hl, hlen]) (by simpa using h1) (fun j q u hq hu => hr j q u hq (by simpa using hu))⟩
  rw [hl] at hload
  simp [Instr.loadAt, Instr.sureAddr, loadVar, run_isAgg' ht, run_size hs, hload]

end
end Go.PM
