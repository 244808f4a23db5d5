/-
  PM29: more rules for 'simp': structs, stores, objects. No condition.
-/
import Derived.Test.YtelckcmlobadkaaPm27
set_option linter.unusedSimpArgs false
set_option linter.unusedVariables false
namespace Go.PM
open Go

attribute [go_sem] fillP fillRows setCells PV.cells PV.one wpWrite storeAt allocOf loadCells viewRows bnd PV.slice PV.intOf PV.eqs PV.eq1 PV.un keyOf KS.of KS.ofs KS.sh List.all_cons List.all_nil List.set_cons_zero List.set_cons_succ Bool.true_and Bool.and_true Bool.false_and Bool.and_false List.all_eq_true Bool.and_self
attribute [go_sem] Bool.bne_false Bool.bne_true List.replicate_succ List.replicate_zero Int.le_refl Int.lt_irrefl decide_true decide_false exists_eq_left exists_eq_left' List.length_map List.length_replicate Int.toNat_natCast Int.natCast_nonneg Option.isSome_some Option.isSome_none Option.getD_some Option.getD_none decide_eq_true_eq decide_eq_false_iff_not Nat.zero_add Nat.add_zero Nat.le_refl Nat.sub_zero

section
variable {H : PH}
@[go_sem] theorem PH.set_set (o : Nat) (x y : PObj) : (H.set o x).set o y = H.set o y := PH.ext fun q => by
  simp only [hset_at]; split <;> rfl
@[go_sem] theorem hset_self (o : Nat) (x : PObj) : (H.set o x) o = some x := by simp only [hset_at, if_true]
end
end Go.PM
