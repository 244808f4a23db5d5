/-
  DERIVED: THE SHELF's CONTRACTS AT THIS DUMP, IN PLAIN WORDS (tools/lay-plain.mjs out of 'YtelckcmlobadkaaShelf0.lean', which tools/lay-shelf.mjs wrote): THE SAME DECLARATIONS UNDER THE SAME NAMES: 'import', 'namespace', 'open', 'def', 'theorem' AND NOTHING ELSE: no command of the shelf's: FOR A HAND-IN. Each laying: the table of numbers ('.._ren') and one theorem, a field a fact of the dump's own or the kernel's comparison; each contract: ONE APPLICATION.
-/
import Derived.Shelf.Sort.Plain
import Derived.Ground.Names2Prog
import Derived.Ground.NamesProg
import Derived.Shelf.Slices.CompactI
import Derived.Shelf.Slices.In.SortNone
import Derived.Test.YtelckcmlobadkaaProg
set_option linter.unusedSimpArgs false
set_option linter.unusedVariables false
namespace Go.Proofs
open Go.Shelf
def Try.laysSort_ren : Go.Shelf.Ren := ⟨fun | 189 => 13 | 125 => 17 | 257 => 16 | 128 => 27 | 129 => 28 | 294 => 18 | 295 => 19 | 296 => 20 | 297 => 21 | 298 => 22 | 299 => 23 | 216 => 24 | 300 => 25 | 301 => 26 | 328 => 29 | 329 => 30 | 330 => 31 | 331 => 32 | 332 => 33 | 215 => 34 | 343 => 35 | n => n, fun | 28 => 26 | 3 => 3 | 46 => 45 | 0 => 0 | 51 => 55 | 53 => 57 | 4 => 4 | 183 => 48 | 182 => 47 | 131 => 35 | 5 => 5 | 9 => 9 | 218 => 58 | 222 => 62 | 228 => 65 | 229 => 66 | n => n, fun | n => n⟩
theorem Try.laysSort : Go.Proofs.Lays.n189 Try.prog Try.laysSort_ren := {
  mixed := by kernel_rfl
  f125 := Try.func17.trans (congrArg some (by kernel_rfl))
  f128 := Try.func27.trans (congrArg some (by kernel_rfl))
  f129 := Try.func28.trans (congrArg some (by kernel_rfl))
  f189 := Try.func13.trans (congrArg some (by kernel_rfl))
  f215 := Try.func34.trans (congrArg some (by kernel_rfl))
  f216 := Try.func24.trans (congrArg some (by kernel_rfl))
  f257 := Try.func16.trans (congrArg some (by kernel_rfl))
  f294 := Try.func18.trans (congrArg some (by kernel_rfl))
  f295 := Try.func19.trans (congrArg some (by kernel_rfl))
  f296 := Try.func20.trans (congrArg some (by kernel_rfl))
  f297 := Try.func21.trans (congrArg some (by kernel_rfl))
  f298 := Try.func22.trans (congrArg some (by kernel_rfl))
  f299 := Try.func23.trans (congrArg some (by kernel_rfl))
  f300 := Try.func25.trans (congrArg some (by kernel_rfl))
  f301 := Try.func26.trans (congrArg some (by kernel_rfl))
  f328 := Try.func29.trans (congrArg some (by kernel_rfl))
  f329 := Try.func30.trans (congrArg some (by kernel_rfl))
  f330 := Try.func31.trans (congrArg some (by kernel_rfl))
  f331 := Try.func32.trans (congrArg some (by kernel_rfl))
  f332 := Try.func33.trans (congrArg some (by kernel_rfl))
  f343 := Try.func35.trans (congrArg some (by kernel_rfl))
  t0 := Try.underlying0
  a0 := Try.isAgg0
  z0 := Try.sizeOf0
  v0 := Try.zeroValue0
  t3 := Try.underlying3
  a3 := Try.isAgg3
  z3 := Try.sizeOf3
  v3 := Try.zeroValue3
  t4 := Try.underlying4
  a4 := Try.isAgg4
  z4 := Try.sizeOf4
  v4 := Try.zeroValue4
  t5 := Try.underlying5
  a5 := Try.isAgg5
  z5 := Try.sizeOf5
  v5 := Try.zeroValue5
  t9 := Try.underlying9
  a9 := Try.isAgg9
  z9 := Try.sizeOf9
  v9 := Try.zeroValue9
  t28 := Try.underlying26
  a28 := Try.isAgg26
  z28 := Try.sizeOf26
  v28 := Try.zeroValue26
  t46 := Try.underlying45
  a46 := Try.isAgg45
  z46 := Try.sizeOf45
  v46 := Try.zeroValue45
  t51 := Try.underlying55
  a51 := Try.isAgg55
  z51 := Try.sizeOf55
  v51 := Try.zeroValue55
  t53 := Try.underlying57
  a53 := Try.isAgg57
  z53 := Try.sizeOf57
  v53 := Try.zeroValue57
  t131 := Try.underlying35
  a131 := Try.isAgg35
  z131 := Try.sizeOf35
  v131 := Try.zeroValue35
  t182 := Try.underlying47
  a182 := Try.isAgg47
  z182 := Try.sizeOf47
  v182 := Try.zeroValue47
  t183 := Try.underlying48
  a183 := Try.isAgg48
  z183 := Try.sizeOf48
  v183 := Try.zeroValue48
  t218 := Try.underlying58
  a218 := Try.isAgg58
  z218 := Try.sizeOf58
  v218 := Try.zeroValue58
  t222 := Try.underlying62
  a222 := Try.isAgg62
  z222 := Try.sizeOf62
  v222 := Try.zeroValue62
  t228 := Try.underlying65
  a228 := Try.isAgg65
  z228 := Try.sizeOf65
  v228 := Try.zeroValue65
  t229 := Try.underlying66
  a229 := Try.isAgg66
  z229 := Try.sizeOf66
  v229 := Try.zeroValue66 }
def Try.laysCompact_ren : Go.Shelf.Ren := ⟨fun | 20 => 14 | n => n, fun | 22 => 26 | 3 => 3 | 4 => 4 | 0 => 0 | n => n, fun | n => n⟩
theorem Try.laysCompact : Go.Proofs.Lays2.n20 Try.prog Try.laysCompact_ren := {
  mixed := by kernel_rfl
  f20 := Try.func14.trans (congrArg some (by kernel_rfl))
  t0 := Try.underlying0
  a0 := Try.isAgg0
  z0 := Try.sizeOf0
  v0 := Try.zeroValue0
  t3 := Try.underlying3
  a3 := Try.isAgg3
  z3 := Try.sizeOf3
  v3 := Try.zeroValue3
  t4 := Try.underlying4
  a4 := Try.isAgg4
  z4 := Try.sizeOf4
  v4 := Try.zeroValue4
  t22 := Try.underlying26
  a22 := Try.isAgg26
  z22 := Try.sizeOf26
  v22 := Try.zeroValue26
  i3 := by kernel_rfl }
end Go.Proofs
