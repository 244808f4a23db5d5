/-
  The code of the functions, as a program of ours printed it ('gen.lean'). No condition.
-/
import Derived.Test.YtelckcmlobadkaaPm26
set_option linter.unusedSimpArgs false
set_option linter.unusedVariables false
namespace Go.PM
open Go
-- drydock/drydocklaw25.Within
def within_r0 : List PInstr := [
  ⟨(some 4), .mv (.const (.int .i64 0)), none⟩]
def within_r1 : List PInstr := [
  ⟨(some 6), .mv (.tmp 1), none⟩,
  ⟨(some 7), .bin .lss (.tmp 6) (.const (.int .i64 1)), none⟩]
def within_r2 : List PInstr := [
  ⟨(some 4), .mv (.const (.int .i64 0)), none⟩]
def within_r3 : List PInstr := [
  ⟨(some 8), .mv (.tmp 0), none⟩,
  ⟨(some 9), .mv (.tmp 1), none⟩,
  ⟨(some 10), .bin .rem (.tmp 8) (.tmp 9), none⟩,
  ⟨(some 5), .mv (.tmp 10), none⟩]
def within_r4 : List PInstr := [
  ⟨(some 11), .mv (.tmp 5), none⟩,
  ⟨(some 12), .bin .lss (.tmp 11) (.const (.int .i64 0)), none⟩]
def within_r5 : List PInstr := [
  ⟨(some 13), .mv (.tmp 5), none⟩,
  ⟨(some 14), .mv (.tmp 1), none⟩,
  ⟨(some 15), .bin .add (.tmp 13) (.tmp 14), none⟩,
  ⟨(some 4), .mv (.tmp 15), none⟩]
def within_r6 : List PInstr := [
  ⟨(some 16), .mv (.tmp 5), none⟩,
  ⟨(some 4), .mv (.tmp 16), none⟩]
def within_body : PCode := (.seq (.region within_r0) (.seq (.seq (.region within_r1) (.cond (.tmp 7) (.seq (.region within_r2) .ret) .skip)) (.seq (.region within_r3) (.seq (.seq (.region within_r4) (.cond (.tmp 12) (.seq (.region within_r5) .ret) .skip)) (.seq (.region within_r6) .ret)))))
def within_ro : List Nat := []
def within : PFunc := ⟨2, 17, within_body, [.tmp 4]⟩
-- drydock/rollout.Step
def step_r0 : List PInstr := [
  ⟨(some 4), .box false (.tmp 1), none⟩,
  ⟨(some 6), .alloc [(.int .i64 0), (.int .i64 0)], none⟩,
  ⟨(some 7), .mv (.const (.int .i64 0)), none⟩]
def step_r1 : List PInstr := [
  ⟨(some 10), .fieldA 1 (.tmp 4), none⟩,
  ⟨(some 11), .load none (.tmp 10), none⟩,
  ⟨(some 12), .bin .lss (.tmp 11) (.const (.int .i64 0)), none⟩,
  ⟨(some 13), .mv (.tmp 12), none⟩,
  ⟨(some 14), .fieldA 1 (.tmp 4), (some (13, false))⟩,
  ⟨(some 15), .load none (.tmp 14), (some (13, false))⟩,
  ⟨(some 16), .mv (.tmp 0), (some (13, false))⟩,
  ⟨(some 17), .bin .geq (.tmp 15) (.tmp 16), (some (13, false))⟩,
  ⟨(some 18), .pick (.tmp 13) (.const (.bool true)) (.tmp 17), none⟩]
def step_r2 : List PInstr := [
  ⟨(some 19), .build [(.int .i64 0), (.int .i64 0)] [], none⟩,
  ⟨none, .store 2 (.tmp 6) (.tmp 19), none⟩,
  ⟨(some 7), .mv (.const (.int .i64 110)), none⟩]
def step_r3 : List (PInstr × Bool) := [
  (⟨(some 21), .mkmap (true, [.int .i64, .int .i64]), none⟩, true),
  (⟨(some 22), .build [(.int .i64 0), (.int .i64 0)] [(0, 1, (.const (.int .i64 1))), (1, 1, (.const (.int .i64 1)))], none⟩, true),
  (⟨none, .insert (true, [.int .i64, .int .i64]) (.tmp 21) (.tmp 22) (.const (.int .i64 2)), none⟩, true),
  (⟨(some 23), .build [(.int .i64 0), (.int .i64 0)] [(0, 1, (.const (.int .i64 2))), (1, 1, (.const (.int .i64 2)))], none⟩, true),
  (⟨none, .insert (true, [.int .i64, .int .i64]) (.tmp 21) (.tmp 23) (.const (.int .i64 3)), none⟩, true),
  (⟨(some 24), .build [(.int .i64 0), (.int .i64 0)] [(0, 1, (.const (.int .i64 3))), (1, 1, (.const (.int .i64 3)))], none⟩, true),
  (⟨none, .insert (true, [.int .i64, .int .i64]) (.tmp 21) (.tmp 24) (.const (.int .i64 1)), none⟩, true),
  (⟨(some 25), .build [(.int .i64 0), (.int .i64 0)] [(0, 1, (.const (.int .i64 3))), (1, 1, (.const (.int .i64 4)))], none⟩, true),
  (⟨none, .insert (true, [.int .i64, .int .i64]) (.tmp 21) (.tmp 25) (.const (.int .i64 5)), none⟩, true),
  (⟨(some 26), .mv (.tmp 21), none⟩, false),
  (⟨(some 27), .fieldA 0 (.tmp 4), none⟩, true),
  (⟨(some 28), .load none (.tmp 27), none⟩, true),
  (⟨(some 29), .mv (.tmp 2), none⟩, true),
  (⟨(some 30), .build [(.int .i64 0), (.int .i64 0)] [(0, 1, (.tmp 28)), (1, 1, (.tmp 29))], none⟩, true),
  (⟨(some 31), .lookup (true, [.int .i64, .int .i64]) (.int .i64 0) (.tmp 26) (.tmp 30) true, none⟩, false),
  (⟨(some 20), .mv (.tmp 31), none⟩, false),
  (⟨(some 32), .extract (.tmp 20) 0, none⟩, false),
  (⟨(some 33), .extract (.tmp 20) 1, none⟩, false),
  (⟨(some 8), .mv (.tmp 32), none⟩, false),
  (⟨(some 9), .mv (.tmp 33), none⟩, false)]
def step_r4 : List PInstr := [
  ⟨(some 40), .mv (.tmp 9), none⟩,
  ⟨(some 41), .un .not (.tmp 40), none⟩,
  ⟨(some 39), .mv (.tmp 41), none⟩]
def step_r5 : List PInstr := [
  ⟨(some 42), .build [(.int .i64 0), (.int .i64 0)] [], none⟩,
  ⟨none, .store 2 (.tmp 6) (.tmp 42), none⟩,
  ⟨(some 7), .mv (.const (.int .i64 110)), none⟩]
def step_r6 : List PInstr := [
  ⟨(some 44), .mv (.tmp 2), none⟩,
  ⟨(some 45), .bin .neq (.tmp 44) (.const (.int .i64 3)), none⟩,
  ⟨(some 43), .mv (.tmp 45), none⟩]
def step_r7 : List PInstr := [
  ⟨(some 46), .mv (.tmp 8), none⟩,
  ⟨(some 47), .fieldA 0 (.tmp 4), none⟩,
  ⟨none, .store 1 (.tmp 47) (.tmp 46), none⟩]
def step_r8 : List PInstr := [
  ⟨(some 49), .fieldA 1 (.tmp 4), none⟩,
  ⟨(some 50), .load none (.tmp 49), none⟩,
  ⟨(some 51), .mv (.tmp 0), none⟩,
  ⟨(some 52), .bin .sub (.tmp 51) (.const (.int .i64 1)), none⟩,
  ⟨(some 53), .bin .eql (.tmp 50) (.tmp 52), none⟩,
  ⟨(some 48), .mv (.tmp 53), none⟩]
def step_r9 : List PInstr := [
  ⟨(some 54), .fieldA 0 (.tmp 4), none⟩,
  ⟨none, .store 1 (.tmp 54) (.const (.int .i64 4)), none⟩]
def step_r10 : List PInstr := [
  ⟨(some 34), .mv (.tmp 8), none⟩,
  ⟨(some 35), .fieldA 1 (.tmp 4), none⟩,
  ⟨(some 36), .load none (.tmp 35), none⟩,
  ⟨(some 37), .bin .add (.tmp 36) (.const (.int .i64 1)), none⟩,
  ⟨(some 38), .build [(.int .i64 0), (.int .i64 0)] [(0, 1, (.tmp 34)), (1, 1, (.tmp 37))], none⟩,
  ⟨none, .store 2 (.tmp 4) (.tmp 38), none⟩]
def step_r11 : List PInstr := [
  ⟨(some 55), .load (some 2) (.tmp 4), none⟩,
  ⟨none, .store 2 (.tmp 6) (.tmp 55), none⟩,
  ⟨(some 7), .mv (.const (.int .i64 0)), none⟩]
def step_body : PCode := (.seq (.region step_r0) (.seq (.seq (.region step_r1) (.cond (.tmp 18) (.seq (.region step_r2) .ret) .skip)) (.seq (.draw step_r3) (.seq (.block 0 (.seq (.region step_r4) (.cond (.tmp 39) (.seq (.region step_r5) .ret) (.seq (.region step_r6) (.cond (.tmp 43) (.region step_r7) (.seq (.region step_r8) (.cond (.tmp 48) (.region step_r9) (.region step_r10)))))))) (.seq (.region step_r11) .ret)))))
def step_ro : List Nat := []
def step : PFunc := ⟨3, 56, step_body, [.cell 6 (some 2), .tmp 7]⟩
-- drydock/drydockref37.Step
def rstep_r0 : List PInstr := [
  ⟨(some 4), .box true (.tmp 1), none⟩,
  ⟨(some 6), .alloc [(.int .i64 0), (.int .i64 0)], none⟩,
  ⟨(some 7), .mv (.const (.int .i64 0)), none⟩]
def rstep_r1 : List PInstr := [
  ⟨(some 8), .fieldA 1 (.tmp 4), none⟩,
  ⟨(some 9), .load none (.tmp 8), none⟩,
  ⟨(some 10), .bin .lss (.tmp 9) (.const (.int .i64 0)), none⟩,
  ⟨(some 11), .mv (.tmp 10), none⟩,
  ⟨(some 12), .fieldA 1 (.tmp 4), (some (11, false))⟩,
  ⟨(some 13), .load none (.tmp 12), (some (11, false))⟩,
  ⟨(some 14), .mv (.tmp 0), (some (11, false))⟩,
  ⟨(some 15), .bin .geq (.tmp 13) (.tmp 14), (some (11, false))⟩,
  ⟨(some 16), .pick (.tmp 11) (.const (.bool true)) (.tmp 15), none⟩]
def rstep_r2 : List PInstr := [
  ⟨(some 17), .build [(.int .i64 0), (.int .i64 0)] [], none⟩,
  ⟨none, .store 2 (.tmp 6) (.tmp 17), none⟩,
  ⟨(some 7), .mv (.const (.int .i64 110)), none⟩]
def rstep_r3 : List PInstr := [
  ⟨(some 19), .fieldA 0 (.tmp 4), none⟩,
  ⟨(some 20), .load none (.tmp 19), none⟩,
  ⟨(some 21), .bin .eql (.tmp 20) (.const (.int .i64 1)), none⟩,
  ⟨(some 22), .mv (.tmp 21), none⟩,
  ⟨(some 23), .mv (.tmp 2), (some (22, true))⟩,
  ⟨(some 24), .bin .eql (.tmp 23) (.const (.int .i64 1)), (some (22, true))⟩,
  ⟨(some 25), .pick (.tmp 22) (.tmp 24) (.const (.bool false)), none⟩,
  ⟨(some 18), .mv (.tmp 25), none⟩]
def rstep_r4 : List PInstr := [
  ⟨(some 26), .fieldA 1 (.tmp 4), none⟩,
  ⟨(some 27), .load none (.tmp 26), none⟩,
  ⟨(some 28), .build [(.int .i64 0), (.int .i64 0)] [(0, 1, (.const (.int .i64 2))), (1, 1, (.tmp 27))], none⟩,
  ⟨none, .store 2 (.tmp 6) (.tmp 28), none⟩,
  ⟨(some 7), .mv (.const (.int .i64 0)), none⟩]
def rstep_r5 : List PInstr := [
  ⟨(some 30), .fieldA 0 (.tmp 4), none⟩,
  ⟨(some 31), .load none (.tmp 30), none⟩,
  ⟨(some 32), .bin .eql (.tmp 31) (.const (.int .i64 2)), none⟩,
  ⟨(some 33), .mv (.tmp 32), none⟩,
  ⟨(some 34), .mv (.tmp 2), (some (33, true))⟩,
  ⟨(some 35), .bin .eql (.tmp 34) (.const (.int .i64 2)), (some (33, true))⟩,
  ⟨(some 36), .pick (.tmp 33) (.tmp 35) (.const (.bool false)), none⟩,
  ⟨(some 29), .mv (.tmp 36), none⟩]
def rstep_r6 : List PInstr := [
  ⟨(some 37), .fieldA 1 (.tmp 4), none⟩,
  ⟨(some 38), .load none (.tmp 37), none⟩,
  ⟨(some 39), .build [(.int .i64 0), (.int .i64 0)] [(0, 1, (.const (.int .i64 3))), (1, 1, (.tmp 38))], none⟩,
  ⟨none, .store 2 (.tmp 6) (.tmp 39), none⟩,
  ⟨(some 7), .mv (.const (.int .i64 0)), none⟩]
def rstep_r7 : List PInstr := [
  ⟨(some 41), .fieldA 0 (.tmp 4), none⟩,
  ⟨(some 42), .load none (.tmp 41), none⟩,
  ⟨(some 43), .bin .eql (.tmp 42) (.const (.int .i64 3)), none⟩,
  ⟨(some 44), .mv (.tmp 43), none⟩,
  ⟨(some 45), .mv (.tmp 2), (some (44, true))⟩,
  ⟨(some 46), .bin .eql (.tmp 45) (.const (.int .i64 3)), (some (44, true))⟩,
  ⟨(some 47), .pick (.tmp 44) (.tmp 46) (.const (.bool false)), none⟩,
  ⟨(some 48), .mv (.tmp 47), none⟩,
  ⟨(some 49), .fieldA 1 (.tmp 4), (some (48, true))⟩,
  ⟨(some 50), .load none (.tmp 49), (some (48, true))⟩,
  ⟨(some 51), .mv (.tmp 0), (some (48, true))⟩,
  ⟨(some 52), .bin .sub (.tmp 51) (.const (.int .i64 1)), (some (48, true))⟩,
  ⟨(some 53), .bin .eql (.tmp 50) (.tmp 52), (some (48, true))⟩,
  ⟨(some 54), .pick (.tmp 48) (.tmp 53) (.const (.bool false)), none⟩,
  ⟨(some 40), .mv (.tmp 54), none⟩]
def rstep_r8 : List PInstr := [
  ⟨(some 55), .fieldA 1 (.tmp 4), none⟩,
  ⟨(some 56), .load none (.tmp 55), none⟩,
  ⟨(some 57), .build [(.int .i64 0), (.int .i64 0)] [(0, 1, (.const (.int .i64 4))), (1, 1, (.tmp 56))], none⟩,
  ⟨none, .store 2 (.tmp 6) (.tmp 57), none⟩,
  ⟨(some 7), .mv (.const (.int .i64 0)), none⟩]
def rstep_r9 : List PInstr := [
  ⟨(some 59), .fieldA 0 (.tmp 4), none⟩,
  ⟨(some 60), .load none (.tmp 59), none⟩,
  ⟨(some 61), .bin .eql (.tmp 60) (.const (.int .i64 3)), none⟩,
  ⟨(some 62), .mv (.tmp 61), none⟩,
  ⟨(some 63), .mv (.tmp 2), (some (62, true))⟩,
  ⟨(some 64), .bin .eql (.tmp 63) (.const (.int .i64 3)), (some (62, true))⟩,
  ⟨(some 65), .pick (.tmp 62) (.tmp 64) (.const (.bool false)), none⟩,
  ⟨(some 58), .mv (.tmp 65), none⟩]
def rstep_r10 : List PInstr := [
  ⟨(some 66), .fieldA 1 (.tmp 4), none⟩,
  ⟨(some 67), .load none (.tmp 66), none⟩,
  ⟨(some 68), .bin .add (.tmp 67) (.const (.int .i64 1)), none⟩,
  ⟨(some 69), .build [(.int .i64 0), (.int .i64 0)] [(0, 1, (.const (.int .i64 1))), (1, 1, (.tmp 68))], none⟩,
  ⟨none, .store 2 (.tmp 6) (.tmp 69), none⟩,
  ⟨(some 7), .mv (.const (.int .i64 0)), none⟩]
def rstep_r11 : List PInstr := [
  ⟨(some 71), .fieldA 0 (.tmp 4), none⟩,
  ⟨(some 72), .load none (.tmp 71), none⟩,
  ⟨(some 73), .bin .eql (.tmp 72) (.const (.int .i64 3)), none⟩,
  ⟨(some 74), .mv (.tmp 73), none⟩,
  ⟨(some 75), .mv (.tmp 2), (some (74, true))⟩,
  ⟨(some 76), .bin .eql (.tmp 75) (.const (.int .i64 4)), (some (74, true))⟩,
  ⟨(some 77), .pick (.tmp 74) (.tmp 76) (.const (.bool false)), none⟩,
  ⟨(some 70), .mv (.tmp 77), none⟩]
def rstep_r12 : List PInstr := [
  ⟨(some 78), .fieldA 1 (.tmp 4), none⟩,
  ⟨(some 79), .load none (.tmp 78), none⟩,
  ⟨(some 80), .build [(.int .i64 0), (.int .i64 0)] [(0, 1, (.const (.int .i64 5))), (1, 1, (.tmp 79))], none⟩,
  ⟨none, .store 2 (.tmp 6) (.tmp 80), none⟩,
  ⟨(some 7), .mv (.const (.int .i64 0)), none⟩]
def rstep_r13 : List PInstr := [
  ⟨(some 81), .build [(.int .i64 0), (.int .i64 0)] [], none⟩,
  ⟨none, .store 2 (.tmp 6) (.tmp 81), none⟩,
  ⟨(some 7), .mv (.const (.int .i64 110)), none⟩]
def rstep_body : PCode := (.seq (.region rstep_r0) (.seq (.seq (.region rstep_r1) (.cond (.tmp 16) (.seq (.region rstep_r2) .ret) .skip)) (.seq (.block 0 (.seq (.region rstep_r3) (.cond (.tmp 18) (.seq (.region rstep_r4) .ret) (.seq (.region rstep_r5) (.cond (.tmp 29) (.seq (.region rstep_r6) .ret) (.seq (.region rstep_r7) (.cond (.tmp 40) (.seq (.region rstep_r8) .ret) (.seq (.region rstep_r9) (.cond (.tmp 58) (.seq (.region rstep_r10) .ret) (.seq (.region rstep_r11) (.cond (.tmp 70) (.seq (.region rstep_r12) .ret) .skip))))))))))) (.seq (.region rstep_r13) .ret))))
def rstep_ro : List Nat := [4]
def rstep : PFunc := ⟨3, 82, rstep_body, [.cell 6 (some 2), .tmp 7]⟩
-- drydock/drydockref27.SameInts
def same_r0 : List PInstr := [
  ⟨(some 4), .mv (.const (.bool false)), none⟩]
def same_r1 : List PInstr := [
  ⟨(some 6), .mv (.tmp 0), none⟩,
  ⟨(some 7), .len (.tmp 6), none⟩,
  ⟨(some 8), .mv (.tmp 1), none⟩,
  ⟨(some 9), .len (.tmp 8), none⟩,
  ⟨(some 10), .bin .neq (.tmp 7) (.tmp 9), none⟩]
def same_r2 : List PInstr := [
  ⟨(some 4), .mv (.const (.bool false)), none⟩]
def same_r3 : List PInstr := [
  ⟨(some 5), .mv (.const (.int .i64 0)), none⟩]
def same_r4 : List PInstr := [
  ⟨(some 11), .mv (.tmp 5), none⟩,
  ⟨(some 12), .mv (.tmp 0), none⟩,
  ⟨(some 13), .len (.tmp 12), none⟩,
  ⟨(some 14), .bin .lss (.tmp 11) (.tmp 13), none⟩]
def same_r5 : List (PInstr × Bool) := [
  (⟨(some 17), .mv (.tmp 0), none⟩, false),
  (⟨(some 18), .mv (.tmp 5), none⟩, false),
  (⟨(some 19), .idxS 1 (.tmp 17) (.tmp 18), none⟩, false),
  (⟨(some 20), .load none (.tmp 19), none⟩, false),
  (⟨(some 21), .mv (.tmp 1), none⟩, false),
  (⟨(some 22), .mv (.tmp 5), none⟩, false),
  (⟨(some 23), .idxS 1 (.tmp 21) (.tmp 22), none⟩, false),
  (⟨(some 24), .load none (.tmp 23), none⟩, false),
  (⟨(some 25), .bin .neq (.tmp 20) (.tmp 24), none⟩, false)]
def same_r6 : List PInstr := [
  ⟨(some 4), .mv (.const (.bool false)), none⟩]
def same_r7 : List PInstr := [
  ⟨(some 15), .mv (.tmp 5), none⟩,
  ⟨(some 16), .bin .add (.tmp 15) (.const (.int .i64 1)), none⟩,
  ⟨(some 5), .mv (.tmp 16), none⟩]
def same_l8 : PCode := (.seq (.seq (.region same_r4) (.cond (.tmp 14) .skip (.exit 0))) (.seq (.block 1 (.seq (.draw same_r5) (.cond (.tmp 25) (.seq (.region same_r6) .ret) .skip))) (.region same_r7)))
def same_r9 : List PInstr := [
  ⟨(some 4), .mv (.const (.bool true)), none⟩]
def same_body : PCode := (.seq (.region same_r0) (.seq (.seq (.region same_r1) (.cond (.tmp 10) (.seq (.region same_r2) .ret) .skip)) (.seq (.seq (.region same_r3) (.block 0 (.loop same_l8))) (.seq (.region same_r9) .ret))))
def same_ro : List Nat := []
def same : PFunc := ⟨2, 26, same_body, [.tmp 4]⟩
-- drydock/rollout.Updated
def upd8_r0 : List PInstr := [
  ⟨(some 3), .box true (.tmp 1), none⟩,
  ⟨(some 4), .mv (.const .nils), none⟩]
def upd8_r1 : List PInstr := [
  ⟨(some 7), .fieldA 0 (.tmp 3), none⟩,
  ⟨(some 8), .load none (.tmp 7), none⟩,
  ⟨(some 9), .bin .lss (.tmp 8) (.const (.int .i64 1)), none⟩,
  ⟨(some 10), .mv (.tmp 9), none⟩,
  ⟨(some 11), .fieldA 0 (.tmp 3), (some (10, false))⟩,
  ⟨(some 12), .load none (.tmp 11), (some (10, false))⟩,
  ⟨(some 13), .bin .gtr (.tmp 12) (.const (.int .i64 5)), (some (10, false))⟩,
  ⟨(some 14), .pick (.tmp 10) (.const (.bool true)) (.tmp 13), none⟩,
  ⟨(some 15), .mv (.tmp 14), none⟩,
  ⟨(some 16), .fieldA 1 (.tmp 3), (some (15, false))⟩,
  ⟨(some 17), .load none (.tmp 16), (some (15, false))⟩,
  ⟨(some 18), .bin .lss (.tmp 17) (.const (.int .i64 0)), (some (15, false))⟩,
  ⟨(some 19), .pick (.tmp 15) (.const (.bool true)) (.tmp 18), none⟩]
def upd8_r2 : List PInstr := [
  ⟨(some 4), .mv (.const .nils), none⟩]
def upd8_r3 : List PInstr := [
  ⟨(some 20), .fieldA 1 (.tmp 3), none⟩,
  ⟨(some 21), .load none (.tmp 20), none⟩,
  ⟨(some 22), .mv (.tmp 0), none⟩,
  ⟨(some 23), .len (.tmp 22), none⟩,
  ⟨(some 24), .minmax false (.tmp 21) (.tmp 23), none⟩,
  ⟨(some 5), .mv (.tmp 24), none⟩]
def upd8_r4 : List PInstr := [
  ⟨(some 25), .mv (.tmp 5), none⟩,
  ⟨(some 26), .mv (.tmp 0), none⟩,
  ⟨(some 27), .len (.tmp 26), none⟩,
  ⟨(some 28), .bin .lss (.tmp 25) (.tmp 27), none⟩,
  ⟨(some 29), .mv (.tmp 28), none⟩,
  ⟨(some 30), .fieldA 0 (.tmp 3), (some (29, true))⟩,
  ⟨(some 31), .load none (.tmp 30), (some (29, true))⟩,
  ⟨(some 32), .bin .eql (.tmp 31) (.const (.int .i64 3)), (some (29, true))⟩,
  ⟨(some 33), .mv (.tmp 32), (some (29, true))⟩,
  ⟨(some 34), .fieldA 0 (.tmp 3), (some (33, false))⟩,
  ⟨(some 35), .load none (.tmp 34), (some (33, false))⟩,
  ⟨(some 36), .bin .eql (.tmp 35) (.const (.int .i64 4)), (some (33, false))⟩,
  ⟨(some 37), .pick (.tmp 33) (.const (.bool true)) (.tmp 36), (some (29, true))⟩,
  ⟨(some 38), .pick (.tmp 29) (.tmp 37) (.const (.bool false)), none⟩]
def upd8_r5 : List PInstr := [
  ⟨(some 39), .mv (.tmp 5), none⟩,
  ⟨(some 40), .bin .add (.tmp 39) (.const (.int .i64 1)), none⟩,
  ⟨(some 5), .mv (.tmp 40), none⟩]
def upd8_r6 : List PInstr := [
  ⟨(some 41), .mv (.tmp 0), none⟩,
  ⟨(some 42), .mv (.tmp 5), none⟩,
  ⟨(some 43), .slice 1 (.tmp 41) none (some (.tmp 42)) none, none⟩,
  ⟨(some 44), .call 178 [(.tmp 43)], none⟩,
  ⟨(some 6), .mv (.tmp 44), none⟩]
def upd8_r7 : List PInstr := [
  ⟨(some 45), .mv (.tmp 6), none⟩,
  ⟨(some 46), .call 180 [(.tmp 45)], none⟩]
def upd8_r8 : List PInstr := [
  ⟨(some 47), .mv (.tmp 6), none⟩,
  ⟨(some 48), .call 177 [(.tmp 47)], none⟩,
  ⟨(some 4), .mv (.tmp 48), none⟩]
def upd8_body : PCode := (.seq (.region upd8_r0) (.seq (.seq (.region upd8_r1) (.cond (.tmp 19) (.seq (.region upd8_r2) .ret) .skip)) (.seq (.region upd8_r3) (.seq (.seq (.region upd8_r4) (.cond (.tmp 38) (.region upd8_r5) .skip)) (.seq (.region upd8_r6) (.seq (.region upd8_r7) (.seq (.region upd8_r8) .ret)))))))
def upd8_ro : List Nat := [3]
def upd8 : PFunc := ⟨2, 49, upd8_body, [.tmp 4]⟩
-- drydock/drydockref37.Updated
def rupd_r0 : List PInstr := [
  ⟨(some 3), .box true (.tmp 1), none⟩,
  ⟨(some 4), .mv (.const .nils), none⟩]
def rupd_r1 : List PInstr := [
  ⟨(some 5), .mv (.const .nils), none⟩]
def rupd_r2 : List PInstr := [
  ⟨(some 9), .fieldA 0 (.tmp 3), none⟩,
  ⟨(some 10), .load none (.tmp 9), none⟩,
  ⟨(some 11), .bin .lss (.tmp 10) (.const (.int .i64 1)), none⟩,
  ⟨(some 12), .mv (.tmp 11), none⟩,
  ⟨(some 13), .fieldA 0 (.tmp 3), (some (12, false))⟩,
  ⟨(some 14), .load none (.tmp 13), (some (12, false))⟩,
  ⟨(some 15), .bin .gtr (.tmp 14) (.const (.int .i64 5)), (some (12, false))⟩,
  ⟨(some 16), .pick (.tmp 12) (.const (.bool true)) (.tmp 15), none⟩,
  ⟨(some 17), .mv (.tmp 16), none⟩,
  ⟨(some 18), .fieldA 1 (.tmp 3), (some (17, false))⟩,
  ⟨(some 19), .load none (.tmp 18), (some (17, false))⟩,
  ⟨(some 20), .bin .lss (.tmp 19) (.const (.int .i64 0)), (some (17, false))⟩,
  ⟨(some 21), .pick (.tmp 17) (.const (.bool true)) (.tmp 20), none⟩]
def rupd_r3 : List PInstr := [
  ⟨(some 4), .mv (.const .nils), none⟩]
def rupd_r4 : List PInstr := [
  ⟨(some 6), .mv (.const (.int .i64 0)), none⟩]
def rupd_r5 : List PInstr := [
  ⟨(some 22), .mv (.tmp 6), none⟩,
  ⟨(some 23), .mv (.tmp 0), none⟩,
  ⟨(some 24), .len (.tmp 23), none⟩,
  ⟨(some 25), .bin .lss (.tmp 22) (.tmp 24), none⟩,
  ⟨(some 26), .mv (.tmp 25), none⟩,
  ⟨(some 27), .mv (.tmp 6), (some (26, true))⟩,
  ⟨(some 28), .fieldA 1 (.tmp 3), (some (26, true))⟩,
  ⟨(some 29), .load none (.tmp 28), (some (26, true))⟩,
  ⟨(some 30), .bin .leq (.tmp 27) (.tmp 29), (some (26, true))⟩,
  ⟨(some 31), .pick (.tmp 26) (.tmp 30) (.const (.bool false)), none⟩]
def rupd_r6 : List PInstr := [
  ⟨(some 34), .mv (.tmp 6), none⟩,
  ⟨(some 35), .fieldA 1 (.tmp 3), none⟩,
  ⟨(some 36), .load none (.tmp 35), none⟩,
  ⟨(some 37), .bin .eql (.tmp 34) (.tmp 36), none⟩,
  ⟨(some 38), .mv (.tmp 37), none⟩,
  ⟨(some 39), .fieldA 0 (.tmp 3), (some (38, true))⟩,
  ⟨(some 40), .load none (.tmp 39), (some (38, true))⟩,
  ⟨(some 41), .bin .neq (.tmp 40) (.const (.int .i64 3)), (some (38, true))⟩,
  ⟨(some 42), .pick (.tmp 38) (.tmp 41) (.const (.bool false)), none⟩,
  ⟨(some 43), .mv (.tmp 42), none⟩,
  ⟨(some 44), .fieldA 0 (.tmp 3), (some (43, true))⟩,
  ⟨(some 45), .load none (.tmp 44), (some (43, true))⟩,
  ⟨(some 46), .bin .neq (.tmp 45) (.const (.int .i64 4)), (some (43, true))⟩,
  ⟨(some 47), .pick (.tmp 43) (.tmp 46) (.const (.bool false)), none⟩]
def rupd_r7 : List PInstr := [
  ⟨(some 7), .mv (.const (.int .i64 0)), none⟩]
def rupd_r8 : List PInstr := [
  ⟨(some 48), .mv (.tmp 7), none⟩,
  ⟨(some 49), .mv (.tmp 0), none⟩,
  ⟨(some 50), .mv (.tmp 6), none⟩,
  ⟨(some 51), .idxS 1 (.tmp 49) (.tmp 50), none⟩,
  ⟨(some 52), .load none (.tmp 51), none⟩,
  ⟨(some 53), .len (.tmp 52), none⟩,
  ⟨(some 54), .bin .lss (.tmp 48) (.tmp 53), none⟩]
def rupd_r9 : List PInstr := [
  ⟨(some 8), .mv (.const (.int .i64 0)), none⟩]
def rupd_r10 : List (PInstr × Bool) := [
  (⟨(some 57), .mv (.tmp 8), none⟩, false),
  (⟨(some 58), .mv (.tmp 5), none⟩, false),
  (⟨(some 59), .len (.tmp 58), none⟩, false),
  (⟨(some 60), .bin .lss (.tmp 57) (.tmp 59), none⟩, false),
  (⟨(some 61), .mv (.tmp 60), none⟩, false),
  (⟨(some 62), .mv (.tmp 5), (some (61, true))⟩, false),
  (⟨(some 63), .mv (.tmp 8), (some (61, true))⟩, false),
  (⟨(some 64), .idxS 1 (.tmp 62) (.tmp 63), (some (61, true))⟩, false),
  (⟨(some 65), .load none (.tmp 64), (some (61, true))⟩, false),
  (⟨(some 66), .mv (.tmp 0), (some (61, true))⟩, false),
  (⟨(some 67), .mv (.tmp 6), (some (61, true))⟩, false),
  (⟨(some 68), .idxS 1 (.tmp 66) (.tmp 67), (some (61, true))⟩, false),
  (⟨(some 69), .load none (.tmp 68), (some (61, true))⟩, false),
  (⟨(some 70), .mv (.tmp 7), (some (61, true))⟩, false),
  (⟨(some 71), .idxS 1 (.tmp 69) (.tmp 70), (some (61, true))⟩, false),
  (⟨(some 72), .load none (.tmp 71), (some (61, true))⟩, false),
  (⟨(some 73), .bin .lss (.tmp 65) (.tmp 72), (some (61, true))⟩, false),
  (⟨(some 74), .pick (.tmp 61) (.tmp 73) (.const (.bool false)), none⟩, false)]
def rupd_r11 : List PInstr := [
  ⟨(some 75), .mv (.tmp 8), none⟩,
  ⟨(some 76), .bin .add (.tmp 75) (.const (.int .i64 1)), none⟩,
  ⟨(some 8), .mv (.tmp 76), none⟩]
def rupd_l12 : PCode := (.seq (.seq (.draw rupd_r10) (.cond (.tmp 74) .skip (.exit 4))) (.block 5 (.region rupd_r11)))
def rupd_r13 : List (PInstr × Bool) := [
  (⟨(some 77), .mv (.tmp 8), none⟩, false),
  (⟨(some 78), .mv (.tmp 5), none⟩, false),
  (⟨(some 79), .len (.tmp 78), none⟩, false),
  (⟨(some 80), .bin .lss (.tmp 77) (.tmp 79), none⟩, false),
  (⟨(some 81), .mv (.tmp 80), none⟩, false),
  (⟨(some 82), .mv (.tmp 5), (some (81, true))⟩, false),
  (⟨(some 83), .mv (.tmp 8), (some (81, true))⟩, false),
  (⟨(some 84), .idxS 1 (.tmp 82) (.tmp 83), (some (81, true))⟩, false),
  (⟨(some 85), .load none (.tmp 84), (some (81, true))⟩, false),
  (⟨(some 86), .mv (.tmp 0), (some (81, true))⟩, false),
  (⟨(some 87), .mv (.tmp 6), (some (81, true))⟩, false),
  (⟨(some 88), .idxS 1 (.tmp 86) (.tmp 87), (some (81, true))⟩, false),
  (⟨(some 89), .load none (.tmp 88), (some (81, true))⟩, false),
  (⟨(some 90), .mv (.tmp 7), (some (81, true))⟩, false),
  (⟨(some 91), .idxS 1 (.tmp 89) (.tmp 90), (some (81, true))⟩, false),
  (⟨(some 92), .load none (.tmp 91), (some (81, true))⟩, false),
  (⟨(some 93), .bin .eql (.tmp 85) (.tmp 92), (some (81, true))⟩, false),
  (⟨(some 94), .pick (.tmp 81) (.tmp 93) (.const (.bool false)), none⟩, false)]
def rupd_r14 : List (PInstr × Bool) := [
  (⟨(some 95), .mv (.tmp 5), none⟩, false),
  (⟨(some 96), .mv (.tmp 8), none⟩, false),
  (⟨(some 97), .slice 1 (.tmp 95) none (some (.tmp 96)) none, none⟩, false),
  (⟨(some 98), .append 1 8 (.const .nils) (.tmp 97), none⟩, true),
  (⟨(some 99), .mv (.tmp 0), none⟩, true),
  (⟨(some 100), .mv (.tmp 6), none⟩, true),
  (⟨(some 101), .idxS 1 (.tmp 99) (.tmp 100), none⟩, true),
  (⟨(some 102), .load none (.tmp 101), none⟩, true),
  (⟨(some 103), .mv (.tmp 7), none⟩, true),
  (⟨(some 104), .idxS 1 (.tmp 102) (.tmp 103), none⟩, true),
  (⟨(some 105), .load none (.tmp 104), none⟩, true),
  (⟨(some 106), .bslice true 1 1 [(.int .i64 0)] [(0, (.tmp 105))], none⟩, true),
  (⟨(some 107), .append 1 8 (.tmp 98) (.tmp 106), none⟩, true),
  (⟨(some 108), .mv (.tmp 5), none⟩, true),
  (⟨(some 109), .mv (.tmp 8), none⟩, true),
  (⟨(some 110), .slice 1 (.tmp 108) (some (.tmp 109)) none none, none⟩, true),
  (⟨(some 111), .append 1 8 (.tmp 107) (.tmp 110), none⟩, true),
  (⟨(some 5), .mv (.tmp 111), none⟩, false)]
def rupd_r15 : List PInstr := [
  ⟨(some 55), .mv (.tmp 7), none⟩,
  ⟨(some 56), .bin .add (.tmp 55) (.const (.int .i64 1)), none⟩,
  ⟨(some 7), .mv (.tmp 56), none⟩]
def rupd_l16 : PCode := (.seq (.seq (.region rupd_r8) (.cond (.tmp 54) .skip (.exit 2))) (.seq (.block 3 (.seq (.region rupd_r9) (.seq (.block 4 (.loop rupd_l12)) (.seq (.seq (.draw rupd_r13) (.cond (.tmp 94) (.exit 3) .skip)) (.draw rupd_r14))))) (.region rupd_r15)))
def rupd_r17 : List PInstr := [
  ⟨(some 32), .mv (.tmp 6), none⟩,
  ⟨(some 33), .bin .add (.tmp 32) (.const (.int .i64 1)), none⟩,
  ⟨(some 6), .mv (.tmp 33), none⟩]
def rupd_l18 : PCode := (.seq (.seq (.region rupd_r5) (.cond (.tmp 31) .skip (.exit 0))) (.seq (.block 1 (.seq (.seq (.region rupd_r6) (.cond (.tmp 47) (.exit 0) .skip)) (.seq (.region rupd_r7) (.block 2 (.loop rupd_l16))))) (.region rupd_r17)))
def rupd_r19 : List PInstr := [
  ⟨(some 112), .mv (.tmp 5), none⟩,
  ⟨(some 4), .mv (.tmp 112), none⟩]
def rupd_body : PCode := (.seq (.region rupd_r0) (.seq (.region rupd_r1) (.seq (.seq (.region rupd_r2) (.cond (.tmp 21) (.seq (.region rupd_r3) .ret) .skip)) (.seq (.seq (.region rupd_r4) (.block 0 (.loop rupd_l18))) (.seq (.region rupd_r19) .ret)))))
def rupd_ro : List Nat := [3, 106]
def rupd : PFunc := ⟨2, 113, rupd_body, [.tmp 4]⟩
-- drydock/rollout.Begin
def begin_r0 : List PInstr := [
  ⟨(some 2), .alloc [(.int .i64 0), (.int .i64 0)], none⟩]
def begin_r1 : List PInstr := [
  ⟨(some 3), .mv (.tmp 0), none⟩,
  ⟨(some 4), .bin .lss (.tmp 3) (.const (.int .i64 1)), none⟩]
def begin_r2 : List PInstr := [
  ⟨(some 5), .build [(.int .i64 0), (.int .i64 0)] [(0, 1, (.const (.int .i64 4)))], none⟩,
  ⟨none, .store 2 (.tmp 2) (.tmp 5), none⟩]
def begin_r3 : List PInstr := [
  ⟨(some 6), .build [(.int .i64 0), (.int .i64 0)] [(0, 1, (.const (.int .i64 1)))], none⟩,
  ⟨none, .store 2 (.tmp 2) (.tmp 6), none⟩]
def begin_body : PCode := (.seq (.region begin_r0) (.seq (.seq (.region begin_r1) (.cond (.tmp 4) (.seq (.region begin_r2) .ret) .skip)) (.seq (.region begin_r3) .ret)))
def begin_ro : List Nat := []
def begin : PFunc := ⟨1, 7, begin_body, [.cell 2 (some 2)]⟩
-- slices.Concat[[]int,int]
def concat_r0 : List PInstr := [
  ⟨(some 2), .mv (.const .nils), none⟩]
def concat_r1 : List PInstr := [
  ⟨(some 3), .mv (.const (.int .i64 0)), none⟩]
def concat_r2 : List PInstr := [
  ⟨(some 9), .mv (.tmp 0), none⟩,
  ⟨(some 10), .len (.tmp 9), none⟩,
  ⟨(some 11), .mv (.const (.int .i64 0)), none⟩]
def concat_r3 : List PInstr := [
  ⟨(some 12), .bin .lss (.tmp 11) (.tmp 10), none⟩]
def concat_r4 : List PInstr := [
  ⟨(some 13), .idxS 1 (.tmp 9) (.tmp 11), none⟩,
  ⟨(some 14), .load none (.tmp 13), none⟩,
  ⟨(some 5), .mv (.tmp 14), none⟩]
def concat_r5 : List PInstr := [
  ⟨(some 15), .mv (.tmp 3), none⟩,
  ⟨(some 16), .mv (.tmp 5), none⟩,
  ⟨(some 17), .len (.tmp 16), none⟩,
  ⟨(some 18), .bin .add (.tmp 15) (.tmp 17), none⟩,
  ⟨(some 3), .mv (.tmp 18), none⟩]
def concat_r6 : List PInstr := [
  ⟨(some 19), .mv (.tmp 3), none⟩,
  ⟨(some 20), .bin .lss (.tmp 19) (.const (.int .i64 0)), none⟩]
def concat_r7 : List PInstr := [
  ⟨(some 21), .stuck, none⟩,
  ⟨none, .stuck, none⟩]
def concat_r8 : List PInstr := [
  ⟨(some 22), .bin .add (.tmp 11) (.const (.int .i64 1)), none⟩,
  ⟨(some 11), .mv (.tmp 22), none⟩]
def concat_l9 : PCode := (.seq (.region concat_r3) (.seq (.cond (.tmp 12) .skip (.exit 0)) (.seq (.block 1 (.seq (.region concat_r4) (.seq (.region concat_r5) (.seq (.region concat_r6) (.cond (.tmp 20) (.region concat_r7) .skip))))) (.region concat_r8))))
def concat_r10 : List PInstr := [
  ⟨(some 23), .mv (.tmp 3), none⟩,
  ⟨(some 24), .call 179 [(.const .nils), (.tmp 23)], none⟩,
  ⟨(some 6), .mv (.tmp 24), none⟩]
def concat_r11 : List PInstr := [
  ⟨(some 25), .mv (.tmp 0), none⟩,
  ⟨(some 26), .len (.tmp 25), none⟩,
  ⟨(some 27), .mv (.const (.int .i64 0)), none⟩]
def concat_r12 : List PInstr := [
  ⟨(some 28), .bin .lss (.tmp 27) (.tmp 26), none⟩]
def concat_r13 : List PInstr := [
  ⟨(some 29), .idxS 1 (.tmp 25) (.tmp 27), none⟩,
  ⟨(some 30), .load none (.tmp 29), none⟩,
  ⟨(some 8), .mv (.tmp 30), none⟩]
def concat_r14 : List PInstr := [
  ⟨(some 31), .mv (.tmp 6), none⟩,
  ⟨(some 32), .mv (.tmp 8), none⟩,
  ⟨(some 33), .append 1 8 (.tmp 31) (.tmp 32), none⟩,
  ⟨(some 6), .mv (.tmp 33), none⟩]
def concat_r15 : List PInstr := [
  ⟨(some 34), .bin .add (.tmp 27) (.const (.int .i64 1)), none⟩,
  ⟨(some 27), .mv (.tmp 34), none⟩]
def concat_l16 : PCode := (.seq (.region concat_r12) (.seq (.cond (.tmp 28) .skip (.exit 2)) (.seq (.block 3 (.seq (.region concat_r13) (.region concat_r14))) (.region concat_r15))))
def concat_r17 : List PInstr := [
  ⟨(some 35), .mv (.tmp 6), none⟩,
  ⟨(some 2), .mv (.tmp 35), none⟩]
def concat_body : PCode := (.seq (.region concat_r0) (.seq (.region concat_r1) (.seq (.seq (.region concat_r2) (.block 0 (.loop concat_l9))) (.seq (.region concat_r10) (.seq (.seq (.region concat_r11) (.block 2 (.loop concat_l16))) (.seq (.region concat_r17) .ret))))))
def concat_ro : List Nat := []
def concat : PFunc := ⟨1, 36, concat_body, [.tmp 2]⟩
-- slices.Grow[[]int,int]
def grow_r0 : List PInstr := [
  ⟨(some 4), .mv (.const .nils), none⟩]
def grow_r1 : List PInstr := [
  ⟨(some 5), .mv (.tmp 1), none⟩,
  ⟨(some 6), .bin .lss (.tmp 5) (.const (.int .i64 0)), none⟩]
def grow_r2 : List PInstr := [
  ⟨(some 7), .stuck, none⟩,
  ⟨none, .stuck, none⟩]
def grow_r3 : List PInstr := [
  ⟨(some 8), .mv (.tmp 1), none⟩,
  ⟨(some 9), .mv (.tmp 0), none⟩,
  ⟨(some 10), .capNil (.tmp 9), none⟩,
  ⟨(some 11), .mv (.tmp 0), none⟩,
  ⟨(some 12), .len (.tmp 11), none⟩,
  ⟨(some 13), .bin .sub (.tmp 10) (.tmp 12), none⟩,
  ⟨(some 14), .bin .sub (.tmp 8) (.tmp 13), none⟩,
  ⟨(some 1), .mv (.tmp 14), none⟩]
def grow_r4 : List PInstr := [
  ⟨(some 15), .mv (.tmp 1), none⟩,
  ⟨(some 16), .bin .gtr (.tmp 15) (.const (.int .i64 0)), none⟩]
def grow_r5 : List PInstr := [
  ⟨(some 17), .mv (.tmp 0), none⟩,
  ⟨(some 18), .mv (.tmp 0), none⟩,
  ⟨(some 19), .capNil (.tmp 18), none⟩,
  ⟨(some 20), .slice 1 (.tmp 17) none (some (.tmp 19)) none, none⟩,
  ⟨(some 21), .mv (.tmp 1), none⟩,
  ⟨(some 22), .stuck, none⟩,
  ⟨(some 23), .mv (.tmp 0), none⟩,
  ⟨(some 24), .len (.tmp 23), none⟩,
  ⟨(some 25), .slice 1 (.tmp 22) none (some (.tmp 24)) none, none⟩,
  ⟨(some 0), .mv (.tmp 25), none⟩]
def grow_r6 : List PInstr := [
  ⟨(some 26), .mv (.tmp 0), none⟩,
  ⟨(some 4), .mv (.tmp 26), none⟩]
def grow_body : PCode := (.seq (.region grow_r0) (.seq (.seq (.region grow_r1) (.cond (.tmp 6) (.region grow_r2) .skip)) (.seq (.seq (.region grow_r3) (.seq (.region grow_r4) (.cond (.tmp 16) (.region grow_r5) .skip))) (.seq (.region grow_r6) .ret))))
def grow_ro : List Nat := []
def grow : PFunc := ⟨2, 27, grow_body, [.tmp 4]⟩
-- drydock/drydocklaw37.awake
def awake_r0 : List PInstr := [
  ⟨(some 0), .mv (.const (.bool false)), none⟩]
def awake_r1 : List PInstr := [
  ⟨(some 10), .call 144 [(.const (.int .i64 1))], none⟩,
  ⟨(some 1), .alloc [(.int .i64 0), (.int .i64 0)], none⟩,
  ⟨none, .store 2 (.tmp 1) (.tmp 10), none⟩]
def awake_r2 : List PInstr := [
  ⟨(some 12), .load (some 2) (.tmp 1), none⟩,
  ⟨(some 13), .call 145 [(.const (.int .i64 1)), (.tmp 12), (.const (.int .i64 1))], none⟩,
  ⟨(some 11), .mv (.tmp 13), none⟩,
  ⟨(some 14), .extract (.tmp 11) 0, none⟩,
  ⟨(some 15), .extract (.tmp 11) 1, none⟩,
  ⟨(some 2), .alloc [(.int .i64 0), (.int .i64 0)], none⟩,
  ⟨none, .store 2 (.tmp 2) (.tmp 14), none⟩,
  ⟨(some 3), .mv (.tmp 15), none⟩]
def awake_r3 : List PInstr := [
  ⟨(some 17), .load (some 2) (.tmp 2), none⟩,
  ⟨(some 18), .call 145 [(.const (.int .i64 1)), (.tmp 17), (.const (.int .i64 2))], none⟩,
  ⟨(some 16), .mv (.tmp 18), none⟩,
  ⟨(some 19), .extract (.tmp 16) 0, none⟩,
  ⟨(some 20), .extract (.tmp 16) 1, none⟩,
  ⟨(some 4), .alloc [(.int .i64 0), (.int .i64 0)], none⟩,
  ⟨none, .store 2 (.tmp 4) (.tmp 19), none⟩,
  ⟨(some 5), .mv (.tmp 20), none⟩]
def awake_r4 : List PInstr := [
  ⟨(some 22), .load (some 2) (.tmp 4), none⟩,
  ⟨(some 23), .call 145 [(.const (.int .i64 1)), (.tmp 22), (.const (.int .i64 3))], none⟩,
  ⟨(some 21), .mv (.tmp 23), none⟩,
  ⟨(some 24), .extract (.tmp 21) 0, none⟩,
  ⟨(some 25), .extract (.tmp 21) 1, none⟩,
  ⟨(some 6), .alloc [(.int .i64 0), (.int .i64 0)], none⟩,
  ⟨none, .store 2 (.tmp 6) (.tmp 24), none⟩,
  ⟨(some 7), .mv (.tmp 25), none⟩]
def awake_r5 : List PInstr := [
  ⟨(some 27), .load (some 2) (.tmp 6), none⟩,
  ⟨(some 28), .call 145 [(.const (.int .i64 1)), (.tmp 27), (.const (.int .i64 1))], none⟩,
  ⟨(some 26), .mv (.tmp 28), none⟩,
  ⟨(some 29), .extract (.tmp 26) 0, none⟩,
  ⟨(some 30), .extract (.tmp 26) 1, none⟩,
  ⟨(some 8), .alloc [(.int .i64 0), (.int .i64 0)], none⟩,
  ⟨none, .store 2 (.tmp 8) (.tmp 29), none⟩,
  ⟨(some 9), .mv (.tmp 30), none⟩]
def awake_r6 : List PInstr := [
  ⟨(some 31), .load (some 2) (.tmp 1), none⟩,
  ⟨(some 32), .build [(.int .i64 0), (.int .i64 0)] [(0, 1, (.const (.int .i64 1)))], none⟩,
  ⟨(some 33), .eqs false [.int, .int] (.tmp 31) (.tmp 32), none⟩,
  ⟨(some 34), .mv (.tmp 33), none⟩,
  ⟨(some 35), .mv (.tmp 3), (some (34, true))⟩,
  ⟨(some 36), .bin .eql (.tmp 35) (.const (.int .i64 0)), (some (34, true))⟩,
  ⟨(some 37), .pick (.tmp 34) (.tmp 36) (.const (.bool false)), none⟩,
  ⟨(some 38), .mv (.tmp 37), none⟩,
  ⟨(some 39), .mv (.tmp 5), (some (38, true))⟩,
  ⟨(some 40), .bin .eql (.tmp 39) (.const (.int .i64 0)), (some (38, true))⟩,
  ⟨(some 41), .pick (.tmp 38) (.tmp 40) (.const (.bool false)), none⟩,
  ⟨(some 42), .mv (.tmp 41), none⟩,
  ⟨(some 43), .mv (.tmp 7), (some (42, true))⟩,
  ⟨(some 44), .bin .eql (.tmp 43) (.const (.int .i64 0)), (some (42, true))⟩,
  ⟨(some 45), .pick (.tmp 42) (.tmp 44) (.const (.bool false)), none⟩,
  ⟨(some 46), .mv (.tmp 45), none⟩,
  ⟨(some 47), .mv (.tmp 9), (some (46, true))⟩,
  ⟨(some 48), .bin .eql (.tmp 47) (.const (.int .i64 110)), (some (46, true))⟩,
  ⟨(some 49), .pick (.tmp 46) (.tmp 48) (.const (.bool false)), none⟩,
  ⟨(some 50), .mv (.tmp 49), none⟩,
  ⟨(some 51), .load (some 2) (.tmp 6), (some (50, true))⟩,
  ⟨(some 52), .build [(.int .i64 0), (.int .i64 0)] [(0, 1, (.const (.int .i64 4)))], (some (50, true))⟩,
  ⟨(some 53), .eqs false [.int, .int] (.tmp 51) (.tmp 52), (some (50, true))⟩,
  ⟨(some 54), .pick (.tmp 50) (.tmp 53) (.const (.bool false)), none⟩,
  ⟨(some 55), .mv (.tmp 54), none⟩,
  ⟨(some 56), .bslice true 1 2 [(.int .i64 0)] [(0, (.const (.int .i64 2))), (1, (.const (.int .i64 1)))], (some (55, true))⟩,
  ⟨(some 57), .bslice true 1 1 [.nils] [(0, (.tmp 56))], (some (55, true))⟩,
  ⟨(some 58), .load (some 2) (.tmp 6), (some (55, true))⟩,
  ⟨(some 59), .call 146 [(.tmp 57), (.tmp 58)], (some (55, true))⟩,
  ⟨(some 60), .bslice true 1 2 [(.int .i64 0)] [(0, (.const (.int .i64 1))), (1, (.const (.int .i64 2)))], (some (55, true))⟩,
  ⟨(some 61), .call 91 [(.tmp 59), (.tmp 60)], (some (55, true))⟩,
  ⟨(some 62), .pick (.tmp 55) (.tmp 61) (.const (.bool false)), none⟩,
  ⟨(some 63), .mv (.tmp 62), none⟩,
  ⟨(some 64), .call 144 [(.const (.int .i64 0))], (some (63, true))⟩,
  ⟨(some 65), .build [(.int .i64 0), (.int .i64 0)] [(0, 1, (.const (.int .i64 4)))], (some (63, true))⟩,
  ⟨(some 66), .eqs false [.int, .int] (.tmp 64) (.tmp 65), (some (63, true))⟩,
  ⟨(some 67), .pick (.tmp 63) (.tmp 66) (.const (.bool false)), none⟩,
  ⟨(some 0), .mv (.tmp 67), none⟩]
def awake_body : PCode := (.seq (.region awake_r0) (.seq (.region awake_r1) (.seq (.region awake_r2) (.seq (.region awake_r3) (.seq (.region awake_r4) (.seq (.region awake_r5) (.seq (.region awake_r6) .ret)))))))
def awake_ro : List Nat := [56, 57, 60]
def awake : PFunc := ⟨0, 68, awake_body, [.tmp 0]⟩
-- drydock/drydocklaw37.RolloutSteps
def law_r0 : List PInstr := [
  ⟨(some 5), .box true (.tmp 1), none⟩,
  ⟨(some 8), .mv (.const (.bool false)), none⟩]
def law_r1 : List PInstr := [
  ⟨(some 20), .mv (.tmp 3), none⟩,
  ⟨(some 21), .len (.tmp 20), none⟩,
  ⟨(some 22), .bin .gtr (.tmp 21) (.const (.int .i64 20)), none⟩]
def law_r2 : List PInstr := [
  ⟨(some 23), .call 26 [], none⟩,
  ⟨(some 8), .mv (.tmp 23), none⟩]
def law_r3 : List PInstr := [
  ⟨(some 9), .mv (.const (.int .i64 0)), none⟩]
def law_r4 : List PInstr := [
  ⟨(some 24), .mv (.tmp 9), none⟩,
  ⟨(some 25), .mv (.tmp 3), none⟩,
  ⟨(some 26), .len (.tmp 25), none⟩,
  ⟨(some 27), .bin .lss (.tmp 24) (.tmp 26), none⟩]
def law_r5 : List PInstr := [
  ⟨(some 30), .mv (.tmp 3), none⟩,
  ⟨(some 31), .mv (.tmp 9), none⟩,
  ⟨(some 32), .idxS 1 (.tmp 30) (.tmp 31), none⟩,
  ⟨(some 33), .load none (.tmp 32), none⟩,
  ⟨(some 34), .len (.tmp 33), none⟩,
  ⟨(some 35), .bin .gtr (.tmp 34) (.const (.int .i64 20)), none⟩]
def law_r6 : List PInstr := [
  ⟨(some 36), .call 26 [], none⟩,
  ⟨(some 8), .mv (.tmp 36), none⟩]
def law_r7 : List PInstr := [
  ⟨(some 28), .mv (.tmp 9), none⟩,
  ⟨(some 29), .bin .add (.tmp 28) (.const (.int .i64 1)), none⟩,
  ⟨(some 9), .mv (.tmp 29), none⟩]
def law_l8 : PCode := (.seq (.seq (.region law_r4) (.cond (.tmp 27) .skip (.exit 0))) (.seq (.block 1 (.seq (.region law_r5) (.cond (.tmp 35) (.seq (.region law_r6) .ret) .skip))) (.region law_r7)))
def law_r9 : List PInstr := [
  ⟨(some 37), .mv (.tmp 0), none⟩,
  ⟨(some 38), .call 24 [(.tmp 37), (.const (.int .i64 5))], none⟩,
  ⟨(some 10), .mv (.tmp 38), none⟩]
def law_r10 : List (PInstr × Bool) := [
  (⟨(some 39), .fieldA 0 (.tmp 5), none⟩, false),
  (⟨(some 40), .load none (.tmp 39), none⟩, false),
  (⟨(some 41), .call 24 [(.tmp 40), (.const (.int .i64 5))], none⟩, true),
  (⟨(some 42), .bin .add (.const (.int .i64 1)) (.tmp 41), none⟩, true),
  (⟨(some 43), .fieldA 1 (.tmp 5), none⟩, true),
  (⟨(some 44), .load none (.tmp 43), none⟩, true),
  (⟨(some 45), .call 24 [(.tmp 44), (.const (.int .i64 5))], none⟩, true),
  (⟨(some 46), .build [(.int .i64 0), (.int .i64 0)] [(0, 1, (.tmp 42)), (1, 1, (.tmp 45))], none⟩, false),
  (⟨(some 11), .alloc [(.int .i64 0), (.int .i64 0)], none⟩, true),
  (⟨none, .store 2 (.tmp 11) (.tmp 46), none⟩, true)]
def law_r11 : List PInstr := [
  ⟨(some 48), .mv (.tmp 0), none⟩,
  ⟨(some 49), .load (some 2) (.tmp 5), none⟩,
  ⟨(some 50), .mv (.tmp 2), none⟩,
  ⟨(some 51), .call 145 [(.tmp 48), (.tmp 49), (.tmp 50)], none⟩,
  ⟨(some 47), .mv (.tmp 51), none⟩,
  ⟨(some 52), .extract (.tmp 47) 0, none⟩,
  ⟨(some 53), .extract (.tmp 47) 1, none⟩,
  ⟨(some 12), .alloc [(.int .i64 0), (.int .i64 0)], none⟩,
  ⟨none, .store 2 (.tmp 12) (.tmp 52), none⟩,
  ⟨(some 13), .mv (.tmp 53), none⟩]
def law_r12 : List PInstr := [
  ⟨(some 55), .mv (.tmp 0), none⟩,
  ⟨(some 56), .load (some 2) (.tmp 5), none⟩,
  ⟨(some 57), .mv (.tmp 2), none⟩,
  ⟨(some 58), .call 92 [(.tmp 55), (.tmp 56), (.tmp 57)], none⟩,
  ⟨(some 54), .mv (.tmp 58), none⟩,
  ⟨(some 59), .extract (.tmp 54) 0, none⟩,
  ⟨(some 60), .extract (.tmp 54) 1, none⟩,
  ⟨(some 14), .alloc [(.int .i64 0), (.int .i64 0)], none⟩,
  ⟨none, .store 2 (.tmp 14) (.tmp 59), none⟩,
  ⟨(some 15), .mv (.tmp 60), none⟩]
def law_r13 : List (PInstr × Bool) := [
  (⟨(some 62), .mv (.tmp 10), none⟩, true),
  (⟨(some 63), .load (some 2) (.tmp 11), none⟩, true),
  (⟨(some 64), .mv (.tmp 2), none⟩, false),
  (⟨(some 65), .call 24 [(.tmp 64), (.const (.int .i64 4))], none⟩, true),
  (⟨(some 66), .bin .add (.const (.int .i64 1)) (.tmp 65), none⟩, false),
  (⟨(some 67), .call 145 [(.tmp 62), (.tmp 63), (.tmp 66)], none⟩, true),
  (⟨(some 61), .mv (.tmp 67), none⟩, false),
  (⟨(some 68), .extract (.tmp 61) 0, none⟩, false),
  (⟨(some 69), .extract (.tmp 61) 1, none⟩, true),
  (⟨(some 16), .alloc [(.int .i64 0), (.int .i64 0)], none⟩, true),
  (⟨none, .store 2 (.tmp 16) (.tmp 68), none⟩, true),
  (⟨(some 17), .mv (.tmp 69), none⟩, false)]
def law_r14 : List (PInstr × Bool) := [
  (⟨(some 71), .mv (.tmp 10), none⟩, true),
  (⟨(some 72), .load (some 2) (.tmp 11), none⟩, true),
  (⟨(some 73), .mv (.tmp 2), none⟩, false),
  (⟨(some 74), .call 24 [(.tmp 73), (.const (.int .i64 4))], none⟩, true),
  (⟨(some 75), .bin .add (.const (.int .i64 1)) (.tmp 74), none⟩, false),
  (⟨(some 76), .call 92 [(.tmp 71), (.tmp 72), (.tmp 75)], none⟩, true),
  (⟨(some 70), .mv (.tmp 76), none⟩, false),
  (⟨(some 77), .extract (.tmp 70) 0, none⟩, false),
  (⟨(some 78), .extract (.tmp 70) 1, none⟩, true),
  (⟨(some 18), .alloc [(.int .i64 0), (.int .i64 0)], none⟩, true),
  (⟨none, .store 2 (.tmp 18) (.tmp 77), none⟩, true),
  (⟨(some 19), .mv (.tmp 78), none⟩, false)]
def law_r15 : List (PInstr × Bool) := [
  (⟨(some 79), .call 26 [], none⟩, true),
  (⟨(some 80), .mv (.tmp 79), none⟩, false),
  (⟨(some 81), .load (some 2) (.tmp 12), (some (80, true))⟩, false),
  (⟨(some 82), .load (some 2) (.tmp 14), (some (80, true))⟩, false),
  (⟨(some 83), .eqs false [.int, .int] (.tmp 81) (.tmp 82), (some (80, true))⟩, false),
  (⟨(some 84), .pick (.tmp 80) (.tmp 83) (.const (.bool false)), none⟩, false),
  (⟨(some 85), .mv (.tmp 84), none⟩, false),
  (⟨(some 86), .mv (.tmp 13), (some (85, true))⟩, false),
  (⟨(some 87), .mv (.tmp 15), (some (85, true))⟩, false),
  (⟨(some 88), .bin .eql (.tmp 86) (.tmp 87), (some (85, true))⟩, false),
  (⟨(some 89), .pick (.tmp 85) (.tmp 88) (.const (.bool false)), none⟩, false),
  (⟨(some 90), .mv (.tmp 89), none⟩, false),
  (⟨(some 91), .load (some 2) (.tmp 16), (some (90, true))⟩, false),
  (⟨(some 92), .load (some 2) (.tmp 18), (some (90, true))⟩, false),
  (⟨(some 93), .eqs false [.int, .int] (.tmp 91) (.tmp 92), (some (90, true))⟩, false),
  (⟨(some 94), .pick (.tmp 90) (.tmp 93) (.const (.bool false)), none⟩, false),
  (⟨(some 95), .mv (.tmp 94), none⟩, false),
  (⟨(some 96), .mv (.tmp 17), (some (95, true))⟩, false),
  (⟨(some 97), .mv (.tmp 19), (some (95, true))⟩, false),
  (⟨(some 98), .bin .eql (.tmp 96) (.tmp 97), (some (95, true))⟩, false),
  (⟨(some 99), .pick (.tmp 95) (.tmp 98) (.const (.bool false)), none⟩, false),
  (⟨(some 100), .mv (.tmp 99), none⟩, false),
  (⟨(some 101), .mv (.tmp 3), (some (100, true))⟩, false),
  (⟨(some 102), .load (some 2) (.tmp 5), (some (100, true))⟩, false),
  (⟨(some 103), .call 146 [(.tmp 101), (.tmp 102)], (some (100, true))⟩, true),
  (⟨(some 104), .mv (.tmp 3), (some (100, true))⟩, true),
  (⟨(some 105), .load (some 2) (.tmp 5), (some (100, true))⟩, true),
  (⟨(some 106), .call 93 [(.tmp 104), (.tmp 105)], (some (100, true))⟩, true),
  (⟨(some 107), .call 91 [(.tmp 103), (.tmp 106)], (some (100, true))⟩, true),
  (⟨(some 108), .pick (.tmp 100) (.tmp 107) (.const (.bool false)), none⟩, false),
  (⟨(some 109), .mv (.tmp 108), none⟩, false),
  (⟨(some 110), .mv (.tmp 3), (some (109, true))⟩, false),
  (⟨(some 111), .load (some 2) (.tmp 11), (some (109, true))⟩, false),
  (⟨(some 112), .call 146 [(.tmp 110), (.tmp 111)], (some (109, true))⟩, true),
  (⟨(some 113), .mv (.tmp 3), (some (109, true))⟩, true),
  (⟨(some 114), .load (some 2) (.tmp 11), (some (109, true))⟩, true),
  (⟨(some 115), .call 93 [(.tmp 113), (.tmp 114)], (some (109, true))⟩, true),
  (⟨(some 116), .call 91 [(.tmp 112), (.tmp 115)], (some (109, true))⟩, true),
  (⟨(some 117), .pick (.tmp 109) (.tmp 116) (.const (.bool false)), none⟩, false),
  (⟨(some 8), .mv (.tmp 117), none⟩, false)]
def law_body : PCode := (.seq (.region law_r0) (.seq (.seq (.region law_r1) (.cond (.tmp 22) (.seq (.region law_r2) .ret) .skip)) (.seq (.seq (.region law_r3) (.block 0 (.loop law_l8))) (.seq (.region law_r9) (.seq (.draw law_r10) (.seq (.region law_r11) (.seq (.region law_r12) (.seq (.draw law_r13) (.seq (.draw law_r14) (.seq (.draw law_r15) .ret))))))))))
def law_ro : List Nat := [5]
def law : PFunc := ⟨4, 118, law_body, [.tmp 8]⟩
end Go.PM
