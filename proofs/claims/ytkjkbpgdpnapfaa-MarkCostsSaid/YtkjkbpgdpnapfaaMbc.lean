/-
  THE SEAT'S FUNCTIONS, READ (part 0): the code of each as the abstract layer reads it, by program; each tie is a closed fact.
-/
import Derived.KernelRfl
import Derived.Test.YtkjkbpgdpnapfaaChecked
import Derived.Test.YtkjkbpgdpnapfaaMbb
set_option linter.unusedSimpArgs false
set_option linter.unusedVariables false
namespace Go.Proofs.Ytkjkbpgdpnapfaa
open Go Go.Abs
-- 5 pinfold/pinfoldlaw01.MarkOwners
def g5_0 : List G := [⟨(some 3), .box (.t 0), none⟩,
  ⟨(some 4), .box (.t 1), none⟩,
  ⟨(some 6), .mv (.c (.bool false)), none⟩]
def d5_0 : Option (List (List Nat)) := none
def l5_0 : List Nat := []
theorem cd5_0 : dOk d5_0 g5_0 l5_0 = true := by kernel_rfl
def g5_1 : List G := [⟨(some 20), .ld (some 7) (.t 3), none⟩,
  ⟨(some 21), .ld (some 6) (.t 4), none⟩,
  ⟨(some 22), .call 26 [(.t 20), (.t 21)], none⟩,
  ⟨(some 19), .mv (.t 22), none⟩,
  ⟨(some 23), .ext (.t 19) 0, none⟩,
  ⟨(some 24), .ext (.t 19) 1, none⟩,
  ⟨(some 7), .mv (.t 23), none⟩,
  ⟨(some 8), .mv (.t 24), none⟩]
def d5_1 : Option (List (List Nat)) := none
def l5_1 : List Nat := []
theorem cd5_1 : dOk d5_1 g5_1 l5_1 = true := by kernel_rfl
def g5_2 : List G := [⟨(some 26), .ld (some 7) (.t 3), none⟩,
  ⟨(some 27), .ld (some 6) (.t 4), none⟩,
  ⟨(some 28), .call 28 [(.t 26), (.t 27)], none⟩,
  ⟨(some 25), .mv (.t 28), none⟩,
  ⟨(some 29), .ext (.t 25) 0, none⟩,
  ⟨(some 30), .ext (.t 25) 1, none⟩,
  ⟨(some 9), .mv (.t 29), none⟩,
  ⟨(some 10), .mv (.t 30), none⟩]
def d5_2 : Option (List (List Nat)) := none
def l5_2 : List Nat := []
theorem cd5_2 : dOk d5_2 g5_2 l5_2 = true := by kernel_rfl
def g5_3 : List G := [⟨(some 32), .ld (some 7) (.t 3), none⟩,
  ⟨(some 33), .ld (some 6) (.t 4), none⟩,
  ⟨(some 34), .call 29 [(.t 32), (.t 33)], none⟩,
  ⟨(some 31), .mv (.t 34), none⟩,
  ⟨(some 35), .ext (.t 31) 0, none⟩,
  ⟨(some 36), .ext (.t 31) 1, none⟩,
  ⟨(some 11), .mv (.t 35), none⟩,
  ⟨(some 12), .mv (.t 36), none⟩]
def d5_3 : Option (List (List Nat)) := none
def l5_3 : List Nat := []
theorem cd5_3 : dOk d5_3 g5_3 l5_3 = true := by kernel_rfl
def g5_4 : List G := [⟨(some 38), .ld (some 7) (.t 3), none⟩,
  ⟨(some 39), .ld (some 6) (.t 4), none⟩,
  ⟨(some 40), .call 30 [(.t 38), (.t 39)], none⟩,
  ⟨(some 37), .mv (.t 40), none⟩,
  ⟨(some 41), .ext (.t 37) 0, none⟩,
  ⟨(some 42), .ext (.t 37) 1, none⟩,
  ⟨(some 13), .mv (.t 41), none⟩,
  ⟨(some 14), .mv (.t 42), none⟩]
def d5_4 : Option (List (List Nat)) := none
def l5_4 : List Nat := []
theorem cd5_4 : dOk d5_4 g5_4 l5_4 = true := by kernel_rfl
def g5_5 : List G := [⟨(some 44), .ld (some 7) (.t 3), none⟩,
  ⟨(some 45), .mv (.t 2), none⟩,
  ⟨(some 46), .call 31 [(.t 44), (.t 45)], none⟩,
  ⟨(some 43), .mv (.t 46), none⟩,
  ⟨(some 47), .ext (.t 43) 0, none⟩,
  ⟨(some 48), .ext (.t 43) 1, none⟩,
  ⟨(some 15), .mv (.t 47), none⟩,
  ⟨(some 16), .mv (.t 48), none⟩]
def d5_5 : Option (List (List Nat)) := none
def l5_5 : List Nat := []
theorem cd5_5 : dOk d5_5 g5_5 l5_5 = true := by kernel_rfl
def g5_6 : List G := [⟨(some 50), .ld (some 7) (.t 3), none⟩,
  ⟨(some 51), .mv (.t 2), none⟩,
  ⟨(some 52), .call 32 [(.t 50), (.t 51)], none⟩,
  ⟨(some 49), .mv (.t 52), none⟩,
  ⟨(some 53), .ext (.t 49) 0, none⟩,
  ⟨(some 54), .ext (.t 49) 1, none⟩,
  ⟨(some 17), .mv (.t 53), none⟩,
  ⟨(some 18), .mv (.t 54), none⟩]
def d5_6 : Option (List (List Nat)) := none
def l5_6 : List Nat := []
theorem cd5_6 : dOk d5_6 g5_6 l5_6 = true := by kernel_rfl
def g5_7 : List G := [⟨(some 55), .mv (.t 7), none⟩,
  ⟨(some 56), .mv (.t 9), none⟩,
  ⟨(some 57), .call 16 [(.t 55), (.t 56)], none⟩,
  ⟨(some 58), .mv (.t 57), none⟩,
  ⟨(some 59), .mv (.t 8), some (58, true)⟩,
  ⟨(some 60), .mv (.t 10), some (58, true)⟩,
  ⟨(some 61), .bin .eql (.t 59) (.t 60), some (58, true)⟩,
  ⟨(some 62), .pick (.t 58) (.t 61) (.c (.bool false)), none⟩,
  ⟨(some 63), .mv (.t 62), none⟩,
  ⟨(some 64), .mv (.t 11), some (63, true)⟩,
  ⟨(some 65), .mv (.t 13), some (63, true)⟩,
  ⟨(some 66), .bin .eql (.t 64) (.t 65), some (63, true)⟩,
  ⟨(some 67), .pick (.t 63) (.t 66) (.c (.bool false)), none⟩,
  ⟨(some 68), .mv (.t 67), none⟩,
  ⟨(some 69), .mv (.t 12), some (68, true)⟩,
  ⟨(some 70), .mv (.t 14), some (68, true)⟩,
  ⟨(some 71), .bin .eql (.t 69) (.t 70), some (68, true)⟩,
  ⟨(some 72), .pick (.t 68) (.t 71) (.c (.bool false)), none⟩,
  ⟨(some 73), .mv (.t 72), none⟩,
  ⟨(some 74), .mv (.t 15), some (73, true)⟩,
  ⟨(some 75), .mv (.t 17), some (73, true)⟩,
  ⟨(some 76), .call 16 [(.t 74), (.t 75)], some (73, true)⟩,
  ⟨(some 77), .pick (.t 73) (.t 76) (.c (.bool false)), none⟩,
  ⟨(some 78), .mv (.t 77), none⟩,
  ⟨(some 79), .mv (.t 16), some (78, true)⟩,
  ⟨(some 80), .mv (.t 18), some (78, true)⟩,
  ⟨(some 81), .bin .eql (.t 79) (.t 80), some (78, true)⟩,
  ⟨(some 82), .pick (.t 78) (.t 81) (.c (.bool false)), none⟩,
  ⟨(some 83), .mv (.t 82), none⟩,
  ⟨(some 84), .call 21 [], some (83, true)⟩,
  ⟨(some 85), .pick (.t 83) (.t 84) (.c (.bool false)), none⟩,
  ⟨(some 6), .mv (.t 85), none⟩]
def d5_7 : Option (List (List Nat)) := none
def l5_7 : List Nat := []
theorem cd5_7 : dOk d5_7 g5_7 l5_7 = true := by kernel_rfl
def c5 : AC := (.seq (.reg d5_0 g5_0) (.seq (.reg d5_1 g5_1) (.seq (.reg d5_2 g5_2) (.seq (.reg d5_3 g5_3) (.seq (.reg d5_4 g5_4) (.seq (.reg d5_5 g5_5) (.seq (.reg d5_6 g5_6) (.seq (.reg d5_7 g5_7) .ret))))))))
def r5 : List RV := [.tmp 6]
theorem cc5 : (Try.f5.body.bind (cCode Try.prog Try.f5.ntmps)) = some c5 := by kernel_rfl
theorem cr5 : cRes Try.prog Try.f5.results.toList = some r5 := by kernel_rfl
theorem ca5 : callable Try.prog 5 = true := by kernel_rfl
-- 8 pinfold/pinfoldlaw01.MarkChecks
def g8_0 : List G := [⟨(some 3), .box (.t 0), none⟩,
  ⟨(some 4), .box (.t 1), none⟩,
  ⟨(some 5), .box (.t 2), none⟩,
  ⟨(some 6), .mv (.c (.bool false)), none⟩]
def d8_0 : Option (List (List Nat)) := none
def l8_0 : List Nat := []
theorem cd8_0 : dOk d8_0 g8_0 l8_0 = true := by kernel_rfl
def g8_1 : List G := [⟨(some 12), .ld (some 7) (.t 3), none⟩,
  ⟨(some 13), .fa 0 0 (.t 4), none⟩,
  ⟨(some 14), .ld none (.t 13), none⟩,
  ⟨(some 15), .call 39 [(.t 12), (.t 14)], none⟩,
  ⟨(some 11), .mv (.t 15), none⟩,
  ⟨(some 16), .ext (.t 11) 0, none⟩,
  ⟨(some 17), .ext (.t 11) 1, none⟩,
  ⟨(some 7), .alloc (.agg [.int .i64 (0), .int .i64 (0), .int .i64 (0), .int .i64 (0), .int .i64 (0), .int .i64 (0)]), none⟩,
  ⟨none, .st (some 6) (.t 7) (.t 16), none⟩,
  ⟨(some 8), .mv (.t 17), none⟩]
def d8_1 : Option (List (List Nat)) := none
def l8_1 : List Nat := []
theorem cd8_1 : dOk d8_1 g8_1 l8_1 = true := by kernel_rfl
def g8_2 : List G := [⟨(some 19), .ld (some 7) (.t 3), none⟩,
  ⟨(some 20), .fa 0 0 (.t 4), none⟩,
  ⟨(some 21), .ld none (.t 20), none⟩,
  ⟨(some 22), .call 40 [(.t 19), (.t 21)], none⟩,
  ⟨(some 18), .mv (.t 22), none⟩,
  ⟨(some 23), .ext (.t 18) 0, none⟩,
  ⟨(some 24), .ext (.t 18) 1, none⟩,
  ⟨(some 9), .alloc (.agg [.int .i64 (0), .int .i64 (0), .int .i64 (0), .int .i64 (0), .int .i64 (0), .int .i64 (0)]), none⟩,
  ⟨none, .st (some 6) (.t 9) (.t 23), none⟩,
  ⟨(some 10), .mv (.t 24), none⟩]
def d8_2 : Option (List (List Nat)) := none
def l8_2 : List Nat := []
theorem cd8_2 : dOk d8_2 g8_2 l8_2 = true := by kernel_rfl
def g8_3 : List G := [⟨(some 25), .ld (some 6) (.t 7), none⟩,
  ⟨(some 26), .ld (some 6) (.t 9), none⟩,
  ⟨(some 27), .eqv (.ar 6 (.i .i64)) false (.t 25) (.t 26), none⟩,
  ⟨(some 28), .mv (.t 27), none⟩,
  ⟨(some 29), .mv (.t 8), some (28, true)⟩,
  ⟨(some 30), .mv (.t 10), some (28, true)⟩,
  ⟨(some 31), .bin .eql (.t 29) (.t 30), some (28, true)⟩,
  ⟨(some 32), .pick (.t 28) (.t 31) (.c (.bool false)), none⟩,
  ⟨(some 33), .mv (.t 32), none⟩,
  ⟨(some 34), .fa 1 1 (.t 4), some (33, true)⟩,
  ⟨(some 35), .ld (some 6) (.t 34), some (33, true)⟩,
  ⟨(some 36), .call 41 [(.t 35)], some (33, true)⟩,
  ⟨(some 37), .fa 1 1 (.t 4), some (33, true)⟩,
  ⟨(some 38), .ld (some 6) (.t 37), some (33, true)⟩,
  ⟨(some 39), .call 42 [(.t 38)], some (33, true)⟩,
  ⟨(some 40), .bin .eql (.t 36) (.t 39), some (33, true)⟩,
  ⟨(some 41), .pick (.t 33) (.t 40) (.c (.bool false)), none⟩,
  ⟨(some 42), .mv (.t 41), none⟩,
  ⟨(some 43), .fa 0 0 (.t 3), some (42, true)⟩,
  ⟨(some 44), .ld (some 5) (.t 43), some (42, true)⟩,
  ⟨(some 45), .call 43 [(.t 44)], some (42, true)⟩,
  ⟨(some 46), .fa 0 0 (.t 3), some (42, true)⟩,
  ⟨(some 47), .ld (some 5) (.t 46), some (42, true)⟩,
  ⟨(some 48), .call 44 [(.t 47)], some (42, true)⟩,
  ⟨(some 49), .bin .eql (.t 45) (.t 48), some (42, true)⟩,
  ⟨(some 50), .pick (.t 42) (.t 49) (.c (.bool false)), none⟩,
  ⟨(some 51), .mv (.t 50), none⟩,
  ⟨(some 52), .ld (some 6) (.t 5), some (51, true)⟩,
  ⟨(some 53), .call 45 [(.t 52)], some (51, true)⟩,
  ⟨(some 54), .ld (some 6) (.t 5), some (51, true)⟩,
  ⟨(some 55), .call 46 [(.t 54)], some (51, true)⟩,
  ⟨(some 56), .bin .eql (.t 53) (.t 55), some (51, true)⟩,
  ⟨(some 57), .pick (.t 51) (.t 56) (.c (.bool false)), none⟩,
  ⟨(some 58), .mv (.t 57), none⟩,
  ⟨(some 59), .ld (some 7) (.t 3), some (58, true)⟩,
  ⟨(some 60), .call 47 [(.t 59)], some (58, true)⟩,
  ⟨(some 61), .ld (some 7) (.t 3), some (58, true)⟩,
  ⟨(some 62), .call 48 [(.t 61)], some (58, true)⟩,
  ⟨(some 63), .bin .eql (.t 60) (.t 62), some (58, true)⟩,
  ⟨(some 64), .pick (.t 58) (.t 63) (.c (.bool false)), none⟩,
  ⟨(some 65), .mv (.t 64), none⟩,
  ⟨(some 66), .call 21 [], some (65, true)⟩,
  ⟨(some 67), .pick (.t 65) (.t 66) (.c (.bool false)), none⟩,
  ⟨(some 6), .mv (.t 67), none⟩]
def d8_3 : Option (List (List Nat)) := (some [[], [], [0, 1], [2], [3], [3], [4, 5, 3], [3, 6], [7, 3], [8], [9, 8], [10, 8, 8], [8], [12, 8], [13, 11, 8], [11, 14, 8], [8, 15], [16, 14], [17], [18, 17], [19, 17, 17], [17], [21, 17], [22, 20, 17], [20, 23, 17], [17, 24], [25, 23], [26], [27, 26, 26], [26], [29, 28, 26], [28, 30, 26], [26, 31], [32, 30], [33], [34, 33, 33], [33], [36, 35, 33], [35, 37, 33], [33, 38], [39, 37], [40, 40], [40, 41], [42, 41, 0, 1, 2, 3, 4, 5, 6, 7, 8, 9, 10, 11, 12, 13, 14, 15, 16, 17, 18, 19, 20, 21, 22, 23, 24, 25, 26, 27, 28, 29, 30, 31, 32, 33, 34, 35, 36, 37, 38, 39, 40, 41, 42]])
def l8_3 : List Nat := [0, 0, 3, 7, 15, 15, 63, 127, 255, 511, 1023, 2047, 511, 4607, 16383, 32767, 65535, 131071, 262143, 524287, 1048575, 262143, 2359295, 8388607, 16777215, 33554431, 67108863, 134217727, 268435455, 134217727, 1073741823, 2147483647, 4294967295, 8589934591, 17179869183, 34359738367, 17179869183, 137438953471, 274877906943, 549755813887, 1099511627775, 2199023255551, 4398046511103, 8796093022207]
theorem cd8_3 : dOk d8_3 g8_3 l8_3 = true := by kernel_rfl
def c8 : AC := (.seq (.reg d8_0 g8_0) (.seq (.reg d8_1 g8_1) (.seq (.reg d8_2 g8_2) (.seq (.reg d8_3 g8_3) .ret))))
def r8 : List RV := [.tmp 6]
theorem cc8 : (Try.f8.body.bind (cCode Try.prog Try.f8.ntmps)) = some c8 := by kernel_rfl
theorem cr8 : cRes Try.prog Try.f8.results.toList = some r8 := by kernel_rfl
theorem ca8 : callable Try.prog 8 = true := by kernel_rfl
-- 9 pinfold/pinfoldlaw01.MarkCosts
def g9_0 : List G := [⟨(some 3), .box (.t 0), none⟩,
  ⟨(some 4), .box (.t 1), none⟩,
  ⟨(some 5), .box (.t 2), none⟩,
  ⟨(some 6), .mv (.c (.bool false)), none⟩]
def d9_0 : Option (List (List Nat)) := none
def l9_0 : List Nat := []
theorem cd9_0 : dOk d9_0 g9_0 l9_0 = true := by kernel_rfl
def g9_1 : List G := [⟨(some 24), .fa 0 0 (.t 3), none⟩,
  ⟨(some 25), .ld (some 5) (.t 24), none⟩,
  ⟨(some 26), .fa 0 0 (.t 4), none⟩,
  ⟨(some 27), .ld (some 6) (.t 26), none⟩,
  ⟨(some 28), .ld (some 6) (.t 5), none⟩,
  ⟨(some 29), .call 37 [(.t 25), (.t 27), (.t 28)], none⟩,
  ⟨(some 23), .mv (.t 29), none⟩,
  ⟨(some 30), .ext (.t 23) 0, none⟩,
  ⟨(some 31), .ext (.t 23) 1, none⟩,
  ⟨(some 7), .mv (.t 30), none⟩,
  ⟨(some 8), .mv (.t 31), none⟩]
def d9_1 : Option (List (List Nat)) := none
def l9_1 : List Nat := []
theorem cd9_1 : dOk d9_1 g9_1 l9_1 = true := by kernel_rfl
def g9_2 : List G := [⟨(some 33), .fa 0 0 (.t 3), none⟩,
  ⟨(some 34), .ld (some 5) (.t 33), none⟩,
  ⟨(some 35), .fa 0 0 (.t 4), none⟩,
  ⟨(some 36), .ld (some 6) (.t 35), none⟩,
  ⟨(some 37), .ld (some 6) (.t 5), none⟩,
  ⟨(some 38), .call 49 [(.t 34), (.t 36), (.t 37)], none⟩,
  ⟨(some 32), .mv (.t 38), none⟩,
  ⟨(some 39), .ext (.t 32) 0, none⟩,
  ⟨(some 40), .ext (.t 32) 1, none⟩,
  ⟨(some 9), .mv (.t 39), none⟩,
  ⟨(some 10), .mv (.t 40), none⟩]
def d9_2 : Option (List (List Nat)) := none
def l9_2 : List Nat := []
theorem cd9_2 : dOk d9_2 g9_2 l9_2 = true := by kernel_rfl
def g9_3 : List G := [⟨(some 42), .fa 0 0 (.t 3), none⟩,
  ⟨(some 43), .ld (some 5) (.t 42), none⟩,
  ⟨(some 44), .fa 0 0 (.t 4), none⟩,
  ⟨(some 45), .ld (some 6) (.t 44), none⟩,
  ⟨(some 46), .fa 1 6 (.t 4), none⟩,
  ⟨(some 47), .ld (some 6) (.t 46), none⟩,
  ⟨(some 48), .call 36 [(.t 43), (.t 45), (.t 47)], none⟩,
  ⟨(some 41), .mv (.t 48), none⟩,
  ⟨(some 49), .ext (.t 41) 0, none⟩,
  ⟨(some 50), .ext (.t 41) 1, none⟩,
  ⟨(some 11), .mv (.t 49), none⟩,
  ⟨(some 12), .mv (.t 50), none⟩]
def d9_3 : Option (List (List Nat)) := none
def l9_3 : List Nat := []
theorem cd9_3 : dOk d9_3 g9_3 l9_3 = true := by kernel_rfl
def g9_4 : List G := [⟨(some 52), .fa 0 0 (.t 3), none⟩,
  ⟨(some 53), .ld (some 5) (.t 52), none⟩,
  ⟨(some 54), .fa 0 0 (.t 4), none⟩,
  ⟨(some 55), .ld (some 6) (.t 54), none⟩,
  ⟨(some 56), .fa 1 6 (.t 4), none⟩,
  ⟨(some 57), .ld (some 6) (.t 56), none⟩,
  ⟨(some 58), .call 50 [(.t 53), (.t 55), (.t 57)], none⟩,
  ⟨(some 51), .mv (.t 58), none⟩,
  ⟨(some 59), .ext (.t 51) 0, none⟩,
  ⟨(some 60), .ext (.t 51) 1, none⟩,
  ⟨(some 13), .mv (.t 59), none⟩,
  ⟨(some 14), .mv (.t 60), none⟩]
def d9_4 : Option (List (List Nat)) := none
def l9_4 : List Nat := []
theorem cd9_4 : dOk d9_4 g9_4 l9_4 = true := by kernel_rfl
def g9_5 : List G := [⟨(some 62), .ld (some 7) (.t 3), none⟩,
  ⟨(some 63), .fa 0 0 (.t 4), none⟩,
  ⟨(some 64), .ld (some 6) (.t 63), none⟩,
  ⟨(some 65), .ld (some 6) (.t 5), none⟩,
  ⟨(some 66), .call 51 [(.t 62), (.t 64), (.t 65)], none⟩,
  ⟨(some 61), .mv (.t 66), none⟩,
  ⟨(some 67), .ext (.t 61) 0, none⟩,
  ⟨(some 68), .ext (.t 61) 1, none⟩,
  ⟨(some 15), .mv (.t 67), none⟩,
  ⟨(some 16), .mv (.t 68), none⟩]
def d9_5 : Option (List (List Nat)) := none
def l9_5 : List Nat := []
theorem cd9_5 : dOk d9_5 g9_5 l9_5 = true := by kernel_rfl
def g9_6 : List G := [⟨(some 70), .ld (some 7) (.t 3), none⟩,
  ⟨(some 71), .fa 0 0 (.t 4), none⟩,
  ⟨(some 72), .ld (some 6) (.t 71), none⟩,
  ⟨(some 73), .ld (some 6) (.t 5), none⟩,
  ⟨(some 74), .call 52 [(.t 70), (.t 72), (.t 73)], none⟩,
  ⟨(some 69), .mv (.t 74), none⟩,
  ⟨(some 75), .ext (.t 69) 0, none⟩,
  ⟨(some 76), .ext (.t 69) 1, none⟩,
  ⟨(some 17), .mv (.t 75), none⟩,
  ⟨(some 18), .mv (.t 76), none⟩]
def d9_6 : Option (List (List Nat)) := none
def l9_6 : List Nat := []
theorem cd9_6 : dOk d9_6 g9_6 l9_6 = true := by kernel_rfl
def g9_7 : List G := [⟨(some 77), .mv (.t 7), none⟩,
  ⟨(some 78), .mv (.t 9), none⟩,
  ⟨(some 79), .bin .neq (.t 77) (.t 78), none⟩,
  ⟨(some 80), .mv (.t 79), none⟩,
  ⟨(some 81), .mv (.t 8), some (80, false)⟩,
  ⟨(some 82), .mv (.t 10), some (80, false)⟩,
  ⟨(some 83), .bin .neq (.t 81) (.t 82), some (80, false)⟩,
  ⟨(some 84), .pick (.t 80) (.c (.bool true)) (.t 83), none⟩,
  ⟨(some 85), .mv (.t 84), none⟩,
  ⟨(some 86), .mv (.t 11), some (85, false)⟩,
  ⟨(some 87), .mv (.t 13), some (85, false)⟩,
  ⟨(some 88), .bin .neq (.t 86) (.t 87), some (85, false)⟩,
  ⟨(some 89), .pick (.t 85) (.c (.bool true)) (.t 88), none⟩,
  ⟨(some 90), .mv (.t 89), none⟩,
  ⟨(some 91), .mv (.t 12), some (90, false)⟩,
  ⟨(some 92), .mv (.t 14), some (90, false)⟩,
  ⟨(some 93), .bin .neq (.t 91) (.t 92), some (90, false)⟩,
  ⟨(some 94), .pick (.t 90) (.c (.bool true)) (.t 93), none⟩,
  ⟨(some 95), .mv (.t 94), none⟩,
  ⟨(some 96), .mv (.t 15), some (95, false)⟩,
  ⟨(some 97), .mv (.t 17), some (95, false)⟩,
  ⟨(some 98), .eqv .b true (.t 96) (.t 97), some (95, false)⟩,
  ⟨(some 99), .pick (.t 95) (.c (.bool true)) (.t 98), none⟩,
  ⟨(some 100), .mv (.t 99), none⟩,
  ⟨(some 101), .mv (.t 16), some (100, false)⟩,
  ⟨(some 102), .mv (.t 18), some (100, false)⟩,
  ⟨(some 103), .bin .neq (.t 101) (.t 102), some (100, false)⟩,
  ⟨(some 104), .pick (.t 100) (.c (.bool true)) (.t 103), none⟩]
def d9_7 : Option (List (List Nat)) := none
def l9_7 : List Nat := []
theorem cd9_7 : dOk d9_7 g9_7 l9_7 = true := by kernel_rfl
def g9_8 : List G := [⟨(some 6), .mv (.c (.bool false)), none⟩]
def d9_8 : Option (List (List Nat)) := none
def l9_8 : List Nat := []
theorem cd9_8 : dOk d9_8 g9_8 l9_8 = true := by kernel_rfl
def g9_9 : List G := [⟨(some 19), .mv (.c (.int .i64 (-1))), none⟩]
def d9_9 : Option (List (List Nat)) := none
def l9_9 : List Nat := []
theorem cd9_9 : dOk d9_9 g9_9 l9_9 = true := by kernel_rfl
def g9_10 : List G := [⟨(some 105), .mv (.t 19), none⟩,
  ⟨(some 106), .bin .leq (.t 105) (.c (.int .i64 (3))), none⟩]
def d9_10 : Option (List (List Nat)) := none
def l9_10 : List Nat := []
theorem cd9_10 : dOk d9_10 g9_10 l9_10 = true := by kernel_rfl
def g9_11 : List G := [⟨(some 110), .fa 0 0 (.t 3), none⟩,
  ⟨(some 111), .ld (some 5) (.t 110), none⟩,
  ⟨(some 112), .mv (.t 19), none⟩,
  ⟨(some 113), .fa 0 0 (.t 4), none⟩,
  ⟨(some 114), .ld (some 6) (.t 113), none⟩,
  ⟨(some 115), .fa 1 6 (.t 4), none⟩,
  ⟨(some 116), .ld (some 6) (.t 115), none⟩,
  ⟨(some 117), .call 38 [(.t 111), (.t 112), (.t 114), (.t 116)], none⟩,
  ⟨(some 109), .mv (.t 117), none⟩,
  ⟨(some 118), .ext (.t 109) 0, none⟩,
  ⟨(some 119), .ext (.t 109) 1, none⟩,
  ⟨(some 20), .alloc (.agg [.int .i64 (0), .int .i64 (0), .int .i64 (0), .int .i64 (0), .int .i64 (0), .int .i64 (0)]), none⟩,
  ⟨none, .st (some 6) (.t 20) (.t 118), none⟩,
  ⟨(some 21), .mv (.t 119), none⟩]
def d9_11 : Option (List (List Nat)) := none
def l9_11 : List Nat := []
theorem cd9_11 : dOk d9_11 g9_11 l9_11 = true := by kernel_rfl
def g9_12 : List G := [⟨(some 120), .fa 0 0 (.t 3), none⟩,
  ⟨(some 121), .ld (some 5) (.t 120), none⟩,
  ⟨(some 122), .mv (.t 19), none⟩,
  ⟨(some 123), .ld (some 12) (.t 4), none⟩,
  ⟨(some 124), .call 53 [(.t 121), (.t 122), (.t 123)], none⟩,
  ⟨(some 22), .mv (.t 124), none⟩]
def d9_12 : Option (List (List Nat)) := none
def l9_12 : List Nat := []
theorem cd9_12 : dOk d9_12 g9_12 l9_12 = true := by kernel_rfl
def g9_13 : List G := [⟨(some 125), .mv (.t 21), none⟩,
  ⟨(some 126), .mv (.t 22), none⟩,
  ⟨(some 127), .bin .neq (.t 125) (.t 126), none⟩,
  ⟨(some 128), .mv (.t 127), none⟩,
  ⟨(some 129), .mv (.t 21), some (128, false)⟩,
  ⟨(some 130), .bin .neq (.t 129) (.c (.int .i64 (0))), some (128, false)⟩,
  ⟨(some 131), .mv (.t 130), some (128, false)⟩,
  ⟨(some 132), .ld (some 6) (.t 20), some (131, true)⟩,
  ⟨(some 133), .bld [.int .i64 (0), .int .i64 (0), .int .i64 (0), .int .i64 (0), .int .i64 (0), .int .i64 (0)] [], some (131, true)⟩,
  ⟨(some 134), .eqv (.ar 6 (.i .i64)) true (.t 132) (.t 133), some (131, true)⟩,
  ⟨(some 135), .pick (.t 131) (.t 134) (.c (.bool false)), some (128, false)⟩,
  ⟨(some 136), .pick (.t 128) (.c (.bool true)) (.t 135), none⟩,
  ⟨(some 137), .mv (.t 136), none⟩,
  ⟨(some 138), .mv (.t 21), some (137, false)⟩,
  ⟨(some 139), .bin .eql (.t 138) (.c (.int .i64 (0))), some (137, false)⟩,
  ⟨(some 140), .mv (.t 139), some (137, false)⟩,
  ⟨(some 141), .fa 0 0 (.t 3), some (140, true)⟩,
  ⟨(some 142), .ld (some 5) (.t 141), some (140, true)⟩,
  ⟨(some 143), .mv (.t 19), some (140, true)⟩,
  ⟨(some 144), .ld (some 12) (.t 4), some (140, true)⟩,
  ⟨(some 145), .ld (some 6) (.t 20), some (140, true)⟩,
  ⟨(some 146), .call 54 [(.t 142), (.t 143), (.t 144), (.t 145)], some (140, true)⟩,
  ⟨(some 147), .un .not (.t 146), some (140, true)⟩,
  ⟨(some 148), .pick (.t 140) (.t 147) (.c (.bool false)), some (137, false)⟩,
  ⟨(some 149), .pick (.t 137) (.c (.bool true)) (.t 148), none⟩]
def d9_13 : Option (List (List Nat)) := none
def l9_13 : List Nat := []
theorem cd9_13 : dOk d9_13 g9_13 l9_13 = true := by kernel_rfl
def g9_14 : List G := [⟨(some 6), .mv (.c (.bool false)), none⟩]
def d9_14 : Option (List (List Nat)) := none
def l9_14 : List Nat := []
theorem cd9_14 : dOk d9_14 g9_14 l9_14 = true := by kernel_rfl
def g9_15 : List G := [⟨(some 107), .mv (.t 19), none⟩,
  ⟨(some 108), .bin .add (.t 107) (.c (.int .i64 (1))), none⟩,
  ⟨(some 19), .mv (.t 108), none⟩]
def d9_15 : Option (List (List Nat)) := none
def l9_15 : List Nat := []
theorem cd9_15 : dOk d9_15 g9_15 l9_15 = true := by kernel_rfl
def g9_16 : List G := [⟨(some 150), .call 21 [], none⟩,
  ⟨(some 6), .mv (.t 150), none⟩]
def d9_16 : Option (List (List Nat)) := none
def l9_16 : List Nat := []
theorem cd9_16 : dOk d9_16 g9_16 l9_16 = true := by kernel_rfl
def c9 : AC := (.seq (.reg d9_0 g9_0) (.seq (.reg d9_1 g9_1) (.seq (.reg d9_2 g9_2) (.seq (.reg d9_3 g9_3) (.seq (.reg d9_4 g9_4) (.seq (.reg d9_5 g9_5) (.seq (.reg d9_6 g9_6) (.seq (.seq (.reg d9_7 g9_7) (.cond (.t 104) (.seq (.reg d9_8 g9_8) .ret) .skip)) (.seq (.seq (.reg d9_9 g9_9) (.block 0 (.loop (.seq (.seq (.reg d9_10 g9_10) (.cond (.t 106) .skip (.exit 0))) (.seq (.block 1 (.seq (.reg d9_11 g9_11) (.seq (.reg d9_12 g9_12) (.seq (.reg d9_13 g9_13) (.cond (.t 149) (.seq (.reg d9_14 g9_14) .ret) .skip))))) (.reg d9_15 g9_15)))))) (.seq (.reg d9_16 g9_16) .ret))))))))))
def r9 : List RV := [.tmp 6]
theorem cc9 : (Try.f9.body.bind (cCode Try.prog Try.f9.ntmps)) = some c9 := by kernel_rfl
theorem cr9 : cRes Try.prog Try.f9.results.toList = some r9 := by kernel_rfl
theorem ca9 : callable Try.prog 9 = true := by kernel_rfl
-- 12 pinfold/mark.Look
def g12_0 : List G := [⟨(some 2), .box (.t 0), none⟩,
  ⟨(some 3), .box (.t 1), none⟩,
  ⟨(some 4), .mv (.c (.nils 1)), none⟩,
  ⟨(some 5), .mv (.c (.int .i64 (0))), none⟩]
def d12_0 : Option (List (List Nat)) := none
def l12_0 : List Nat := []
theorem cd12_0 : dOk d12_0 g12_0 l12_0 = true := by kernel_rfl
def g12_1 : List G := [⟨(some 14), .ld (some 7) (.t 2), none⟩,
  ⟨(some 15), .call 47 [(.t 14)], none⟩,
  ⟨(some 16), .ld (some 6) (.t 3), none⟩,
  ⟨(some 17), .call 45 [(.t 16)], none⟩,
  ⟨(some 18), .bs 1 [(.t 15), (.t 17)], none⟩,
  ⟨(some 19), .call 64 [(.t 18)], none⟩,
  ⟨(some 6), .mv (.t 19), none⟩]
def d12_1 : Option (List (List Nat)) := (some [[], [0], [], [2, 1], [1, 3], [4, 3], [5, 5, 0, 1, 2, 3, 4, 5]])
def l12_1 : List Nat := [0, 1, 0, 7, 15, 31, 63]
theorem cd12_1 : dOk d12_1 g12_1 l12_1 = true := by kernel_rfl
def g12_2 : List G := [⟨(some 20), .mv (.t 6), none⟩,
  ⟨(some 21), .bin .neq (.t 20) (.c (.int .i64 (0))), none⟩]
def d12_2 : Option (List (List Nat)) := none
def l12_2 : List Nat := []
theorem cd12_2 : dOk d12_2 g12_2 l12_2 = true := by kernel_rfl
def g12_3 : List G := [⟨(some 22), .mv (.t 6), none⟩,
  ⟨(some 4), .mv (.c (.nils 1)), none⟩,
  ⟨(some 5), .mv (.t 22), none⟩]
def d12_3 : Option (List (List Nat)) := none
def l12_3 : List Nat := []
theorem cd12_3 : dOk d12_3 g12_3 l12_3 = true := by kernel_rfl
def g12_4 : List G := [⟨(some 23), .ld (some 7) (.t 2), none⟩,
  ⟨(some 24), .ld (some 6) (.t 3), none⟩,
  ⟨(some 25), .call 65 [(.t 23), (.t 24)], none⟩,
  ⟨(some 7), .mv (.t 25), none⟩]
def d12_4 : Option (List (List Nat)) := none
def l12_4 : List Nat := []
theorem cd12_4 : dOk d12_4 g12_4 l12_4 = true := by kernel_rfl
def g12_5 : List G := [⟨(some 8), .mv (.c (.nils 1)), none⟩]
def d12_5 : Option (List (List Nat)) := none
def l12_5 : List Nat := []
theorem cd12_5 : dOk d12_5 g12_5 l12_5 = true := by kernel_rfl
def g12_6 : List G := [⟨(some 9), .mv (.c (.bool false)), none⟩]
def d12_6 : Option (List (List Nat)) := none
def l12_6 : List Nat := []
theorem cd12_6 : dOk d12_6 g12_6 l12_6 = true := by kernel_rfl
def g12_7 : List G := [⟨(some 26), .mv (.c (.int .i64 (0))), none⟩]
def d12_7 : Option (List (List Nat)) := none
def l12_7 : List Nat := []
theorem cd12_7 : dOk d12_7 g12_7 l12_7 = true := by kernel_rfl
def g12_8 : List G := [⟨(some 27), .bin .lss (.t 26) (.c (.int .i64 (64))), none⟩]
def d12_8 : Option (List (List Nat)) := none
def l12_8 : List Nat := []
theorem cd12_8 : dOk d12_8 g12_8 l12_8 = true := by kernel_rfl
def g12_9 : List G := [⟨(some 28), .mv (.t 26), none⟩,
  ⟨(some 10), .mv (.t 28), none⟩]
def d12_9 : Option (List (List Nat)) := none
def l12_9 : List Nat := []
theorem cd12_9 : dOk d12_9 g12_9 l12_9 = true := by kernel_rfl
def g12_10 : List G := [⟨(some 11), .mv (.c (.nils 1)), none⟩]
def d12_10 : Option (List (List Nat)) := none
def l12_10 : List Nat := []
theorem cd12_10 : dOk d12_10 g12_10 l12_10 = true := by kernel_rfl
def g12_11 : List G := [⟨(some 29), .mv (.c (.int .i64 (0))), none⟩]
def d12_11 : Option (List (List Nat)) := none
def l12_11 : List Nat := []
theorem cd12_11 : dOk d12_11 g12_11 l12_11 = true := by kernel_rfl
def g12_12 : List G := [⟨(some 30), .bin .lss (.t 29) (.c (.int .i64 (6))), none⟩]
def d12_12 : Option (List (List Nat)) := none
def l12_12 : List Nat := []
theorem cd12_12 : dOk d12_12 g12_12 l12_12 = true := by kernel_rfl
def g12_13 : List G := [⟨(some 31), .mv (.t 29), none⟩,
  ⟨(some 12), .mv (.t 31), none⟩]
def d12_13 : Option (List (List Nat)) := none
def l12_13 : List Nat := []
theorem cd12_13 : dOk d12_13 g12_13 l12_13 = true := by kernel_rfl
def g12_14 : List G := [⟨(some 32), .mv (.t 10), none⟩,
  ⟨(some 33), .mv (.t 12), none⟩,
  ⟨(some 34), .bin .shr (.t 32) (.t 33), none⟩,
  ⟨(some 35), .bin .and (.t 34) (.c (.int .i64 (1))), none⟩,
  ⟨(some 36), .bin .eql (.t 35) (.c (.int .i64 (1))), none⟩]
def d12_14 : Option (List (List Nat)) := none
def l12_14 : List Nat := []
theorem cd12_14 : dOk d12_14 g12_14 l12_14 = true := by kernel_rfl
def g12_15 : List G := [⟨(some 37), .mv (.t 11), none⟩,
  ⟨(some 38), .mv (.t 12), none⟩,
  ⟨(some 39), .bs 1 [(.t 38)], none⟩,
  ⟨(some 40), .app 3 1 8 (.int .i64 (0)) (.t 37) (.t 39), none⟩,
  ⟨(some 11), .mv (.t 40), none⟩]
def d12_15 : Option (List (List Nat)) := none
def l12_15 : List Nat := []
theorem cd12_15 : dOk d12_15 g12_15 l12_15 = true := by kernel_rfl
def g12_16 : List G := [⟨(some 41), .bin .add (.t 29) (.c (.int .i64 (1))), none⟩,
  ⟨(some 29), .mv (.t 41), none⟩]
def d12_16 : Option (List (List Nat)) := none
def l12_16 : List Nat := []
theorem cd12_16 : dOk d12_16 g12_16 l12_16 = true := by kernel_rfl
def g12_17 : List G := [⟨(some 42), .mv (.t 9), none⟩,
  ⟨(some 43), .un .not (.t 42), none⟩,
  ⟨(some 44), .mv (.t 43), none⟩,
  ⟨(some 45), .mv (.t 11), some (44, false)⟩,
  ⟨(some 46), .len (.t 45), some (44, false)⟩,
  ⟨(some 47), .mv (.t 8), some (44, false)⟩,
  ⟨(some 48), .len (.t 47), some (44, false)⟩,
  ⟨(some 49), .bin .lss (.t 46) (.t 48), some (44, false)⟩,
  ⟨(some 50), .pick (.t 44) (.c (.bool true)) (.t 49), none⟩,
  ⟨(some 51), .mv (.t 50), none⟩,
  ⟨(some 52), .mv (.t 11), some (51, false)⟩,
  ⟨(some 53), .len (.t 52), some (51, false)⟩,
  ⟨(some 54), .mv (.t 8), some (51, false)⟩,
  ⟨(some 55), .len (.t 54), some (51, false)⟩,
  ⟨(some 56), .bin .eql (.t 53) (.t 55), some (51, false)⟩,
  ⟨(some 57), .mv (.t 56), some (51, false)⟩,
  ⟨(some 58), .mv (.t 11), some (57, true)⟩,
  ⟨(some 59), .mv (.t 8), some (57, true)⟩,
  ⟨(some 60), .call 66 [(.t 58), (.t 59)], some (57, true)⟩,
  ⟨(some 61), .bin .lss (.t 60) (.c (.int .i64 (0))), some (57, true)⟩,
  ⟨(some 62), .pick (.t 57) (.t 61) (.c (.bool false)), some (51, false)⟩,
  ⟨(some 63), .pick (.t 51) (.c (.bool true)) (.t 62), none⟩,
  ⟨(some 13), .mv (.t 63), none⟩]
def d12_17 : Option (List (List Nat)) := none
def l12_17 : List Nat := []
theorem cd12_17 : dOk d12_17 g12_17 l12_17 = true := by kernel_rfl
def g12_18 : List G := [⟨(some 64), .mv (.t 13), none⟩,
  ⟨(some 65), .mv (.t 64), none⟩,
  ⟨(some 66), .fa 0 0 (.t 2), some (65, true)⟩,
  ⟨(some 67), .ld (some 5) (.t 66), some (65, true)⟩,
  ⟨(some 68), .mv (.t 7), some (65, true)⟩,
  ⟨(some 69), .mv (.t 11), some (65, true)⟩,
  ⟨(some 70), .call 67 [(.t 67), (.t 68), (.t 69)], some (65, true)⟩,
  ⟨(some 71), .pick (.t 65) (.t 70) (.c (.bool false)), none⟩]
def d12_18 : Option (List (List Nat)) := none
def l12_18 : List Nat := []
theorem cd12_18 : dOk d12_18 g12_18 l12_18 = true := by kernel_rfl
def g12_19 : List G := [⟨(some 72), .mv (.t 11), none⟩,
  ⟨(some 8), .mv (.t 72), none⟩,
  ⟨(some 9), .mv (.c (.bool true)), none⟩]
def d12_19 : Option (List (List Nat)) := none
def l12_19 : List Nat := []
theorem cd12_19 : dOk d12_19 g12_19 l12_19 = true := by kernel_rfl
def g12_20 : List G := [⟨(some 73), .bin .add (.t 26) (.c (.int .i64 (1))), none⟩,
  ⟨(some 26), .mv (.t 73), none⟩]
def d12_20 : Option (List (List Nat)) := none
def l12_20 : List Nat := []
theorem cd12_20 : dOk d12_20 g12_20 l12_20 = true := by kernel_rfl
def g12_21 : List G := [⟨(some 74), .mv (.t 8), none⟩,
  ⟨(some 4), .mv (.t 74), none⟩,
  ⟨(some 5), .mv (.c (.int .i64 (0))), none⟩]
def d12_21 : Option (List (List Nat)) := none
def l12_21 : List Nat := []
theorem cd12_21 : dOk d12_21 g12_21 l12_21 = true := by kernel_rfl
def c12 : AC := (.seq (.reg d12_0 g12_0) (.seq (.seq (.reg d12_1 g12_1) (.seq (.reg d12_2 g12_2) (.cond (.t 21) (.seq (.reg d12_3 g12_3) .ret) .skip))) (.seq (.reg d12_4 g12_4) (.seq (.reg d12_5 g12_5) (.seq (.reg d12_6 g12_6) (.seq (.seq (.reg d12_7 g12_7) (.block 0 (.loop (.seq (.reg d12_8 g12_8) (.seq (.cond (.t 27) .skip (.exit 0)) (.seq (.block 1 (.seq (.reg d12_9 g12_9) (.seq (.reg d12_10 g12_10) (.seq (.seq (.reg d12_11 g12_11) (.block 2 (.loop (.seq (.reg d12_12 g12_12) (.seq (.cond (.t 30) .skip (.exit 2)) (.seq (.block 3 (.seq (.reg d12_13 g12_13) (.seq (.reg d12_14 g12_14) (.cond (.t 36) (.reg d12_15 g12_15) .skip)))) (.reg d12_16 g12_16))))))) (.seq (.reg d12_17 g12_17) (.seq (.reg d12_18 g12_18) (.cond (.t 71) (.reg d12_19 g12_19) .skip))))))) (.reg d12_20 g12_20))))))) (.seq (.reg d12_21 g12_21) .ret)))))))
def r12 : List RV := [.tmp 4, .tmp 5]
theorem cc12 : (Try.f12.body.bind (cCode Try.prog Try.f12.ntmps)) = some c12 := by kernel_rfl
theorem cr12 : cRes Try.prog Try.f12.results.toList = some r12 := by kernel_rfl
theorem ca12 : callable Try.prog 12 = true := by kernel_rfl
-- 14 pinfold/mark.Looked
def g14_0 : List G := [⟨(some 4), .box (.t 0), none⟩,
  ⟨(some 5), .box (.t 1), none⟩,
  ⟨(some 6), .box (.t 2), none⟩,
  ⟨(some 7), .box (.t 3), none⟩,
  ⟨(some 8), .mv (.c (.nils 1)), none⟩,
  ⟨(some 9), .mv (.c (.int .i64 (0))), none⟩]
def d14_0 : Option (List (List Nat)) := none
def l14_0 : List Nat := []
theorem cd14_0 : dOk d14_0 g14_0 l14_0 = true := by kernel_rfl
def g14_1 : List G := [⟨(some 11), .ld (some 7) (.t 4), none⟩,
  ⟨(some 12), .call 47 [(.t 11)], none⟩,
  ⟨(some 13), .ld (some 6) (.t 5), none⟩,
  ⟨(some 14), .call 45 [(.t 13)], none⟩,
  ⟨(some 15), .ld (some 6) (.t 6), none⟩,
  ⟨(some 16), .call 45 [(.t 15)], none⟩,
  ⟨(some 17), .bs 1 [(.t 12), (.t 14), (.t 16)], none⟩,
  ⟨(some 18), .call 64 [(.t 17)], none⟩,
  ⟨(some 10), .mv (.t 18), none⟩]
def d14_1 : Option (List (List Nat)) := (some [[], [0], [], [2, 1], [], [4, 3], [1, 3, 5], [6, 5], [7, 7, 0, 1, 2, 3, 4, 5, 6, 7]])
def l14_1 : List Nat := [0, 1, 0, 7, 0, 31, 63, 127, 255]
theorem cd14_1 : dOk d14_1 g14_1 l14_1 = true := by kernel_rfl
def g14_2 : List G := [⟨(some 19), .mv (.t 10), none⟩,
  ⟨(some 20), .bin .neq (.t 19) (.c (.int .i64 (0))), none⟩]
def d14_2 : Option (List (List Nat)) := none
def l14_2 : List Nat := []
theorem cd14_2 : dOk d14_2 g14_2 l14_2 = true := by kernel_rfl
def g14_3 : List G := [⟨(some 21), .mv (.t 10), none⟩,
  ⟨(some 8), .mv (.c (.nils 1)), none⟩,
  ⟨(some 9), .mv (.t 21), none⟩]
def d14_3 : Option (List (List Nat)) := none
def l14_3 : List Nat := []
theorem cd14_3 : dOk d14_3 g14_3 l14_3 = true := by kernel_rfl
def g14_4 : List G := [⟨(some 22), .ld none (.t 7), none⟩,
  ⟨(some 23), .call 71 [(.t 22)], none⟩,
  ⟨(some 24), .un .not (.t 23), none⟩]
def d14_4 : Option (List (List Nat)) := none
def l14_4 : List Nat := []
theorem cd14_4 : dOk d14_4 g14_4 l14_4 = true := by kernel_rfl
def g14_5 : List G := [⟨(some 8), .mv (.c (.nils 1)), none⟩,
  ⟨(some 9), .mv (.c (.int .i64 (18))), none⟩]
def d14_5 : Option (List (List Nat)) := none
def l14_5 : List Nat := []
theorem cd14_5 : dOk d14_5 g14_5 l14_5 = true := by kernel_rfl
def g14_6 : List G := [⟨(some 25), .ld (some 7) (.t 4), none⟩,
  ⟨(some 26), .ld (some 6) (.t 5), none⟩,
  ⟨(some 27), .call 65 [(.t 25), (.t 26)], none⟩,
  ⟨(some 28), .mk 74 [(.t 7), (.t 4), (.t 6)], none⟩,
  ⟨(some 29), .call 73 [(.t 27), (.t 28)], none⟩,
  ⟨(some 30), .call 72 [(.t 29)], none⟩,
  ⟨(some 8), .mv (.t 30), none⟩,
  ⟨(some 9), .mv (.c (.int .i64 (0))), none⟩]
def d14_6 : Option (List (List Nat)) := none
def l14_6 : List Nat := []
theorem cd14_6 : dOk d14_6 g14_6 l14_6 = true := by kernel_rfl
def c14 : AC := (.seq (.reg d14_0 g14_0) (.seq (.seq (.reg d14_1 g14_1) (.seq (.reg d14_2 g14_2) (.cond (.t 20) (.seq (.reg d14_3 g14_3) .ret) .skip))) (.seq (.seq (.reg d14_4 g14_4) (.cond (.t 24) (.seq (.reg d14_5 g14_5) .ret) .skip)) (.seq (.reg d14_6 g14_6) .ret))))
def r14 : List RV := [.tmp 8, .tmp 9]
theorem cc14 : (Try.f14.body.bind (cCode Try.prog Try.f14.ntmps)) = some c14 := by kernel_rfl
theorem cr14 : cRes Try.prog Try.f14.results.toList = some r14 := by kernel_rfl
theorem ca14 : callable Try.prog 14 = true := by kernel_rfl
-- 16 pinfold/pinfoldref01.Same
def g16_0 : List G := [⟨(some 4), .mv (.c (.bool false)), none⟩]
def d16_0 : Option (List (List Nat)) := none
def l16_0 : List Nat := []
theorem cd16_0 : dOk d16_0 g16_0 l16_0 = true := by kernel_rfl
def g16_1 : List G := [⟨(some 6), .mv (.t 0), none⟩,
  ⟨(some 7), .len (.t 6), none⟩,
  ⟨(some 8), .mv (.t 1), none⟩,
  ⟨(some 9), .len (.t 8), none⟩,
  ⟨(some 10), .bin .neq (.t 7) (.t 9), none⟩]
def d16_1 : Option (List (List Nat)) := none
def l16_1 : List Nat := []
theorem cd16_1 : dOk d16_1 g16_1 l16_1 = true := by kernel_rfl
def g16_2 : List G := [⟨(some 4), .mv (.c (.bool false)), none⟩]
def d16_2 : Option (List (List Nat)) := none
def l16_2 : List Nat := []
theorem cd16_2 : dOk d16_2 g16_2 l16_2 = true := by kernel_rfl
def g16_3 : List G := [⟨(some 5), .mv (.c (.int .i64 (0))), none⟩]
def d16_3 : Option (List (List Nat)) := none
def l16_3 : List Nat := []
theorem cd16_3 : dOk d16_3 g16_3 l16_3 = true := by kernel_rfl
def g16_4 : List G := [⟨(some 11), .mv (.t 5), none⟩,
  ⟨(some 12), .mv (.t 0), none⟩,
  ⟨(some 13), .len (.t 12), none⟩,
  ⟨(some 14), .bin .lss (.t 11) (.t 13), none⟩]
def d16_4 : Option (List (List Nat)) := none
def l16_4 : List Nat := []
theorem cd16_4 : dOk d16_4 g16_4 l16_4 = true := by kernel_rfl
def g16_5 : List G := [⟨(some 17), .mv (.t 0), none⟩,
  ⟨(some 18), .mv (.t 5), none⟩,
  ⟨(some 19), .is 1 (.t 17) (.t 18), none⟩,
  ⟨(some 20), .ld none (.t 19), none⟩,
  ⟨(some 21), .mv (.t 1), none⟩,
  ⟨(some 22), .mv (.t 5), none⟩,
  ⟨(some 23), .is 1 (.t 21) (.t 22), none⟩,
  ⟨(some 24), .ld none (.t 23), none⟩,
  ⟨(some 25), .bin .neq (.t 20) (.t 24), none⟩]
def d16_5 : Option (List (List Nat)) := (some [[], [], [0, 1], [2], [], [], [4, 5], [6], [3, 7]])
def l16_5 : List Nat := [0, 0, 3, 7, 0, 0, 48, 112, 255]
theorem cd16_5 : dOk d16_5 g16_5 l16_5 = true := by kernel_rfl
def g16_6 : List G := [⟨(some 4), .mv (.c (.bool false)), none⟩]
def d16_6 : Option (List (List Nat)) := none
def l16_6 : List Nat := []
theorem cd16_6 : dOk d16_6 g16_6 l16_6 = true := by kernel_rfl
def g16_7 : List G := [⟨(some 15), .mv (.t 5), none⟩,
  ⟨(some 16), .bin .add (.t 15) (.c (.int .i64 (1))), none⟩,
  ⟨(some 5), .mv (.t 16), none⟩]
def d16_7 : Option (List (List Nat)) := none
def l16_7 : List Nat := []
theorem cd16_7 : dOk d16_7 g16_7 l16_7 = true := by kernel_rfl
def g16_8 : List G := [⟨(some 4), .mv (.c (.bool true)), none⟩]
def d16_8 : Option (List (List Nat)) := none
def l16_8 : List Nat := []
theorem cd16_8 : dOk d16_8 g16_8 l16_8 = true := by kernel_rfl
def c16 : AC := (.seq (.reg d16_0 g16_0) (.seq (.seq (.reg d16_1 g16_1) (.cond (.t 10) (.seq (.reg d16_2 g16_2) .ret) .skip)) (.seq (.seq (.reg d16_3 g16_3) (.block 0 (.loop (.seq (.seq (.reg d16_4 g16_4) (.cond (.t 14) .skip (.exit 0))) (.seq (.block 1 (.seq (.reg d16_5 g16_5) (.cond (.t 25) (.seq (.reg d16_6 g16_6) .ret) .skip))) (.reg d16_7 g16_7)))))) (.seq (.reg d16_8 g16_8) .ret))))
def r16 : List RV := [.tmp 4]
theorem cc16 : (Try.f16.body.bind (cCode Try.prog Try.f16.ntmps)) = some c16 := by kernel_rfl
theorem cr16 : cRes Try.prog Try.f16.results.toList = some r16 := by kernel_rfl
theorem ca16 : callable Try.prog 16 = true := by kernel_rfl
-- 19 pinfold/mark.Worn
def g19_0 : List G := [⟨(some 3), .box (.t 0), none⟩,
  ⟨(some 4), .box (.t 1), none⟩,
  ⟨(some 6), .alloc (.agg [.int .i64 (0), .int .i64 (0), .int .i64 (0), .int .i64 (0), .int .i64 (0), .int .i64 (0)]), none⟩,
  ⟨(some 7), .mv (.c (.int .i64 (0))), none⟩]
def d19_0 : Option (List (List Nat)) := none
def l19_0 : List Nat := []
theorem cd19_0 : dOk d19_0 g19_0 l19_0 = true := by kernel_rfl
def g19_1 : List G := [⟨(some 13), .ld (some 5) (.t 3), none⟩,
  ⟨(some 14), .call 43 [(.t 13)], none⟩,
  ⟨(some 15), .ld (some 6) (.t 4), none⟩,
  ⟨(some 16), .call 41 [(.t 15)], none⟩,
  ⟨(some 17), .bs 1 [(.t 14), (.t 16)], none⟩,
  ⟨(some 18), .call 64 [(.t 17)], none⟩,
  ⟨(some 8), .mv (.t 18), none⟩]
def d19_1 : Option (List (List Nat)) := (some [[], [0], [], [2, 1], [1, 3], [4, 3], [5, 5, 0, 1, 2, 3, 4, 5]])
def l19_1 : List Nat := [0, 1, 0, 7, 15, 31, 63]
theorem cd19_1 : dOk d19_1 g19_1 l19_1 = true := by kernel_rfl
def g19_2 : List G := [⟨(some 19), .mv (.t 8), none⟩,
  ⟨(some 20), .bin .neq (.t 19) (.c (.int .i64 (0))), none⟩]
def d19_2 : Option (List (List Nat)) := none
def l19_2 : List Nat := []
theorem cd19_2 : dOk d19_2 g19_2 l19_2 = true := by kernel_rfl
def g19_3 : List G := [⟨(some 21), .bld [.int .i64 (0), .int .i64 (0), .int .i64 (0), .int .i64 (0), .int .i64 (0), .int .i64 (0)] [], none⟩,
  ⟨(some 22), .mv (.t 8), none⟩,
  ⟨none, .st (some 6) (.t 6) (.t 21), none⟩,
  ⟨(some 7), .mv (.t 22), none⟩]
def d19_3 : Option (List (List Nat)) := none
def l19_3 : List Nat := []
theorem cd19_3 : dOk d19_3 g19_3 l19_3 = true := by kernel_rfl
def g19_4 : List G := [⟨(some 9), .alloc (.agg [.int .i64 (0), .int .i64 (0), .int .i64 (0), .int .i64 (0), .int .i64 (0), .int .i64 (0)]), none⟩]
def d19_4 : Option (List (List Nat)) := none
def l19_4 : List Nat := []
theorem cd19_4 : dOk d19_4 g19_4 l19_4 = true := by kernel_rfl
def g19_5 : List G := [⟨(some 23), .mv (.c (.int .i64 (0))), none⟩]
def d19_5 : Option (List (List Nat)) := none
def l19_5 : List Nat := []
theorem cd19_5 : dOk d19_5 g19_5 l19_5 = true := by kernel_rfl
def g19_6 : List G := [⟨(some 24), .bin .lss (.t 23) (.c (.int .i64 (6))), none⟩]
def d19_6 : Option (List (List Nat)) := none
def l19_6 : List Nat := []
theorem cd19_6 : dOk d19_6 g19_6 l19_6 = true := by kernel_rfl
def g19_7 : List G := [⟨(some 25), .mv (.t 23), none⟩,
  ⟨(some 10), .mv (.t 25), none⟩]
def d19_7 : Option (List (List Nat)) := none
def l19_7 : List Nat := []
theorem cd19_7 : dOk d19_7 g19_7 l19_7 = true := by kernel_rfl
def g19_8 : List G := [⟨(some 26), .ld (some 5) (.t 3), none⟩,
  ⟨(some 27), .ld (some 6) (.t 4), none⟩,
  ⟨(some 28), .mv (.t 10), none⟩,
  ⟨(some 29), .call 77 [(.t 26), (.t 27), (.t 28)], none⟩,
  ⟨(some 30), .call 81 [(.t 29)], none⟩,
  ⟨(some 11), .mv (.t 30), none⟩]
def d19_8 : Option (List (List Nat)) := none
def l19_8 : List Nat := []
theorem cd19_8 : dOk d19_8 g19_8 l19_8 = true := by kernel_rfl
def g19_9 : List G := [⟨(some 12), .mv (.c (.int .i64 (0))), none⟩]
def d19_9 : Option (List (List Nat)) := none
def l19_9 : List Nat := []
theorem cd19_9 : dOk d19_9 g19_9 l19_9 = true := by kernel_rfl
def g19_10 : List G := [⟨(some 31), .mv (.t 2), none⟩,
  ⟨(some 32), .len (.t 31), none⟩,
  ⟨(some 33), .bin .gtr (.t 32) (.c (.int .i64 (0))), none⟩]
def d19_10 : Option (List (List Nat)) := none
def l19_10 : List Nat := []
theorem cd19_10 : dOk d19_10 g19_10 l19_10 = true := by kernel_rfl
def g19_11 : List G := [⟨(some 34), .mv (.t 2), none⟩,
  ⟨(some 35), .mv (.t 10), none⟩,
  ⟨(some 36), .mv (.t 2), none⟩,
  ⟨(some 37), .len (.t 36), none⟩,
  ⟨(some 38), .bin .rem (.t 35) (.t 37), none⟩,
  ⟨(some 39), .is 1 (.t 34) (.t 38), none⟩,
  ⟨(some 40), .ld none (.t 39), none⟩,
  ⟨(some 41), .mv (.t 11), none⟩,
  ⟨(some 42), .len (.t 41), none⟩,
  ⟨(some 43), .bin .rem (.t 40) (.t 42), none⟩,
  ⟨(some 44), .mv (.t 11), none⟩,
  ⟨(some 45), .len (.t 44), none⟩,
  ⟨(some 46), .bin .add (.t 43) (.t 45), none⟩,
  ⟨(some 47), .mv (.t 11), none⟩,
  ⟨(some 48), .len (.t 47), none⟩,
  ⟨(some 49), .bin .rem (.t 46) (.t 48), none⟩,
  ⟨(some 12), .mv (.t 49), none⟩]
def d19_11 : Option (List (List Nat)) := none
def l19_11 : List Nat := []
theorem cd19_11 : dOk d19_11 g19_11 l19_11 = true := by kernel_rfl
def g19_12 : List G := [⟨(some 50), .mv (.t 10), none⟩,
  ⟨(some 51), .mv (.t 11), none⟩,
  ⟨(some 52), .mv (.t 12), none⟩,
  ⟨(some 53), .is 1 (.t 51) (.t 52), none⟩,
  ⟨(some 54), .ld none (.t 53), none⟩,
  ⟨(some 55), .bin .shl (.c (.int .i64 (1))) (.t 54), none⟩,
  ⟨(some 56), .ia 6 1 (.t 9) (.t 50), none⟩,
  ⟨none, .st none (.t 56) (.t 55), none⟩]
def d19_12 : Option (List (List Nat)) := none
def l19_12 : List Nat := []
theorem cd19_12 : dOk d19_12 g19_12 l19_12 = true := by kernel_rfl
def g19_13 : List G := [⟨(some 57), .bin .add (.t 23) (.c (.int .i64 (1))), none⟩,
  ⟨(some 23), .mv (.t 57), none⟩]
def d19_13 : Option (List (List Nat)) := none
def l19_13 : List Nat := []
theorem cd19_13 : dOk d19_13 g19_13 l19_13 = true := by kernel_rfl
def g19_14 : List G := [⟨(some 58), .ld (some 6) (.t 9), none⟩,
  ⟨none, .st (some 6) (.t 6) (.t 58), none⟩,
  ⟨(some 7), .mv (.c (.int .i64 (0))), none⟩]
def d19_14 : Option (List (List Nat)) := none
def l19_14 : List Nat := []
theorem cd19_14 : dOk d19_14 g19_14 l19_14 = true := by kernel_rfl
def c19 : AC := (.seq (.reg d19_0 g19_0) (.seq (.seq (.reg d19_1 g19_1) (.seq (.reg d19_2 g19_2) (.cond (.t 20) (.seq (.reg d19_3 g19_3) .ret) .skip))) (.seq (.reg d19_4 g19_4) (.seq (.seq (.reg d19_5 g19_5) (.block 0 (.loop (.seq (.reg d19_6 g19_6) (.seq (.cond (.t 24) .skip (.exit 0)) (.seq (.block 1 (.seq (.reg d19_7 g19_7) (.seq (.reg d19_8 g19_8) (.seq (.reg d19_9 g19_9) (.seq (.seq (.reg d19_10 g19_10) (.cond (.t 33) (.reg d19_11 g19_11) .skip)) (.reg d19_12 g19_12)))))) (.reg d19_13 g19_13))))))) (.seq (.reg d19_14 g19_14) .ret)))))
def r19 : List RV := [.cell 6 (some 6), .tmp 7]
theorem cc19 : (Try.f19.body.bind (cCode Try.prog Try.f19.ntmps)) = some c19 := by kernel_rfl
theorem cr19 : cRes Try.prog Try.f19.results.toList = some r19 := by kernel_rfl
theorem ca19 : callable Try.prog 19 = true := by kernel_rfl
-- 21 pinfold/pinfoldlaw01.sane
def g21_0 : List G := [⟨(some 0), .mv (.c (.bool false)), none⟩]
def d21_0 : Option (List (List Nat)) := none
def l21_0 : List Nat := []
theorem cd21_0 : dOk d21_0 g21_0 l21_0 = true := by kernel_rfl
def g21_1 : List G := [⟨(some 16), .call 82 [], none⟩,
  ⟨(some 1), .alloc (.agg [.agg [.int .i64 (0), .int .i64 (0), .int .i64 (0), .int .i64 (0), .int .i64 (0)], .int .i64 (0), .nils 7]), none⟩,
  ⟨none, .st (some 7) (.t 1) (.t 16), none⟩]
def d21_1 : Option (List (List Nat)) := none
def l21_1 : List Nat := []
theorem cd21_1 : dOk d21_1 g21_1 l21_1 = true := by kernel_rfl
def g21_2 : List G := [⟨(some 17), .bld [.int .i64 (0), .int .i64 (0), .int .i64 (0), .int .i64 (0), .int .i64 (0), .int .i64 (0)] [(0, (.c (.int .i64 (31)))), (1, (.c (.int .i64 (1)))), (2, (.c (.int .i64 (1)))), (3, (.c (.int .i64 (1)))), (4, (.c (.int .i64 (1)))), (5, (.c (.int .i64 (31))))], none⟩,
  ⟨(some 2), .alloc (.agg [.int .i64 (0), .int .i64 (0), .int .i64 (0), .int .i64 (0), .int .i64 (0), .int .i64 (0)]), none⟩,
  ⟨none, .st (some 6) (.t 2) (.t 17), none⟩]
def d21_2 : Option (List (List Nat)) := none
def l21_2 : List Nat := []
theorem cd21_2 : dOk d21_2 g21_2 l21_2 = true := by kernel_rfl
def g21_3 : List G := [⟨(some 19), .ld (some 7) (.t 1), none⟩,
  ⟨(some 20), .ld (some 6) (.t 2), none⟩,
  ⟨(some 21), .call 26 [(.t 19), (.t 20)], none⟩,
  ⟨(some 18), .mv (.t 21), none⟩,
  ⟨(some 22), .ext (.t 18) 0, none⟩,
  ⟨(some 23), .ext (.t 18) 1, none⟩,
  ⟨(some 3), .mv (.t 22), none⟩,
  ⟨(some 4), .mv (.t 23), none⟩]
def d21_3 : Option (List (List Nat)) := none
def l21_3 : List Nat := []
theorem cd21_3 : dOk d21_3 g21_3 l21_3 = true := by kernel_rfl
def g21_4 : List G := [⟨(some 25), .ld (some 7) (.t 1), none⟩,
  ⟨(some 26), .ld (some 6) (.t 2), none⟩,
  ⟨(some 27), .call 12 [(.t 25), (.t 26)], none⟩,
  ⟨(some 24), .mv (.t 27), none⟩,
  ⟨(some 28), .ext (.t 24) 0, none⟩,
  ⟨(some 29), .ext (.t 24) 1, none⟩,
  ⟨(some 5), .mv (.t 28), none⟩,
  ⟨(some 6), .mv (.t 29), none⟩]
def d21_4 : Option (List (List Nat)) := none
def l21_4 : List Nat := []
theorem cd21_4 : dOk d21_4 g21_4 l21_4 = true := by kernel_rfl
def g21_5 : List G := [⟨(some 31), .ld (some 7) (.t 1), none⟩,
  ⟨(some 32), .ld (some 6) (.t 2), none⟩,
  ⟨(some 33), .bld [.int .i64 (0), .int .i64 (0), .int .i64 (0), .int .i64 (0), .int .i64 (0), .int .i64 (0)] [(0, (.c (.int .i64 (16)))), (1, (.c (.int .i64 (1)))), (2, (.c (.int .i64 (1)))), (3, (.c (.int .i64 (1)))), (4, (.c (.int .i64 (1)))), (5, (.c (.int .i64 (1))))], none⟩,
  ⟨(some 34), .bs 1 [(.c (.int .i64 (0)))], none⟩,
  ⟨(some 35), .call 14 [(.t 31), (.t 32), (.t 33), (.t 34)], none⟩,
  ⟨(some 30), .mv (.t 35), none⟩,
  ⟨(some 36), .ext (.t 30) 0, none⟩,
  ⟨(some 37), .ext (.t 30) 1, none⟩,
  ⟨(some 7), .mv (.t 36), none⟩,
  ⟨(some 8), .mv (.t 37), none⟩]
def d21_5 : Option (List (List Nat)) := none
def l21_5 : List Nat := []
theorem cd21_5 : dOk d21_5 g21_5 l21_5 = true := by kernel_rfl
def g21_6 : List G := [⟨(some 39), .ld (some 7) (.t 1), none⟩,
  ⟨(some 40), .call 55 [(.t 39)], none⟩,
  ⟨(some 38), .mv (.t 40), none⟩,
  ⟨(some 41), .ext (.t 38) 0, none⟩,
  ⟨(some 42), .ext (.t 38) 1, none⟩,
  ⟨(some 9), .alloc (.agg [.int .i64 (0), .int .i64 (0), .int .i64 (0), .int .i64 (0), .int .i64 (0), .int .i64 (0)]), none⟩,
  ⟨none, .st (some 6) (.t 9) (.t 41), none⟩,
  ⟨(some 10), .mv (.t 42), none⟩]
def d21_6 : Option (List (List Nat)) := none
def l21_6 : List Nat := []
theorem cd21_6 : dOk d21_6 g21_6 l21_6 = true := by kernel_rfl
def g21_7 : List G := [⟨(some 44), .fa 0 0 (.t 1), none⟩,
  ⟨(some 45), .ld (some 5) (.t 44), none⟩,
  ⟨(some 46), .bld [.int .i64 (0), .int .i64 (0), .int .i64 (0), .int .i64 (0), .int .i64 (0), .int .i64 (0)] [(0, (.c (.int .i64 (2)))), (1, (.c (.int .i64 (1)))), (2, (.c (.int .i64 (0)))), (3, (.c (.int .i64 (0)))), (4, (.c (.int .i64 (0)))), (5, (.c (.int .i64 (0))))], none⟩,
  ⟨(some 47), .bld [.int .i64 (0), .int .i64 (0), .int .i64 (0), .int .i64 (0), .int .i64 (0), .int .i64 (0)] [(0, (.c (.int .i64 (3)))), (1, (.c (.int .i64 (2)))), (2, (.c (.int .i64 (0)))), (3, (.c (.int .i64 (0)))), (4, (.c (.int .i64 (0)))), (5, (.c (.int .i64 (0))))], none⟩,
  ⟨(some 48), .call 36 [(.t 45), (.t 46), (.t 47)], none⟩,
  ⟨(some 43), .mv (.t 48), none⟩,
  ⟨(some 49), .ext (.t 43) 0, none⟩,
  ⟨(some 50), .ext (.t 43) 1, none⟩,
  ⟨(some 11), .mv (.t 49), none⟩,
  ⟨(some 12), .mv (.t 50), none⟩]
def d21_7 : Option (List (List Nat)) := none
def l21_7 : List Nat := []
theorem cd21_7 : dOk d21_7 g21_7 l21_7 = true := by kernel_rfl
def g21_8 : List G := [⟨(some 52), .fa 0 0 (.t 1), none⟩,
  ⟨(some 53), .ld (some 5) (.t 52), none⟩,
  ⟨(some 54), .bld [.int .i64 (0), .int .i64 (0), .int .i64 (0), .int .i64 (0), .int .i64 (0), .int .i64 (0)] [(0, (.c (.int .i64 (3)))), (1, (.c (.int .i64 (1)))), (2, (.c (.int .i64 (0)))), (3, (.c (.int .i64 (0)))), (4, (.c (.int .i64 (0)))), (5, (.c (.int .i64 (0))))], none⟩,
  ⟨(some 55), .bs 1 [(.c (.int .i64 (1))), (.c (.int .i64 (0)))], none⟩,
  ⟨(some 56), .call 19 [(.t 53), (.t 54), (.t 55)], none⟩,
  ⟨(some 51), .mv (.t 56), none⟩,
  ⟨(some 57), .ext (.t 51) 0, none⟩,
  ⟨(some 58), .ext (.t 51) 1, none⟩,
  ⟨(some 13), .alloc (.agg [.int .i64 (0), .int .i64 (0), .int .i64 (0), .int .i64 (0), .int .i64 (0), .int .i64 (0)]), none⟩,
  ⟨none, .st (some 6) (.t 13) (.t 57), none⟩,
  ⟨(some 14), .mv (.t 58), none⟩]
def d21_8 : Option (List (List Nat)) := none
def l21_8 : List Nat := []
theorem cd21_8 : dOk d21_8 g21_8 l21_8 = true := by kernel_rfl
def g21_9 : List G := [⟨(some 59), .mv (.t 4), none⟩,
  ⟨(some 60), .bin .eql (.t 59) (.c (.int .i64 (0))), none⟩,
  ⟨(some 61), .mv (.t 60), none⟩,
  ⟨(some 62), .mv (.t 6), some (61, true)⟩,
  ⟨(some 63), .bin .eql (.t 62) (.c (.int .i64 (0))), some (61, true)⟩,
  ⟨(some 64), .pick (.t 61) (.t 63) (.c (.bool false)), none⟩,
  ⟨(some 65), .mv (.t 64), none⟩,
  ⟨(some 66), .mv (.t 8), some (65, true)⟩,
  ⟨(some 67), .bin .eql (.t 66) (.c (.int .i64 (0))), some (65, true)⟩,
  ⟨(some 68), .pick (.t 65) (.t 67) (.c (.bool false)), none⟩,
  ⟨(some 69), .mv (.t 68), none⟩,
  ⟨(some 70), .mv (.t 10), some (69, true)⟩,
  ⟨(some 71), .bin .eql (.t 70) (.c (.int .i64 (0))), some (69, true)⟩,
  ⟨(some 72), .pick (.t 69) (.t 71) (.c (.bool false)), none⟩,
  ⟨(some 73), .mv (.t 72), none⟩,
  ⟨(some 74), .mv (.t 12), some (73, true)⟩,
  ⟨(some 75), .bin .eql (.t 74) (.c (.int .i64 (0))), some (73, true)⟩,
  ⟨(some 76), .pick (.t 73) (.t 75) (.c (.bool false)), none⟩,
  ⟨(some 77), .mv (.t 76), none⟩,
  ⟨(some 78), .mv (.t 14), some (77, true)⟩,
  ⟨(some 79), .bin .eql (.t 78) (.c (.int .i64 (0))), some (77, true)⟩,
  ⟨(some 80), .pick (.t 77) (.t 79) (.c (.bool false)), none⟩,
  ⟨(some 15), .mv (.t 80), none⟩]
def d21_9 : Option (List (List Nat)) := none
def l21_9 : List Nat := []
theorem cd21_9 : dOk d21_9 g21_9 l21_9 = true := by kernel_rfl
def g21_10 : List G := [⟨(some 81), .mv (.t 15), none⟩,
  ⟨(some 82), .mv (.t 81), none⟩,
  ⟨(some 83), .mv (.t 3), some (82, true)⟩,
  ⟨(some 84), .bs 1 [(.c (.int .i64 (1))), (.c (.int .i64 (2))), (.c (.int .i64 (3)))], some (82, true)⟩,
  ⟨(some 85), .call 16 [(.t 83), (.t 84)], some (82, true)⟩,
  ⟨(some 86), .pick (.t 82) (.t 85) (.c (.bool false)), none⟩,
  ⟨(some 87), .mv (.t 86), none⟩,
  ⟨(some 88), .mv (.t 5), some (87, true)⟩,
  ⟨(some 89), .bs 1 [(.c (.int .i64 (0)))], some (87, true)⟩,
  ⟨(some 90), .call 16 [(.t 88), (.t 89)], some (87, true)⟩,
  ⟨(some 91), .pick (.t 87) (.t 90) (.c (.bool false)), none⟩,
  ⟨(some 92), .mv (.t 91), none⟩,
  ⟨(some 93), .mv (.t 7), some (92, true)⟩,
  ⟨(some 94), .bs 1 [(.c (.int .i64 (3)))], some (92, true)⟩,
  ⟨(some 95), .call 16 [(.t 93), (.t 94)], some (92, true)⟩,
  ⟨(some 96), .pick (.t 92) (.t 95) (.c (.bool false)), none⟩,
  ⟨(some 97), .mv (.t 96), none⟩,
  ⟨(some 98), .ld (some 6) (.t 9), some (97, true)⟩,
  ⟨(some 99), .bld [.int .i64 (0), .int .i64 (0), .int .i64 (0), .int .i64 (0), .int .i64 (0), .int .i64 (0)] [(0, (.c (.int .i64 (0)))), (1, (.c (.int .i64 (0)))), (2, (.c (.int .i64 (0)))), (3, (.c (.int .i64 (0)))), (4, (.c (.int .i64 (0)))), (5, (.c (.int .i64 (2))))], some (97, true)⟩,
  ⟨(some 100), .eqv (.ar 6 (.i .i64)) false (.t 98) (.t 99), some (97, true)⟩,
  ⟨(some 101), .pick (.t 97) (.t 100) (.c (.bool false)), none⟩,
  ⟨(some 102), .mv (.t 101), none⟩,
  ⟨(some 103), .mv (.t 11), some (102, true)⟩,
  ⟨(some 104), .bin .eql (.t 103) (.c (.int .i64 (2))), some (102, true)⟩,
  ⟨(some 105), .pick (.t 102) (.t 104) (.c (.bool false)), none⟩,
  ⟨(some 106), .mv (.t 105), none⟩,
  ⟨(some 107), .ld (some 6) (.t 13), some (106, true)⟩,
  ⟨(some 108), .bld [.int .i64 (0), .int .i64 (0), .int .i64 (0), .int .i64 (0), .int .i64 (0), .int .i64 (0)] [(0, (.c (.int .i64 (16)))), (1, (.c (.int .i64 (1)))), (2, (.c (.int .i64 (1)))), (3, (.c (.int .i64 (1)))), (4, (.c (.int .i64 (1)))), (5, (.c (.int .i64 (1))))], some (106, true)⟩,
  ⟨(some 109), .eqv (.ar 6 (.i .i64)) false (.t 107) (.t 108), some (106, true)⟩,
  ⟨(some 110), .pick (.t 106) (.t 109) (.c (.bool false)), none⟩,
  ⟨(some 0), .mv (.t 110), none⟩]
def d21_10 : Option (List (List Nat)) := none
def l21_10 : List Nat := []
theorem cd21_10 : dOk d21_10 g21_10 l21_10 = true := by kernel_rfl
def c21 : AC := (.seq (.reg d21_0 g21_0) (.seq (.reg d21_1 g21_1) (.seq (.reg d21_2 g21_2) (.seq (.reg d21_3 g21_3) (.seq (.reg d21_4 g21_4) (.seq (.reg d21_5 g21_5) (.seq (.reg d21_6 g21_6) (.seq (.reg d21_7 g21_7) (.seq (.reg d21_8 g21_8) (.seq (.reg d21_9 g21_9) (.seq (.reg d21_10 g21_10) .ret)))))))))))
def r21 : List RV := [.tmp 0]
theorem cc21 : (Try.f21.body.bind (cCode Try.prog Try.f21.ntmps)) = some c21 := by kernel_rfl
theorem cr21 : cRes Try.prog Try.f21.results.toList = some r21 := by kernel_rfl
theorem ca21 : callable Try.prog 21 = true := by kernel_rfl
-- 23 pinfold/pinfoldref01.Mod
def g23_0 : List G := [⟨(some 4), .mv (.c (.int .i64 (0))), none⟩]
def d23_0 : Option (List (List Nat)) := none
def l23_0 : List Nat := []
theorem cd23_0 : dOk d23_0 g23_0 l23_0 = true := by kernel_rfl
def g23_1 : List G := [⟨(some 5), .mv (.t 0), none⟩,
  ⟨(some 6), .mv (.t 1), none⟩,
  ⟨(some 7), .bin .rem (.t 5) (.t 6), none⟩,
  ⟨(some 8), .mv (.t 1), none⟩,
  ⟨(some 9), .bin .add (.t 7) (.t 8), none⟩,
  ⟨(some 10), .mv (.t 1), none⟩,
  ⟨(some 11), .bin .rem (.t 9) (.t 10), none⟩,
  ⟨(some 4), .mv (.t 11), none⟩]
def d23_1 : Option (List (List Nat)) := none
def l23_1 : List Nat := []
theorem cd23_1 : dOk d23_1 g23_1 l23_1 = true := by kernel_rfl
def c23 : AC := (.seq (.reg d23_0 g23_0) (.seq (.reg d23_1 g23_1) .ret))
def r23 : List RV := [.tmp 4]
theorem cc23 : (Try.f23.body.bind (cCode Try.prog Try.f23.ntmps)) = some c23 := by kernel_rfl
theorem cr23 : cRes Try.prog Try.f23.results.toList = some r23 := by kernel_rfl
theorem ca23 : callable Try.prog 23 = true := by kernel_rfl
-- 25 pinfold/pinfoldref01.At
def g25_0 : List G := [⟨(some 4), .mv (.c (.int .i64 (0))), none⟩]
def d25_0 : Option (List (List Nat)) := none
def l25_0 : List Nat := []
theorem cd25_0 : dOk d25_0 g25_0 l25_0 = true := by kernel_rfl
def g25_1 : List G := [⟨(some 5), .mv (.t 0), none⟩,
  ⟨(some 6), .len (.t 5), none⟩,
  ⟨(some 7), .bin .eql (.t 6) (.c (.int .i64 (0))), none⟩]
def d25_1 : Option (List (List Nat)) := none
def l25_1 : List Nat := []
theorem cd25_1 : dOk d25_1 g25_1 l25_1 = true := by kernel_rfl
def g25_2 : List G := [⟨(some 4), .mv (.c (.int .i64 (0))), none⟩]
def d25_2 : Option (List (List Nat)) := none
def l25_2 : List Nat := []
theorem cd25_2 : dOk d25_2 g25_2 l25_2 = true := by kernel_rfl
def g25_3 : List G := [⟨(some 8), .mv (.t 0), none⟩,
  ⟨(some 9), .mv (.t 1), none⟩,
  ⟨(some 10), .mv (.t 0), none⟩,
  ⟨(some 11), .len (.t 10), none⟩,
  ⟨(some 12), .call 23 [(.t 9), (.t 11)], none⟩,
  ⟨(some 13), .is 1 (.t 8) (.t 12), none⟩,
  ⟨(some 14), .ld none (.t 13), none⟩,
  ⟨(some 4), .mv (.t 14), none⟩]
def d25_3 : Option (List (List Nat)) := none
def l25_3 : List Nat := []
theorem cd25_3 : dOk d25_3 g25_3 l25_3 = true := by kernel_rfl
def c25 : AC := (.seq (.reg d25_0 g25_0) (.seq (.seq (.reg d25_1 g25_1) (.cond (.t 7) (.seq (.reg d25_2 g25_2) .ret) .skip)) (.seq (.reg d25_3 g25_3) .ret)))
def r25 : List RV := [.tmp 4]
theorem cc25 : (Try.f25.body.bind (cCode Try.prog Try.f25.ntmps)) = some c25 := by kernel_rfl
theorem cr25 : cRes Try.prog Try.f25.results.toList = some r25 := by kernel_rfl
theorem ca25 : callable Try.prog 25 = true := by kernel_rfl
-- 26 pinfold/mark.Owners
def g26_0 : List G := [⟨(some 2), .box (.t 0), none⟩,
  ⟨(some 3), .box (.t 1), none⟩,
  ⟨(some 4), .mv (.c (.nils 1)), none⟩,
  ⟨(some 5), .mv (.c (.int .i64 (0))), none⟩]
def d26_0 : Option (List (List Nat)) := none
def l26_0 : List Nat := []
theorem cd26_0 : dOk d26_0 g26_0 l26_0 = true := by kernel_rfl
def g26_1 : List G := [⟨(some 7), .ld (some 7) (.t 2), none⟩,
  ⟨(some 8), .call 47 [(.t 7)], none⟩,
  ⟨(some 9), .ld (some 6) (.t 3), none⟩,
  ⟨(some 10), .call 45 [(.t 9)], none⟩,
  ⟨(some 11), .bs 1 [(.t 8), (.t 10)], none⟩,
  ⟨(some 12), .call 64 [(.t 11)], none⟩,
  ⟨(some 6), .mv (.t 12), none⟩]
def d26_1 : Option (List (List Nat)) := (some [[], [0], [], [2, 1], [1, 3], [4, 3], [5, 5, 0, 1, 2, 3, 4, 5]])
def l26_1 : List Nat := [0, 1, 0, 7, 15, 31, 63]
theorem cd26_1 : dOk d26_1 g26_1 l26_1 = true := by kernel_rfl
def g26_2 : List G := [⟨(some 13), .mv (.t 6), none⟩,
  ⟨(some 14), .bin .neq (.t 13) (.c (.int .i64 (0))), none⟩]
def d26_2 : Option (List (List Nat)) := none
def l26_2 : List Nat := []
theorem cd26_2 : dOk d26_2 g26_2 l26_2 = true := by kernel_rfl
def g26_3 : List G := [⟨(some 15), .mv (.t 6), none⟩,
  ⟨(some 4), .mv (.c (.nils 1)), none⟩,
  ⟨(some 5), .mv (.t 15), none⟩]
def d26_3 : Option (List (List Nat)) := none
def l26_3 : List Nat := []
theorem cd26_3 : dOk d26_3 g26_3 l26_3 = true := by kernel_rfl
def g26_4 : List G := [⟨(some 16), .ld (some 7) (.t 2), none⟩,
  ⟨(some 17), .ld (some 6) (.t 3), none⟩,
  ⟨(some 18), .call 65 [(.t 16), (.t 17)], none⟩,
  ⟨(some 19), .call 72 [(.t 18)], none⟩,
  ⟨(some 4), .mv (.t 19), none⟩,
  ⟨(some 5), .mv (.c (.int .i64 (0))), none⟩]
def d26_4 : Option (List (List Nat)) := none
def l26_4 : List Nat := []
theorem cd26_4 : dOk d26_4 g26_4 l26_4 = true := by kernel_rfl
def c26 : AC := (.seq (.reg d26_0 g26_0) (.seq (.seq (.reg d26_1 g26_1) (.seq (.reg d26_2 g26_2) (.cond (.t 14) (.seq (.reg d26_3 g26_3) .ret) .skip))) (.seq (.reg d26_4 g26_4) .ret)))
def r26 : List RV := [.tmp 4, .tmp 5]
theorem cc26 : (Try.f26.body.bind (cCode Try.prog Try.f26.ntmps)) = some c26 := by kernel_rfl
theorem cr26 : cRes Try.prog Try.f26.results.toList = some r26 := by kernel_rfl
theorem ca26 : callable Try.prog 26 = true := by kernel_rfl
-- 27 pinfold/pinfoldref01.Has
def g27_0 : List G := [⟨(some 4), .mv (.c (.bool false)), none⟩]
def d27_0 : Option (List (List Nat)) := none
def l27_0 : List Nat := []
theorem cd27_0 : dOk d27_0 g27_0 l27_0 = true := by kernel_rfl
def g27_1 : List G := [⟨(some 5), .mv (.c (.int .i64 (0))), none⟩]
def d27_1 : Option (List (List Nat)) := none
def l27_1 : List Nat := []
theorem cd27_1 : dOk d27_1 g27_1 l27_1 = true := by kernel_rfl
def g27_2 : List G := [⟨(some 6), .mv (.t 5), none⟩,
  ⟨(some 7), .mv (.t 0), none⟩,
  ⟨(some 8), .len (.t 7), none⟩,
  ⟨(some 9), .bin .lss (.t 6) (.t 8), none⟩]
def d27_2 : Option (List (List Nat)) := none
def l27_2 : List Nat := []
theorem cd27_2 : dOk d27_2 g27_2 l27_2 = true := by kernel_rfl
def g27_3 : List G := [⟨(some 12), .mv (.t 0), none⟩,
  ⟨(some 13), .mv (.t 5), none⟩,
  ⟨(some 14), .is 1 (.t 12) (.t 13), none⟩,
  ⟨(some 15), .ld none (.t 14), none⟩,
  ⟨(some 16), .mv (.t 1), none⟩,
  ⟨(some 17), .bin .eql (.t 15) (.t 16), none⟩]
def d27_3 : Option (List (List Nat)) := none
def l27_3 : List Nat := []
theorem cd27_3 : dOk d27_3 g27_3 l27_3 = true := by kernel_rfl
def g27_4 : List G := [⟨(some 4), .mv (.c (.bool true)), none⟩]
def d27_4 : Option (List (List Nat)) := none
def l27_4 : List Nat := []
theorem cd27_4 : dOk d27_4 g27_4 l27_4 = true := by kernel_rfl
def g27_5 : List G := [⟨(some 10), .mv (.t 5), none⟩,
  ⟨(some 11), .bin .add (.t 10) (.c (.int .i64 (1))), none⟩,
  ⟨(some 5), .mv (.t 11), none⟩]
def d27_5 : Option (List (List Nat)) := none
def l27_5 : List Nat := []
theorem cd27_5 : dOk d27_5 g27_5 l27_5 = true := by kernel_rfl
def g27_6 : List G := [⟨(some 4), .mv (.c (.bool false)), none⟩]
def d27_6 : Option (List (List Nat)) := none
def l27_6 : List Nat := []
theorem cd27_6 : dOk d27_6 g27_6 l27_6 = true := by kernel_rfl
def c27 : AC := (.seq (.reg d27_0 g27_0) (.seq (.seq (.reg d27_1 g27_1) (.block 0 (.loop (.seq (.seq (.reg d27_2 g27_2) (.cond (.t 9) .skip (.exit 0))) (.seq (.block 1 (.seq (.reg d27_3 g27_3) (.cond (.t 17) (.seq (.reg d27_4 g27_4) .ret) .skip))) (.reg d27_5 g27_5)))))) (.seq (.reg d27_6 g27_6) .ret)))
def r27 : List RV := [.tmp 4]
theorem cc27 : (Try.f27.body.bind (cCode Try.prog Try.f27.ntmps)) = some c27 := by kernel_rfl
theorem cr27 : cRes Try.prog Try.f27.results.toList = some r27 := by kernel_rfl
theorem ca27 : callable Try.prog 27 = true := by kernel_rfl

end Go.Proofs.Ytkjkbpgdpnapfaa

/-
  THE SEAT'S FUNCTIONS, READ (part 1): the code of each as the abstract layer reads it, by program; each tie is a closed fact.
-/
namespace Go.Proofs.Ytkjkbpgdpnapfaa
open Go Go.Abs
-- 28 pinfold/pinfoldref01.Owners
def g28_0 : List G := [⟨(some 2), .box (.t 0), none⟩,
  ⟨(some 3), .box (.t 1), none⟩,
  ⟨(some 4), .mv (.c (.nils 1)), none⟩,
  ⟨(some 5), .mv (.c (.int .i64 (0))), none⟩]
def d28_0 : Option (List (List Nat)) := none
def l28_0 : List Nat := []
theorem cd28_0 : dOk d28_0 g28_0 l28_0 = true := by kernel_rfl
def g28_1 : List G := [⟨(some 7), .ld (some 7) (.t 2), none⟩,
  ⟨(some 8), .call 48 [(.t 7)], none⟩,
  ⟨(some 9), .bin .neq (.t 8) (.c (.int .i64 (0))), none⟩]
def d28_1 : Option (List (List Nat)) := none
def l28_1 : List Nat := []
theorem cd28_1 : dOk d28_1 g28_1 l28_1 = true := by kernel_rfl
def g28_2 : List G := [⟨(some 4), .mv (.c (.nils 1)), none⟩,
  ⟨(some 5), .mv (.c (.int .i64 (13))), none⟩]
def d28_2 : Option (List (List Nat)) := none
def l28_2 : List Nat := []
theorem cd28_2 : dOk d28_2 g28_2 l28_2 = true := by kernel_rfl
def g28_3 : List G := [⟨(some 10), .ld (some 6) (.t 3), none⟩,
  ⟨(some 11), .call 46 [(.t 10)], none⟩,
  ⟨(some 12), .bin .neq (.t 11) (.c (.int .i64 (0))), none⟩]
def d28_3 : Option (List (List Nat)) := none
def l28_3 : List Nat := []
theorem cd28_3 : dOk d28_3 g28_3 l28_3 = true := by kernel_rfl
def g28_4 : List G := [⟨(some 4), .mv (.c (.nils 1)), none⟩,
  ⟨(some 5), .mv (.c (.int .i64 (12))), none⟩]
def d28_4 : Option (List (List Nat)) := none
def l28_4 : List Nat := []
theorem cd28_4 : dOk d28_4 g28_4 l28_4 = true := by kernel_rfl
def g28_5 : List G := [⟨(some 13), .ld (some 7) (.t 2), none⟩,
  ⟨(some 14), .ld (some 6) (.t 3), none⟩,
  ⟨(some 15), .call 84 [(.t 13), (.t 14)], none⟩,
  ⟨(some 6), .mv (.t 15), none⟩]
def d28_5 : Option (List (List Nat)) := none
def l28_5 : List Nat := []
theorem cd28_5 : dOk d28_5 g28_5 l28_5 = true := by kernel_rfl
def g28_6 : List G := [⟨(some 16), .mv (.t 6), none⟩,
  ⟨(some 4), .mv (.t 16), none⟩,
  ⟨(some 5), .mv (.c (.int .i64 (0))), none⟩]
def d28_6 : Option (List (List Nat)) := none
def l28_6 : List Nat := []
theorem cd28_6 : dOk d28_6 g28_6 l28_6 = true := by kernel_rfl
def c28 : AC := (.seq (.reg d28_0 g28_0) (.seq (.seq (.reg d28_1 g28_1) (.cond (.t 9) (.seq (.reg d28_2 g28_2) .ret) .skip)) (.seq (.seq (.reg d28_3 g28_3) (.cond (.t 12) (.seq (.reg d28_4 g28_4) .ret) .skip)) (.seq (.reg d28_5 g28_5) (.seq (.reg d28_6 g28_6) .ret)))))
def r28 : List RV := [.tmp 4, .tmp 5]
theorem cc28 : (Try.f28.body.bind (cCode Try.prog Try.f28.ntmps)) = some c28 := by kernel_rfl
theorem cr28 : cRes Try.prog Try.f28.results.toList = some r28 := by kernel_rfl
theorem ca28 : callable Try.prog 28 = true := by kernel_rfl
-- 29 pinfold/mark.Owner
def g29_0 : List G := [⟨(some 2), .box (.t 0), none⟩,
  ⟨(some 3), .box (.t 1), none⟩,
  ⟨(some 4), .mv (.c (.int .i64 (0))), none⟩,
  ⟨(some 5), .mv (.c (.int .i64 (0))), none⟩]
def d29_0 : Option (List (List Nat)) := none
def l29_0 : List Nat := []
theorem cd29_0 : dOk d29_0 g29_0 l29_0 = true := by kernel_rfl
def g29_1 : List G := [⟨(some 9), .ld (some 7) (.t 2), none⟩,
  ⟨(some 10), .ld (some 6) (.t 3), none⟩,
  ⟨(some 11), .call 26 [(.t 9), (.t 10)], none⟩,
  ⟨(some 8), .mv (.t 11), none⟩,
  ⟨(some 12), .ext (.t 8) 0, none⟩,
  ⟨(some 13), .ext (.t 8) 1, none⟩,
  ⟨(some 6), .mv (.t 12), none⟩,
  ⟨(some 7), .mv (.t 13), none⟩]
def d29_1 : Option (List (List Nat)) := none
def l29_1 : List Nat := []
theorem cd29_1 : dOk d29_1 g29_1 l29_1 = true := by kernel_rfl
def g29_2 : List G := [⟨(some 15), .mv (.t 7), none⟩,
  ⟨(some 16), .bin .neq (.t 15) (.c (.int .i64 (0))), none⟩,
  ⟨(some 14), .mv (.t 16), none⟩]
def d29_2 : Option (List (List Nat)) := none
def l29_2 : List Nat := []
theorem cd29_2 : dOk d29_2 g29_2 l29_2 = true := by kernel_rfl
def g29_3 : List G := [⟨(some 17), .mv (.t 7), none⟩,
  ⟨(some 4), .mv (.c (.int .i64 (0))), none⟩,
  ⟨(some 5), .mv (.t 17), none⟩]
def d29_3 : Option (List (List Nat)) := none
def l29_3 : List Nat := []
theorem cd29_3 : dOk d29_3 g29_3 l29_3 = true := by kernel_rfl
def g29_4 : List G := [⟨(some 19), .mv (.t 6), none⟩,
  ⟨(some 20), .len (.t 19), none⟩,
  ⟨(some 21), .bin .eql (.t 20) (.c (.int .i64 (0))), none⟩,
  ⟨(some 18), .mv (.t 21), none⟩]
def d29_4 : Option (List (List Nat)) := none
def l29_4 : List Nat := []
theorem cd29_4 : dOk d29_4 g29_4 l29_4 = true := by kernel_rfl
def g29_5 : List G := [⟨(some 4), .mv (.c (.int .i64 (0))), none⟩,
  ⟨(some 5), .mv (.c (.int .i64 (3))), none⟩]
def d29_5 : Option (List (List Nat)) := none
def l29_5 : List Nat := []
theorem cd29_5 : dOk d29_5 g29_5 l29_5 = true := by kernel_rfl
def g29_6 : List G := [⟨(some 23), .mv (.t 6), none⟩,
  ⟨(some 24), .len (.t 23), none⟩,
  ⟨(some 25), .bin .gtr (.t 24) (.c (.int .i64 (1))), none⟩,
  ⟨(some 22), .mv (.t 25), none⟩]
def d29_6 : Option (List (List Nat)) := none
def l29_6 : List Nat := []
theorem cd29_6 : dOk d29_6 g29_6 l29_6 = true := by kernel_rfl
def g29_7 : List G := [⟨(some 4), .mv (.c (.int .i64 (0))), none⟩,
  ⟨(some 5), .mv (.c (.int .i64 (17))), none⟩]
def d29_7 : Option (List (List Nat)) := none
def l29_7 : List Nat := []
theorem cd29_7 : dOk d29_7 g29_7 l29_7 = true := by kernel_rfl
def g29_8 : List G := [⟨(some 26), .mv (.t 6), none⟩,
  ⟨(some 27), .is 1 (.t 26) (.c (.int .i64 (0))), none⟩,
  ⟨(some 28), .ld none (.t 27), none⟩,
  ⟨(some 4), .mv (.t 28), none⟩,
  ⟨(some 5), .mv (.c (.int .i64 (0))), none⟩]
def d29_8 : Option (List (List Nat)) := none
def l29_8 : List Nat := []
theorem cd29_8 : dOk d29_8 g29_8 l29_8 = true := by kernel_rfl
def c29 : AC := (.seq (.reg d29_0 g29_0) (.seq (.reg d29_1 g29_1) (.seq (.block 0 (.seq (.reg d29_2 g29_2) (.cond (.t 14) (.seq (.reg d29_3 g29_3) .ret) (.seq (.reg d29_4 g29_4) (.cond (.t 18) (.seq (.reg d29_5 g29_5) .ret) (.seq (.reg d29_6 g29_6) (.cond (.t 22) (.seq (.reg d29_7 g29_7) .ret) .skip))))))) (.seq (.reg d29_8 g29_8) .ret))))
def r29 : List RV := [.tmp 4, .tmp 5]
theorem cc29 : (Try.f29.body.bind (cCode Try.prog Try.f29.ntmps)) = some c29 := by kernel_rfl
theorem cr29 : cRes Try.prog Try.f29.results.toList = some r29 := by kernel_rfl
theorem ca29 : callable Try.prog 29 = true := by kernel_rfl
-- 30 pinfold/pinfoldref01.Owner
def g30_0 : List G := [⟨(some 2), .box (.t 0), none⟩,
  ⟨(some 3), .box (.t 1), none⟩,
  ⟨(some 4), .mv (.c (.int .i64 (0))), none⟩,
  ⟨(some 5), .mv (.c (.int .i64 (0))), none⟩]
def d30_0 : Option (List (List Nat)) := none
def l30_0 : List Nat := []
theorem cd30_0 : dOk d30_0 g30_0 l30_0 = true := by kernel_rfl
def g30_1 : List G := [⟨(some 9), .ld (some 7) (.t 2), none⟩,
  ⟨(some 10), .ld (some 6) (.t 3), none⟩,
  ⟨(some 11), .call 28 [(.t 9), (.t 10)], none⟩,
  ⟨(some 8), .mv (.t 11), none⟩,
  ⟨(some 12), .ext (.t 8) 0, none⟩,
  ⟨(some 13), .ext (.t 8) 1, none⟩,
  ⟨(some 6), .mv (.t 12), none⟩,
  ⟨(some 7), .mv (.t 13), none⟩]
def d30_1 : Option (List (List Nat)) := none
def l30_1 : List Nat := []
theorem cd30_1 : dOk d30_1 g30_1 l30_1 = true := by kernel_rfl
def g30_2 : List G := [⟨(some 14), .mv (.t 7), none⟩,
  ⟨(some 15), .bin .neq (.t 14) (.c (.int .i64 (0))), none⟩]
def d30_2 : Option (List (List Nat)) := none
def l30_2 : List Nat := []
theorem cd30_2 : dOk d30_2 g30_2 l30_2 = true := by kernel_rfl
def g30_3 : List G := [⟨(some 16), .mv (.t 7), none⟩,
  ⟨(some 4), .mv (.c (.int .i64 (0))), none⟩,
  ⟨(some 5), .mv (.t 16), none⟩]
def d30_3 : Option (List (List Nat)) := none
def l30_3 : List Nat := []
theorem cd30_3 : dOk d30_3 g30_3 l30_3 = true := by kernel_rfl
def g30_4 : List G := [⟨(some 17), .mv (.t 6), none⟩,
  ⟨(some 18), .len (.t 17), none⟩]
def d30_4 : Option (List (List Nat)) := none
def l30_4 : List Nat := []
theorem cd30_4 : dOk d30_4 g30_4 l30_4 = true := by kernel_rfl
def g30_5 : List G := [⟨(some 20), .bin .eql (.t 18) (.c (.int .i64 (0))), none⟩,
  ⟨(some 19), .mv (.t 20), none⟩]
def d30_5 : Option (List (List Nat)) := none
def l30_5 : List Nat := []
theorem cd30_5 : dOk d30_5 g30_5 l30_5 = true := by kernel_rfl
def g30_6 : List G := [⟨(some 4), .mv (.c (.int .i64 (0))), none⟩,
  ⟨(some 5), .mv (.c (.int .i64 (3))), none⟩]
def d30_6 : Option (List (List Nat)) := none
def l30_6 : List Nat := []
theorem cd30_6 : dOk d30_6 g30_6 l30_6 = true := by kernel_rfl
def g30_7 : List G := [⟨(some 22), .bin .eql (.t 18) (.c (.int .i64 (1))), none⟩,
  ⟨(some 21), .mv (.t 22), none⟩]
def d30_7 : Option (List (List Nat)) := none
def l30_7 : List Nat := []
theorem cd30_7 : dOk d30_7 g30_7 l30_7 = true := by kernel_rfl
def g30_8 : List G := [⟨(some 23), .mv (.t 6), none⟩,
  ⟨(some 24), .is 1 (.t 23) (.c (.int .i64 (0))), none⟩,
  ⟨(some 25), .ld none (.t 24), none⟩,
  ⟨(some 4), .mv (.t 25), none⟩,
  ⟨(some 5), .mv (.c (.int .i64 (0))), none⟩]
def d30_8 : Option (List (List Nat)) := none
def l30_8 : List Nat := []
theorem cd30_8 : dOk d30_8 g30_8 l30_8 = true := by kernel_rfl
def g30_9 : List G := [⟨(some 4), .mv (.c (.int .i64 (0))), none⟩,
  ⟨(some 5), .mv (.c (.int .i64 (17))), none⟩]
def d30_9 : Option (List (List Nat)) := none
def l30_9 : List Nat := []
theorem cd30_9 : dOk d30_9 g30_9 l30_9 = true := by kernel_rfl
def c30 : AC := (.seq (.reg d30_0 g30_0) (.seq (.reg d30_1 g30_1) (.seq (.seq (.reg d30_2 g30_2) (.cond (.t 15) (.seq (.reg d30_3 g30_3) .ret) .skip)) (.seq (.seq (.reg d30_4 g30_4) (.block 0 (.seq (.reg d30_5 g30_5) (.cond (.t 19) (.seq (.reg d30_6 g30_6) .ret) (.seq (.reg d30_7 g30_7) (.cond (.t 21) (.seq (.reg d30_8 g30_8) .ret) .skip)))))) (.seq (.reg d30_9 g30_9) .ret)))))
def r30 : List RV := [.tmp 4, .tmp 5]
theorem cc30 : (Try.f30.body.bind (cCode Try.prog Try.f30.ntmps)) = some c30 := by kernel_rfl
theorem cr30 : cRes Try.prog Try.f30.results.toList = some r30 := by kernel_rfl
theorem ca30 : callable Try.prog 30 = true := by kernel_rfl
-- 31 pinfold/mark.Of
def g31_0 : List G := [⟨(some 2), .box (.t 0), none⟩,
  ⟨(some 4), .mv (.c (.nils 1)), none⟩,
  ⟨(some 5), .mv (.c (.int .i64 (0))), none⟩]
def d31_0 : Option (List (List Nat)) := none
def l31_0 : List Nat := []
theorem cd31_0 : dOk d31_0 g31_0 l31_0 = true := by kernel_rfl
def g31_1 : List G := [⟨(some 11), .ld (some 7) (.t 2), none⟩,
  ⟨(some 12), .call 47 [(.t 11)], none⟩,
  ⟨(some 6), .mv (.t 12), none⟩]
def d31_1 : Option (List (List Nat)) := none
def l31_1 : List Nat := []
theorem cd31_1 : dOk d31_1 g31_1 l31_1 = true := by kernel_rfl
def g31_2 : List G := [⟨(some 13), .mv (.t 6), none⟩,
  ⟨(some 14), .bin .neq (.t 13) (.c (.int .i64 (0))), none⟩]
def d31_2 : Option (List (List Nat)) := none
def l31_2 : List Nat := []
theorem cd31_2 : dOk d31_2 g31_2 l31_2 = true := by kernel_rfl
def g31_3 : List G := [⟨(some 15), .mv (.t 6), none⟩,
  ⟨(some 4), .mv (.c (.nils 1)), none⟩,
  ⟨(some 5), .mv (.t 15), none⟩]
def d31_3 : Option (List (List Nat)) := none
def l31_3 : List Nat := []
theorem cd31_3 : dOk d31_3 g31_3 l31_3 = true := by kernel_rfl
def g31_4 : List G := [⟨(some 16), .mv (.t 1), none⟩,
  ⟨(some 17), .len (.t 16), none⟩,
  ⟨(some 18), .bin .gtr (.t 17) (.c (.int .i64 (60))), none⟩]
def d31_4 : Option (List (List Nat)) := none
def l31_4 : List Nat := []
theorem cd31_4 : dOk d31_4 g31_4 l31_4 = true := by kernel_rfl
def g31_5 : List G := [⟨(some 4), .mv (.c (.nils 1)), none⟩,
  ⟨(some 5), .mv (.c (.int .i64 (2))), none⟩]
def d31_5 : Option (List (List Nat)) := none
def l31_5 : List Nat := []
theorem cd31_5 : dOk d31_5 g31_5 l31_5 = true := by kernel_rfl
def g31_6 : List G := [⟨(some 19), .fa 2 6 (.t 2), none⟩,
  ⟨(some 20), .ld none (.t 19), none⟩,
  ⟨(some 21), .call 85 [(.t 20)], none⟩,
  ⟨(some 7), .mv (.t 21), none⟩]
def d31_6 : Option (List (List Nat)) := none
def l31_6 : List Nat := []
theorem cd31_6 : dOk d31_6 g31_6 l31_6 = true := by kernel_rfl
def g31_7 : List G := [⟨(some 22), .mv (.t 1), none⟩,
  ⟨(some 23), .len (.t 22), none⟩,
  ⟨(some 24), .mv (.c (.int .i64 (0))), none⟩]
def d31_7 : Option (List (List Nat)) := none
def l31_7 : List Nat := []
theorem cd31_7 : dOk d31_7 g31_7 l31_7 = true := by kernel_rfl
def g31_8 : List G := [⟨(some 25), .bin .lss (.t 24) (.t 23), none⟩]
def d31_8 : Option (List (List Nat)) := none
def l31_8 : List Nat := []
theorem cd31_8 : dOk d31_8 g31_8 l31_8 = true := by kernel_rfl
def g31_9 : List G := [⟨(some 26), .is 6 (.t 22) (.t 24), none⟩,
  ⟨(some 27), .ld (some 6) (.t 26), none⟩,
  ⟨(some 9), .alloc (.agg [.int .i64 (0), .int .i64 (0), .int .i64 (0), .int .i64 (0), .int .i64 (0), .int .i64 (0)]), none⟩,
  ⟨none, .st (some 6) (.t 9) (.t 27), none⟩]
def d31_9 : Option (List (List Nat)) := none
def l31_9 : List Nat := []
theorem cd31_9 : dOk d31_9 g31_9 l31_9 = true := by kernel_rfl
def g31_10 : List G := [⟨(some 28), .ld (some 6) (.t 9), none⟩,
  ⟨(some 29), .call 45 [(.t 28)], none⟩,
  ⟨(some 10), .mv (.t 29), none⟩]
def d31_10 : Option (List (List Nat)) := none
def l31_10 : List Nat := []
theorem cd31_10 : dOk d31_10 g31_10 l31_10 = true := by kernel_rfl
def g31_11 : List G := [⟨(some 30), .mv (.t 10), none⟩,
  ⟨(some 31), .bin .neq (.t 30) (.c (.int .i64 (0))), none⟩]
def d31_11 : Option (List (List Nat)) := none
def l31_11 : List Nat := []
theorem cd31_11 : dOk d31_11 g31_11 l31_11 = true := by kernel_rfl
def g31_12 : List G := [⟨(some 32), .mv (.t 10), none⟩,
  ⟨(some 4), .mv (.c (.nils 1)), none⟩,
  ⟨(some 5), .mv (.t 32), none⟩]
def d31_12 : Option (List (List Nat)) := none
def l31_12 : List Nat := []
theorem cd31_12 : dOk d31_12 g31_12 l31_12 = true := by kernel_rfl
def g31_13 : List G := [⟨(some 33), .fa 0 0 (.t 2), none⟩,
  ⟨(some 34), .ld (some 5) (.t 33), none⟩,
  ⟨(some 35), .fa 1 5 (.t 2), none⟩,
  ⟨(some 36), .ld none (.t 35), none⟩,
  ⟨(some 37), .mv (.t 7), none⟩,
  ⟨(some 38), .bld [.agg [.int .i64 (0), .int .i64 (0), .int .i64 (0), .int .i64 (0), .int .i64 (0)], .int .i64 (0), .nils 7] [(0, (.t 34)), (1, (.t 36)), (2, (.t 37))], none⟩,
  ⟨(some 39), .ld (some 6) (.t 9), none⟩,
  ⟨(some 40), .call 65 [(.t 38), (.t 39)], none⟩,
  ⟨(some 7), .mv (.t 40), none⟩]
def d31_13 : Option (List (List Nat)) := none
def l31_13 : List Nat := []
theorem cd31_13 : dOk d31_13 g31_13 l31_13 = true := by kernel_rfl
def g31_14 : List G := [⟨(some 41), .bin .add (.t 24) (.c (.int .i64 (1))), none⟩,
  ⟨(some 24), .mv (.t 41), none⟩]
def d31_14 : Option (List (List Nat)) := none
def l31_14 : List Nat := []
theorem cd31_14 : dOk d31_14 g31_14 l31_14 = true := by kernel_rfl
def g31_15 : List G := [⟨(some 42), .mv (.t 7), none⟩,
  ⟨(some 43), .call 72 [(.t 42)], none⟩,
  ⟨(some 4), .mv (.t 43), none⟩,
  ⟨(some 5), .mv (.c (.int .i64 (0))), none⟩]
def d31_15 : Option (List (List Nat)) := none
def l31_15 : List Nat := []
theorem cd31_15 : dOk d31_15 g31_15 l31_15 = true := by kernel_rfl
def c31 : AC := (.seq (.reg d31_0 g31_0) (.seq (.seq (.reg d31_1 g31_1) (.seq (.reg d31_2 g31_2) (.cond (.t 14) (.seq (.reg d31_3 g31_3) .ret) .skip))) (.seq (.seq (.reg d31_4 g31_4) (.cond (.t 18) (.seq (.reg d31_5 g31_5) .ret) .skip)) (.seq (.reg d31_6 g31_6) (.seq (.seq (.reg d31_7 g31_7) (.block 0 (.loop (.seq (.reg d31_8 g31_8) (.seq (.cond (.t 25) .skip (.exit 0)) (.seq (.block 1 (.seq (.reg d31_9 g31_9) (.seq (.seq (.reg d31_10 g31_10) (.seq (.reg d31_11 g31_11) (.cond (.t 31) (.seq (.reg d31_12 g31_12) .ret) .skip))) (.reg d31_13 g31_13)))) (.reg d31_14 g31_14))))))) (.seq (.reg d31_15 g31_15) .ret))))))
def r31 : List RV := [.tmp 4, .tmp 5]
theorem cc31 : (Try.f31.body.bind (cCode Try.prog Try.f31.ntmps)) = some c31 := by kernel_rfl
theorem cr31 : cRes Try.prog Try.f31.results.toList = some r31 := by kernel_rfl
theorem ca31 : callable Try.prog 31 = true := by kernel_rfl
-- 32 pinfold/pinfoldref01.Of
def g32_0 : List G := [⟨(some 2), .box (.t 0), none⟩,
  ⟨(some 4), .mv (.c (.nils 1)), none⟩,
  ⟨(some 5), .mv (.c (.int .i64 (0))), none⟩]
def d32_0 : Option (List (List Nat)) := none
def l32_0 : List Nat := []
theorem cd32_0 : dOk d32_0 g32_0 l32_0 = true := by kernel_rfl
def g32_1 : List G := [⟨(some 11), .ld (some 7) (.t 2), none⟩,
  ⟨(some 12), .call 48 [(.t 11)], none⟩,
  ⟨(some 13), .bin .neq (.t 12) (.c (.int .i64 (0))), none⟩]
def d32_1 : Option (List (List Nat)) := none
def l32_1 : List Nat := []
theorem cd32_1 : dOk d32_1 g32_1 l32_1 = true := by kernel_rfl
def g32_2 : List G := [⟨(some 4), .mv (.c (.nils 1)), none⟩,
  ⟨(some 5), .mv (.c (.int .i64 (13))), none⟩]
def d32_2 : Option (List (List Nat)) := none
def l32_2 : List Nat := []
theorem cd32_2 : dOk d32_2 g32_2 l32_2 = true := by kernel_rfl
def g32_3 : List G := [⟨(some 14), .mv (.t 1), none⟩,
  ⟨(some 15), .len (.t 14), none⟩,
  ⟨(some 16), .bin .gtr (.t 15) (.c (.int .i64 (60))), none⟩]
def d32_3 : Option (List (List Nat)) := none
def l32_3 : List Nat := []
theorem cd32_3 : dOk d32_3 g32_3 l32_3 = true := by kernel_rfl
def g32_4 : List G := [⟨(some 4), .mv (.c (.nils 1)), none⟩,
  ⟨(some 5), .mv (.c (.int .i64 (2))), none⟩]
def d32_4 : Option (List (List Nat)) := none
def l32_4 : List Nat := []
theorem cd32_4 : dOk d32_4 g32_4 l32_4 = true := by kernel_rfl
def g32_5 : List G := [⟨(some 6), .mv (.c (.int .i64 (0))), none⟩]
def d32_5 : Option (List (List Nat)) := none
def l32_5 : List Nat := []
theorem cd32_5 : dOk d32_5 g32_5 l32_5 = true := by kernel_rfl
def g32_6 : List G := [⟨(some 17), .mv (.t 6), none⟩,
  ⟨(some 18), .mv (.t 1), none⟩,
  ⟨(some 19), .len (.t 18), none⟩,
  ⟨(some 20), .bin .lss (.t 17) (.t 19), none⟩]
def d32_6 : Option (List (List Nat)) := none
def l32_6 : List Nat := []
theorem cd32_6 : dOk d32_6 g32_6 l32_6 = true := by kernel_rfl
def g32_7 : List G := [⟨(some 23), .mv (.t 1), none⟩,
  ⟨(some 24), .mv (.t 6), none⟩,
  ⟨(some 25), .is 6 (.t 23) (.t 24), none⟩,
  ⟨(some 26), .ld (some 6) (.t 25), none⟩,
  ⟨(some 27), .call 46 [(.t 26)], none⟩,
  ⟨(some 28), .bin .neq (.t 27) (.c (.int .i64 (0))), none⟩]
def d32_7 : Option (List (List Nat)) := none
def l32_7 : List Nat := []
theorem cd32_7 : dOk d32_7 g32_7 l32_7 = true := by kernel_rfl
def g32_8 : List G := [⟨(some 4), .mv (.c (.nils 1)), none⟩,
  ⟨(some 5), .mv (.c (.int .i64 (12))), none⟩]
def d32_8 : Option (List (List Nat)) := none
def l32_8 : List Nat := []
theorem cd32_8 : dOk d32_8 g32_8 l32_8 = true := by kernel_rfl
def g32_9 : List G := [⟨(some 21), .mv (.t 6), none⟩,
  ⟨(some 22), .bin .add (.t 21) (.c (.int .i64 (1))), none⟩,
  ⟨(some 6), .mv (.t 22), none⟩]
def d32_9 : Option (List (List Nat)) := none
def l32_9 : List Nat := []
theorem cd32_9 : dOk d32_9 g32_9 l32_9 = true := by kernel_rfl
def g32_10 : List G := [⟨(some 7), .mv (.c (.nils 1)), none⟩]
def d32_10 : Option (List (List Nat)) := none
def l32_10 : List Nat := []
theorem cd32_10 : dOk d32_10 g32_10 l32_10 = true := by kernel_rfl
def g32_11 : List G := [⟨(some 8), .mv (.c (.int .i64 (0))), none⟩]
def d32_11 : Option (List (List Nat)) := none
def l32_11 : List Nat := []
theorem cd32_11 : dOk d32_11 g32_11 l32_11 = true := by kernel_rfl
def g32_12 : List G := [⟨(some 29), .mv (.t 8), none⟩,
  ⟨(some 30), .fa 2 6 (.t 2), none⟩,
  ⟨(some 31), .ld none (.t 30), none⟩,
  ⟨(some 32), .len (.t 31), none⟩,
  ⟨(some 33), .bin .lss (.t 29) (.t 32), none⟩]
def d32_12 : Option (List (List Nat)) := none
def l32_12 : List Nat := []
theorem cd32_12 : dOk d32_12 g32_12 l32_12 = true := by kernel_rfl
def g32_13 : List G := [⟨(some 9), .mv (.c (.bool true)), none⟩]
def d32_13 : Option (List (List Nat)) := none
def l32_13 : List Nat := []
theorem cd32_13 : dOk d32_13 g32_13 l32_13 = true := by kernel_rfl
def g32_14 : List G := [⟨(some 10), .mv (.c (.int .i64 (0))), none⟩]
def d32_14 : Option (List (List Nat)) := none
def l32_14 : List Nat := []
theorem cd32_14 : dOk d32_14 g32_14 l32_14 = true := by kernel_rfl
def g32_15 : List G := [⟨(some 36), .mv (.t 10), none⟩,
  ⟨(some 37), .mv (.t 1), none⟩,
  ⟨(some 38), .len (.t 37), none⟩,
  ⟨(some 39), .bin .lss (.t 36) (.t 38), none⟩]
def d32_15 : Option (List (List Nat)) := none
def l32_15 : List Nat := []
theorem cd32_15 : dOk d32_15 g32_15 l32_15 = true := by kernel_rfl
def g32_16 : List G := [⟨(some 42), .mv (.t 9), none⟩,
  ⟨(some 43), .mv (.t 42), none⟩,
  ⟨(some 44), .fa 0 0 (.t 2), some (43, true)⟩,
  ⟨(some 45), .ld (some 5) (.t 44), some (43, true)⟩,
  ⟨(some 46), .fa 2 6 (.t 2), some (43, true)⟩,
  ⟨(some 47), .ld none (.t 46), some (43, true)⟩,
  ⟨(some 48), .mv (.t 8), some (43, true)⟩,
  ⟨(some 49), .is 7 (.t 47) (.t 48), some (43, true)⟩,
  ⟨(some 50), .fa 1 1 (.t 49), some (43, true)⟩,
  ⟨(some 51), .ld (some 6) (.t 50), some (43, true)⟩,
  ⟨(some 52), .mv (.t 1), some (43, true)⟩,
  ⟨(some 53), .mv (.t 10), some (43, true)⟩,
  ⟨(some 54), .is 6 (.t 52) (.t 53), some (43, true)⟩,
  ⟨(some 55), .ld (some 6) (.t 54), some (43, true)⟩,
  ⟨(some 56), .call 86 [(.t 45), (.t 51), (.t 55)], some (43, true)⟩,
  ⟨(some 57), .fa 1 5 (.t 2), some (43, true)⟩,
  ⟨(some 58), .ld none (.t 57), some (43, true)⟩,
  ⟨(some 59), .bin .leq (.t 56) (.t 58), some (43, true)⟩,
  ⟨(some 60), .pick (.t 43) (.t 59) (.c (.bool false)), none⟩,
  ⟨(some 9), .mv (.t 60), none⟩]
def d32_16 : Option (List (List Nat)) := (some [[], [0], [1], [2, 1], [1], [4, 1], [1], [5, 6, 1], [7, 1], [8, 1], [1], [1], [10, 11, 1], [12, 1], [3, 9, 13, 1, 1], [1], [15, 1], [14, 16, 1], [1, 17], [18, 14, 0, 1, 2, 3, 4, 5, 6, 7, 8, 9, 10, 11, 12, 13, 14, 15, 16, 17, 18]])
def l32_16 : List Nat := [0, 1, 3, 7, 3, 19, 3, 115, 243, 499, 3, 3, 3075, 7171, 16383, 3, 32771, 131071, 262143, 524287]
theorem cd32_16 : dOk d32_16 g32_16 l32_16 = true := by kernel_rfl
def g32_17 : List G := [⟨(some 40), .mv (.t 10), none⟩,
  ⟨(some 41), .bin .add (.t 40) (.c (.int .i64 (1))), none⟩,
  ⟨(some 10), .mv (.t 41), none⟩]
def d32_17 : Option (List (List Nat)) := none
def l32_17 : List Nat := []
theorem cd32_17 : dOk d32_17 g32_17 l32_17 = true := by kernel_rfl
def g32_18 : List G := [⟨(some 61), .mv (.t 9), none⟩]
def d32_18 : Option (List (List Nat)) := none
def l32_18 : List Nat := []
theorem cd32_18 : dOk d32_18 g32_18 l32_18 = true := by kernel_rfl
def g32_19 : List G := [⟨(some 62), .mv (.t 7), none⟩,
  ⟨(some 63), .fa 2 6 (.t 2), none⟩,
  ⟨(some 64), .ld none (.t 63), none⟩,
  ⟨(some 65), .mv (.t 8), none⟩,
  ⟨(some 66), .is 7 (.t 64) (.t 65), none⟩,
  ⟨(some 67), .fa 0 0 (.t 66), none⟩,
  ⟨(some 68), .ld none (.t 67), none⟩,
  ⟨(some 69), .bs 1 [(.t 68)], none⟩,
  ⟨(some 70), .app 3 1 8 (.int .i64 (0)) (.t 62) (.t 69), none⟩,
  ⟨(some 7), .mv (.t 70), none⟩]
def d32_19 : Option (List (List Nat)) := none
def l32_19 : List Nat := []
theorem cd32_19 : dOk d32_19 g32_19 l32_19 = true := by kernel_rfl
def g32_20 : List G := [⟨(some 34), .mv (.t 8), none⟩,
  ⟨(some 35), .bin .add (.t 34) (.c (.int .i64 (1))), none⟩,
  ⟨(some 8), .mv (.t 35), none⟩]
def d32_20 : Option (List (List Nat)) := none
def l32_20 : List Nat := []
theorem cd32_20 : dOk d32_20 g32_20 l32_20 = true := by kernel_rfl
def g32_21 : List G := [⟨(some 71), .mv (.t 7), none⟩,
  ⟨(some 4), .mv (.t 71), none⟩,
  ⟨(some 5), .mv (.c (.int .i64 (0))), none⟩]
def d32_21 : Option (List (List Nat)) := none
def l32_21 : List Nat := []
theorem cd32_21 : dOk d32_21 g32_21 l32_21 = true := by kernel_rfl
def c32 : AC := (.seq (.reg d32_0 g32_0) (.seq (.seq (.reg d32_1 g32_1) (.cond (.t 13) (.seq (.reg d32_2 g32_2) .ret) .skip)) (.seq (.seq (.reg d32_3 g32_3) (.cond (.t 16) (.seq (.reg d32_4 g32_4) .ret) .skip)) (.seq (.seq (.reg d32_5 g32_5) (.block 0 (.loop (.seq (.seq (.reg d32_6 g32_6) (.cond (.t 20) .skip (.exit 0))) (.seq (.block 1 (.seq (.reg d32_7 g32_7) (.cond (.t 28) (.seq (.reg d32_8 g32_8) .ret) .skip))) (.reg d32_9 g32_9)))))) (.seq (.reg d32_10 g32_10) (.seq (.seq (.reg d32_11 g32_11) (.block 2 (.loop (.seq (.seq (.reg d32_12 g32_12) (.cond (.t 33) .skip (.exit 2))) (.seq (.block 3 (.seq (.reg d32_13 g32_13) (.seq (.seq (.reg d32_14 g32_14) (.block 4 (.loop (.seq (.seq (.reg d32_15 g32_15) (.cond (.t 39) .skip (.exit 4))) (.seq (.block 5 (.reg d32_16 g32_16)) (.reg d32_17 g32_17)))))) (.seq (.reg d32_18 g32_18) (.cond (.t 61) (.reg d32_19 g32_19) .skip))))) (.reg d32_20 g32_20)))))) (.seq (.reg d32_21 g32_21) .ret)))))))
def r32 : List RV := [.tmp 4, .tmp 5]
theorem cc32 : (Try.f32.body.bind (cCode Try.prog Try.f32.ntmps)) = some c32 := by kernel_rfl
theorem cr32 : cRes Try.prog Try.f32.results.toList = some r32 := by kernel_rfl
theorem ca32 : callable Try.prog 32 = true := by kernel_rfl
-- 33 pinfold/pinfoldref01.Members
def g33_0 : List G := [⟨(some 2), .mv (.c (.nils 1)), none⟩]
def d33_0 : Option (List (List Nat)) := none
def l33_0 : List Nat := []
theorem cd33_0 : dOk d33_0 g33_0 l33_0 = true := by kernel_rfl
def g33_1 : List G := [⟨(some 3), .mv (.c (.nils 1)), none⟩]
def d33_1 : Option (List (List Nat)) := none
def l33_1 : List Nat := []
theorem cd33_1 : dOk d33_1 g33_1 l33_1 = true := by kernel_rfl
def g33_2 : List G := [⟨(some 4), .mv (.c (.int .i64 (0))), none⟩]
def d33_2 : Option (List (List Nat)) := none
def l33_2 : List Nat := []
theorem cd33_2 : dOk d33_2 g33_2 l33_2 = true := by kernel_rfl
def g33_3 : List G := [⟨(some 5), .mv (.t 4), none⟩,
  ⟨(some 6), .bin .lss (.t 5) (.c (.int .i64 (5))), none⟩]
def d33_3 : Option (List (List Nat)) := none
def l33_3 : List Nat := []
theorem cd33_3 : dOk d33_3 g33_3 l33_3 = true := by kernel_rfl
def g33_4 : List G := [⟨(some 9), .mv (.t 0), none⟩,
  ⟨(some 10), .mv (.t 4), none⟩,
  ⟨(some 11), .bin .shl (.c (.int .i64 (1))) (.t 10), none⟩,
  ⟨(some 12), .bin .and (.t 9) (.t 11), none⟩,
  ⟨(some 13), .bin .neq (.t 12) (.c (.int .i64 (0))), none⟩]
def d33_4 : Option (List (List Nat)) := none
def l33_4 : List Nat := []
theorem cd33_4 : dOk d33_4 g33_4 l33_4 = true := by kernel_rfl
def g33_5 : List G := [⟨(some 14), .mv (.t 3), none⟩,
  ⟨(some 15), .mv (.t 4), none⟩,
  ⟨(some 16), .bs 1 [(.t 15)], none⟩,
  ⟨(some 17), .app 3 1 8 (.int .i64 (0)) (.t 14) (.t 16), none⟩,
  ⟨(some 3), .mv (.t 17), none⟩]
def d33_5 : Option (List (List Nat)) := none
def l33_5 : List Nat := []
theorem cd33_5 : dOk d33_5 g33_5 l33_5 = true := by kernel_rfl
def g33_6 : List G := [⟨(some 7), .mv (.t 4), none⟩,
  ⟨(some 8), .bin .add (.t 7) (.c (.int .i64 (1))), none⟩,
  ⟨(some 4), .mv (.t 8), none⟩]
def d33_6 : Option (List (List Nat)) := none
def l33_6 : List Nat := []
theorem cd33_6 : dOk d33_6 g33_6 l33_6 = true := by kernel_rfl
def g33_7 : List G := [⟨(some 18), .mv (.t 3), none⟩,
  ⟨(some 2), .mv (.t 18), none⟩]
def d33_7 : Option (List (List Nat)) := none
def l33_7 : List Nat := []
theorem cd33_7 : dOk d33_7 g33_7 l33_7 = true := by kernel_rfl
def c33 : AC := (.seq (.reg d33_0 g33_0) (.seq (.reg d33_1 g33_1) (.seq (.seq (.reg d33_2 g33_2) (.block 0 (.loop (.seq (.seq (.reg d33_3 g33_3) (.cond (.t 6) .skip (.exit 0))) (.seq (.block 1 (.seq (.reg d33_4 g33_4) (.cond (.t 13) (.reg d33_5 g33_5) .skip))) (.reg d33_6 g33_6)))))) (.seq (.reg d33_7 g33_7) .ret))))
def r33 : List RV := [.tmp 2]
theorem cc33 : (Try.f33.body.bind (cCode Try.prog Try.f33.ntmps)) = some c33 := by kernel_rfl
theorem cr33 : cRes Try.prog Try.f33.results.toList = some r33 := by kernel_rfl
theorem ca33 : callable Try.prog 33 = true := by kernel_rfl
-- 34 pinfold/pinfoldref01.Wears
def g34_0 : List G := [⟨(some 2), .alloc (.agg [.int .i64 (0), .int .i64 (0), .int .i64 (0), .int .i64 (0), .int .i64 (0)]), none⟩]
def d34_0 : Option (List (List Nat)) := none
def l34_0 : List Nat := []
theorem cd34_0 : dOk d34_0 g34_0 l34_0 = true := by kernel_rfl
def g34_1 : List G := [⟨(some 3), .alloc (.agg [.int .i64 (0), .int .i64 (0), .int .i64 (0), .int .i64 (0), .int .i64 (0)]), none⟩]
def d34_1 : Option (List (List Nat)) := none
def l34_1 : List Nat := []
theorem cd34_1 : dOk d34_1 g34_1 l34_1 = true := by kernel_rfl
def g34_2 : List G := [⟨(some 4), .mv (.c (.int .i64 (0))), none⟩]
def d34_2 : Option (List (List Nat)) := none
def l34_2 : List Nat := []
theorem cd34_2 : dOk d34_2 g34_2 l34_2 = true := by kernel_rfl
def g34_3 : List G := [⟨(some 6), .mv (.t 4), none⟩,
  ⟨(some 7), .bin .lss (.t 6) (.c (.int .i64 (5))), none⟩]
def d34_3 : Option (List (List Nat)) := none
def l34_3 : List Nat := []
theorem cd34_3 : dOk d34_3 g34_3 l34_3 = true := by kernel_rfl
def g34_4 : List G := [⟨(some 10), .mv (.t 4), none⟩,
  ⟨(some 11), .mv (.t 4), none⟩,
  ⟨(some 12), .bin .shl (.c (.int .i64 (1))) (.t 11), none⟩,
  ⟨(some 13), .ia 5 1 (.t 3) (.t 10), none⟩,
  ⟨none, .st none (.t 13) (.t 12), none⟩]
def d34_4 : Option (List (List Nat)) := none
def l34_4 : List Nat := []
theorem cd34_4 : dOk d34_4 g34_4 l34_4 = true := by kernel_rfl
def g34_5 : List G := [⟨(some 14), .mv (.t 0), none⟩,
  ⟨(some 15), .mv (.t 4), none⟩,
  ⟨(some 16), .call 25 [(.t 14), (.t 15)], none⟩,
  ⟨(some 17), .call 23 [(.t 16), (.c (.int .i64 (12)))], none⟩,
  ⟨(some 5), .mv (.t 17), none⟩]
def d34_5 : Option (List (List Nat)) := none
def l34_5 : List Nat := []
theorem cd34_5 : dOk d34_5 g34_5 l34_5 = true := by kernel_rfl
def g34_6 : List G := [⟨(some 18), .mv (.t 5), none⟩,
  ⟨(some 19), .bin .lss (.t 18) (.c (.int .i64 (5))), none⟩]
def d34_6 : Option (List (List Nat)) := none
def l34_6 : List Nat := []
theorem cd34_6 : dOk d34_6 g34_6 l34_6 = true := by kernel_rfl
def g34_7 : List G := [⟨(some 20), .mv (.t 4), none⟩,
  ⟨(some 21), .mv (.t 4), none⟩,
  ⟨(some 22), .ia 5 1 (.t 3) (.t 21), none⟩,
  ⟨(some 23), .ld none (.t 22), none⟩,
  ⟨(some 24), .mv (.t 5), none⟩,
  ⟨(some 25), .bin .shl (.c (.int .i64 (1))) (.t 24), none⟩,
  ⟨(some 26), .bin .or (.t 23) (.t 25), none⟩,
  ⟨(some 27), .ia 5 1 (.t 3) (.t 20), none⟩,
  ⟨none, .st none (.t 27) (.t 26), none⟩]
def d34_7 : Option (List (List Nat)) := (some [[], [], [1], [2], [], [4], [3, 5], [0, 0, 1, 2, 3, 4, 5, 6], [7, 6, 0, 1, 2, 3, 4, 5, 6]])
def l34_7 : List Nat := [0, 0, 2, 6, 0, 16, 62, 127, 255]
theorem cd34_7 : dOk d34_7 g34_7 l34_7 = true := by kernel_rfl
def g34_8 : List G := [⟨(some 8), .mv (.t 4), none⟩,
  ⟨(some 9), .bin .add (.t 8) (.c (.int .i64 (1))), none⟩,
  ⟨(some 4), .mv (.t 9), none⟩]
def d34_8 : Option (List (List Nat)) := none
def l34_8 : List Nat := []
theorem cd34_8 : dOk d34_8 g34_8 l34_8 = true := by kernel_rfl
def g34_9 : List G := [⟨(some 28), .ld (some 5) (.t 3), none⟩,
  ⟨none, .st (some 5) (.t 2) (.t 28), none⟩]
def d34_9 : Option (List (List Nat)) := none
def l34_9 : List Nat := []
theorem cd34_9 : dOk d34_9 g34_9 l34_9 = true := by kernel_rfl
def c34 : AC := (.seq (.reg d34_0 g34_0) (.seq (.reg d34_1 g34_1) (.seq (.seq (.reg d34_2 g34_2) (.block 0 (.loop (.seq (.seq (.reg d34_3 g34_3) (.cond (.t 7) .skip (.exit 0))) (.seq (.block 1 (.seq (.reg d34_4 g34_4) (.seq (.reg d34_5 g34_5) (.seq (.reg d34_6 g34_6) (.cond (.t 19) (.reg d34_7 g34_7) .skip))))) (.reg d34_8 g34_8)))))) (.seq (.reg d34_9 g34_9) .ret))))
def r34 : List RV := [.cell 2 (some 5)]
theorem cc34 : (Try.f34.body.bind (cCode Try.prog Try.f34.ntmps)) = some c34 := by kernel_rfl
theorem cr34 : cRes Try.prog Try.f34.results.toList = some r34 := by kernel_rfl
theorem ca34 : callable Try.prog 34 = true := by kernel_rfl
-- 35 pinfold/pinfoldref01.Numbered
def g35_0 : List G := [⟨(some 2), .alloc (.agg [.int .i64 (0), .int .i64 (0), .int .i64 (0), .int .i64 (0), .int .i64 (0), .int .i64 (0)]), none⟩]
def d35_0 : Option (List (List Nat)) := none
def l35_0 : List Nat := []
theorem cd35_0 : dOk d35_0 g35_0 l35_0 = true := by kernel_rfl
def g35_1 : List G := [⟨(some 3), .alloc (.agg [.int .i64 (0), .int .i64 (0), .int .i64 (0), .int .i64 (0), .int .i64 (0), .int .i64 (0)]), none⟩]
def d35_1 : Option (List (List Nat)) := none
def l35_1 : List Nat := []
theorem cd35_1 : dOk d35_1 g35_1 l35_1 = true := by kernel_rfl
def g35_2 : List G := [⟨(some 4), .mv (.c (.int .i64 (5))), none⟩]
def d35_2 : Option (List (List Nat)) := none
def l35_2 : List Nat := []
theorem cd35_2 : dOk d35_2 g35_2 l35_2 = true := by kernel_rfl
def g35_3 : List G := [⟨(some 5), .mv (.t 4), none⟩,
  ⟨(some 6), .bin .geq (.t 5) (.c (.int .i64 (0))), none⟩]
def d35_3 : Option (List (List Nat)) := none
def l35_3 : List Nat := []
theorem cd35_3 : dOk d35_3 g35_3 l35_3 = true := by kernel_rfl
def g35_4 : List G := [⟨(some 9), .mv (.t 4), none⟩,
  ⟨(some 10), .mv (.t 0), none⟩,
  ⟨(some 11), .bin .rem (.t 10) (.c (.int .i64 (5))), none⟩,
  ⟨(some 12), .ia 6 1 (.t 3) (.t 9), none⟩,
  ⟨none, .st none (.t 12) (.t 11), none⟩]
def d35_4 : Option (List (List Nat)) := none
def l35_4 : List Nat := []
theorem cd35_4 : dOk d35_4 g35_4 l35_4 = true := by kernel_rfl
def g35_5 : List G := [⟨(some 13), .mv (.t 0), none⟩,
  ⟨(some 14), .bin .quo (.t 13) (.c (.int .i64 (5))), none⟩,
  ⟨(some 0), .mv (.t 14), none⟩]
def d35_5 : Option (List (List Nat)) := none
def l35_5 : List Nat := []
theorem cd35_5 : dOk d35_5 g35_5 l35_5 = true := by kernel_rfl
def g35_6 : List G := [⟨(some 7), .mv (.t 4), none⟩,
  ⟨(some 8), .bin .sub (.t 7) (.c (.int .i64 (1))), none⟩,
  ⟨(some 4), .mv (.t 8), none⟩]
def d35_6 : Option (List (List Nat)) := none
def l35_6 : List Nat := []
theorem cd35_6 : dOk d35_6 g35_6 l35_6 = true := by kernel_rfl
def g35_7 : List G := [⟨(some 15), .ld (some 6) (.t 3), none⟩,
  ⟨none, .st (some 6) (.t 2) (.t 15), none⟩]
def d35_7 : Option (List (List Nat)) := none
def l35_7 : List Nat := []
theorem cd35_7 : dOk d35_7 g35_7 l35_7 = true := by kernel_rfl
def c35 : AC := (.seq (.reg d35_0 g35_0) (.seq (.reg d35_1 g35_1) (.seq (.seq (.reg d35_2 g35_2) (.block 0 (.loop (.seq (.seq (.reg d35_3 g35_3) (.cond (.t 6) .skip (.exit 0))) (.seq (.block 1 (.seq (.reg d35_4 g35_4) (.reg d35_5 g35_5))) (.reg d35_6 g35_6)))))) (.seq (.reg d35_7 g35_7) .ret))))
def r35 : List RV := [.cell 2 (some 6)]
theorem cc35 : (Try.f35.body.bind (cCode Try.prog Try.f35.ntmps)) = some c35 := by kernel_rfl
theorem cr35 : cRes Try.prog Try.f35.results.toList = some r35 := by kernel_rfl
theorem ca35 : callable Try.prog 35 = true := by kernel_rfl
-- 36 pinfold/mark.Distance
def g36_0 : List G := [⟨(some 3), .box (.t 0), none⟩,
  ⟨(some 4), .box (.t 1), none⟩,
  ⟨(some 5), .box (.t 2), none⟩,
  ⟨(some 6), .mv (.c (.int .i64 (0))), none⟩,
  ⟨(some 7), .mv (.c (.int .i64 (0))), none⟩]
def d36_0 : Option (List (List Nat)) := none
def l36_0 : List Nat := []
theorem cd36_0 : dOk d36_0 g36_0 l36_0 = true := by kernel_rfl
def g36_1 : List G := [⟨(some 9), .ld (some 5) (.t 3), none⟩,
  ⟨(some 10), .call 43 [(.t 9)], none⟩,
  ⟨(some 11), .ld (some 6) (.t 4), none⟩,
  ⟨(some 12), .call 41 [(.t 11)], none⟩,
  ⟨(some 13), .ld (some 6) (.t 5), none⟩,
  ⟨(some 14), .call 41 [(.t 13)], none⟩,
  ⟨(some 15), .bs 1 [(.t 10), (.t 12), (.t 14)], none⟩,
  ⟨(some 16), .call 64 [(.t 15)], none⟩,
  ⟨(some 8), .mv (.t 16), none⟩]
def d36_1 : Option (List (List Nat)) := (some [[], [0], [], [2, 1], [], [4, 3], [1, 3, 5], [6, 5], [7, 7, 0, 1, 2, 3, 4, 5, 6, 7]])
def l36_1 : List Nat := [0, 1, 0, 7, 0, 31, 63, 127, 255]
theorem cd36_1 : dOk d36_1 g36_1 l36_1 = true := by kernel_rfl
def g36_2 : List G := [⟨(some 17), .mv (.t 8), none⟩,
  ⟨(some 18), .bin .neq (.t 17) (.c (.int .i64 (0))), none⟩]
def d36_2 : Option (List (List Nat)) := none
def l36_2 : List Nat := []
theorem cd36_2 : dOk d36_2 g36_2 l36_2 = true := by kernel_rfl
def g36_3 : List G := [⟨(some 19), .mv (.t 8), none⟩,
  ⟨(some 6), .mv (.c (.int .i64 (0))), none⟩,
  ⟨(some 7), .mv (.t 19), none⟩]
def d36_3 : Option (List (List Nat)) := none
def l36_3 : List Nat := []
theorem cd36_3 : dOk d36_3 g36_3 l36_3 = true := by kernel_rfl
def g36_4 : List G := [⟨(some 20), .ld (some 5) (.t 3), none⟩,
  ⟨(some 21), .ld (some 6) (.t 4), none⟩,
  ⟨(some 22), .ld (some 6) (.t 5), none⟩,
  ⟨(some 23), .call 87 [(.t 20), (.t 21), (.t 22)], none⟩,
  ⟨(some 6), .mv (.t 23), none⟩,
  ⟨(some 7), .mv (.c (.int .i64 (0))), none⟩]
def d36_4 : Option (List (List Nat)) := none
def l36_4 : List Nat := []
theorem cd36_4 : dOk d36_4 g36_4 l36_4 = true := by kernel_rfl
def c36 : AC := (.seq (.reg d36_0 g36_0) (.seq (.seq (.reg d36_1 g36_1) (.seq (.reg d36_2 g36_2) (.cond (.t 18) (.seq (.reg d36_3 g36_3) .ret) .skip))) (.seq (.reg d36_4 g36_4) .ret)))
def r36 : List RV := [.tmp 6, .tmp 7]
theorem cc36 : (Try.f36.body.bind (cCode Try.prog Try.f36.ntmps)) = some c36 := by kernel_rfl
theorem cr36 : cRes Try.prog Try.f36.results.toList = some r36 := by kernel_rfl
theorem ca36 : callable Try.prog 36 = true := by kernel_rfl
-- 37 pinfold/mark.Cost
def g37_0 : List G := [⟨(some 3), .box (.t 0), none⟩,
  ⟨(some 4), .box (.t 1), none⟩,
  ⟨(some 5), .box (.t 2), none⟩,
  ⟨(some 6), .mv (.c (.int .i64 (0))), none⟩,
  ⟨(some 7), .mv (.c (.int .i64 (0))), none⟩]
def d37_0 : Option (List (List Nat)) := none
def l37_0 : List Nat := []
theorem cd37_0 : dOk d37_0 g37_0 l37_0 = true := by kernel_rfl
def g37_1 : List G := [⟨(some 9), .ld (some 5) (.t 3), none⟩,
  ⟨(some 10), .call 43 [(.t 9)], none⟩,
  ⟨(some 11), .ld (some 6) (.t 4), none⟩,
  ⟨(some 12), .call 41 [(.t 11)], none⟩,
  ⟨(some 13), .ld (some 6) (.t 5), none⟩,
  ⟨(some 14), .call 45 [(.t 13)], none⟩,
  ⟨(some 15), .bs 1 [(.t 10), (.t 12), (.t 14)], none⟩,
  ⟨(some 16), .call 64 [(.t 15)], none⟩,
  ⟨(some 8), .mv (.t 16), none⟩]
def d37_1 : Option (List (List Nat)) := (some [[], [0], [], [2, 1], [], [4, 3], [1, 3, 5], [6, 5], [7, 7, 0, 1, 2, 3, 4, 5, 6, 7]])
def l37_1 : List Nat := [0, 1, 0, 7, 0, 31, 63, 127, 255]
theorem cd37_1 : dOk d37_1 g37_1 l37_1 = true := by kernel_rfl
def g37_2 : List G := [⟨(some 17), .mv (.t 8), none⟩,
  ⟨(some 18), .bin .neq (.t 17) (.c (.int .i64 (0))), none⟩]
def d37_2 : Option (List (List Nat)) := none
def l37_2 : List Nat := []
theorem cd37_2 : dOk d37_2 g37_2 l37_2 = true := by kernel_rfl
def g37_3 : List G := [⟨(some 19), .mv (.t 8), none⟩,
  ⟨(some 6), .mv (.c (.int .i64 (0))), none⟩,
  ⟨(some 7), .mv (.t 19), none⟩]
def d37_3 : Option (List (List Nat)) := none
def l37_3 : List Nat := []
theorem cd37_3 : dOk d37_3 g37_3 l37_3 = true := by kernel_rfl
def g37_4 : List G := [⟨(some 20), .ld (some 5) (.t 3), none⟩,
  ⟨(some 21), .ld (some 6) (.t 4), none⟩,
  ⟨(some 22), .ld (some 6) (.t 5), none⟩,
  ⟨(some 23), .call 88 [(.t 20), (.t 21), (.t 22)], none⟩,
  ⟨(some 6), .mv (.t 23), none⟩,
  ⟨(some 7), .mv (.c (.int .i64 (0))), none⟩]
def d37_4 : Option (List (List Nat)) := none
def l37_4 : List Nat := []
theorem cd37_4 : dOk d37_4 g37_4 l37_4 = true := by kernel_rfl
def c37 : AC := (.seq (.reg d37_0 g37_0) (.seq (.seq (.reg d37_1 g37_1) (.seq (.reg d37_2 g37_2) (.cond (.t 18) (.seq (.reg d37_3 g37_3) .ret) .skip))) (.seq (.reg d37_4 g37_4) .ret)))
def r37 : List RV := [.tmp 6, .tmp 7]
theorem cc37 : (Try.f37.body.bind (cCode Try.prog Try.f37.ntmps)) = some c37 := by kernel_rfl
theorem cr37 : cRes Try.prog Try.f37.results.toList = some r37 := by kernel_rfl
theorem ca37 : callable Try.prog 37 = true := by kernel_rfl
-- 38 pinfold/mark.Meet
def g38_0 : List G := [⟨(some 4), .box (.t 0), none⟩,
  ⟨(some 6), .box (.t 2), none⟩,
  ⟨(some 7), .box (.t 3), none⟩,
  ⟨(some 8), .alloc (.agg [.int .i64 (0), .int .i64 (0), .int .i64 (0), .int .i64 (0), .int .i64 (0), .int .i64 (0)]), none⟩,
  ⟨(some 9), .mv (.c (.int .i64 (0))), none⟩]
def d38_0 : Option (List (List Nat)) := none
def l38_0 : List Nat := []
theorem cd38_0 : dOk d38_0 g38_0 l38_0 = true := by kernel_rfl
def g38_1 : List G := [⟨(some 16), .ld (some 5) (.t 4), none⟩,
  ⟨(some 17), .call 43 [(.t 16)], none⟩,
  ⟨(some 18), .ld (some 6) (.t 6), none⟩,
  ⟨(some 19), .call 41 [(.t 18)], none⟩,
  ⟨(some 20), .ld (some 6) (.t 7), none⟩,
  ⟨(some 21), .call 41 [(.t 20)], none⟩,
  ⟨(some 22), .bs 1 [(.t 17), (.t 19), (.t 21)], none⟩,
  ⟨(some 23), .call 64 [(.t 22)], none⟩,
  ⟨(some 10), .mv (.t 23), none⟩]
def d38_1 : Option (List (List Nat)) := (some [[], [0], [], [2, 1], [], [4, 3], [1, 3, 5], [6, 5], [7, 7, 0, 1, 2, 3, 4, 5, 6, 7]])
def l38_1 : List Nat := [0, 1, 0, 7, 0, 31, 63, 127, 255]
theorem cd38_1 : dOk d38_1 g38_1 l38_1 = true := by kernel_rfl
def g38_2 : List G := [⟨(some 24), .mv (.t 10), none⟩,
  ⟨(some 25), .bin .neq (.t 24) (.c (.int .i64 (0))), none⟩]
def d38_2 : Option (List (List Nat)) := none
def l38_2 : List Nat := []
theorem cd38_2 : dOk d38_2 g38_2 l38_2 = true := by kernel_rfl
def g38_3 : List G := [⟨(some 26), .bld [.int .i64 (0), .int .i64 (0), .int .i64 (0), .int .i64 (0), .int .i64 (0), .int .i64 (0)] [], none⟩,
  ⟨(some 27), .mv (.t 10), none⟩,
  ⟨none, .st (some 6) (.t 8) (.t 26), none⟩,
  ⟨(some 9), .mv (.t 27), none⟩]
def d38_3 : Option (List (List Nat)) := none
def l38_3 : List Nat := []
theorem cd38_3 : dOk d38_3 g38_3 l38_3 = true := by kernel_rfl
def g38_4 : List G := [⟨(some 28), .mv (.t 1), none⟩,
  ⟨(some 29), .call 89 [(.t 28), (.c (.int .i64 (0))), (.c (.int .i64 (2)))], none⟩,
  ⟨(some 30), .un .not (.t 29), none⟩]
def d38_4 : Option (List (List Nat)) := none
def l38_4 : List Nat := []
theorem cd38_4 : dOk d38_4 g38_4 l38_4 = true := by kernel_rfl
def g38_5 : List G := [⟨(some 31), .bld [.int .i64 (0), .int .i64 (0), .int .i64 (0), .int .i64 (0), .int .i64 (0), .int .i64 (0)] [], none⟩,
  ⟨none, .st (some 6) (.t 8) (.t 31), none⟩,
  ⟨(some 9), .mv (.c (.int .i64 (1))), none⟩]
def d38_5 : Option (List (List Nat)) := none
def l38_5 : List Nat := []
theorem cd38_5 : dOk d38_5 g38_5 l38_5 = true := by kernel_rfl
def g38_6 : List G := [⟨(some 32), .ld (some 5) (.t 4), none⟩,
  ⟨(some 33), .ld (some 6) (.t 6), none⟩,
  ⟨(some 34), .ld (some 6) (.t 7), none⟩,
  ⟨(some 35), .call 87 [(.t 32), (.t 33), (.t 34)], none⟩,
  ⟨(some 36), .mv (.t 1), none⟩,
  ⟨(some 37), .bin .mul (.c (.int .i64 (2))) (.t 36), none⟩,
  ⟨(some 38), .bin .gtr (.t 35) (.t 37), none⟩]
def d38_6 : Option (List (List Nat)) := none
def l38_6 : List Nat := []
theorem cd38_6 : dOk d38_6 g38_6 l38_6 = true := by kernel_rfl
def g38_7 : List G := [⟨(some 39), .bld [.int .i64 (0), .int .i64 (0), .int .i64 (0), .int .i64 (0), .int .i64 (0), .int .i64 (0)] [], none⟩,
  ⟨none, .st (some 6) (.t 8) (.t 39), none⟩,
  ⟨(some 9), .mv (.c (.int .i64 (14))), none⟩]
def d38_7 : Option (List (List Nat)) := none
def l38_7 : List Nat := []
theorem cd38_7 : dOk d38_7 g38_7 l38_7 = true := by kernel_rfl
def g38_8 : List G := [⟨(some 11), .alloc (.agg [.int .i64 (0), .int .i64 (0), .int .i64 (0), .int .i64 (0), .int .i64 (0), .int .i64 (0)]), none⟩]
def d38_8 : Option (List (List Nat)) := none
def l38_8 : List Nat := []
theorem cd38_8 : dOk d38_8 g38_8 l38_8 = true := by kernel_rfl
def g38_9 : List G := [⟨(some 12), .mv (.c (.int .i64 (0))), none⟩]
def d38_9 : Option (List (List Nat)) := none
def l38_9 : List Nat := []
theorem cd38_9 : dOk d38_9 g38_9 l38_9 = true := by kernel_rfl
def g38_10 : List G := [⟨(some 40), .mv (.c (.int .i64 (0))), none⟩]
def d38_10 : Option (List (List Nat)) := none
def l38_10 : List Nat := []
theorem cd38_10 : dOk d38_10 g38_10 l38_10 = true := by kernel_rfl
def g38_11 : List G := [⟨(some 41), .bin .lss (.t 40) (.c (.int .i64 (6))), none⟩]
def d38_11 : Option (List (List Nat)) := none
def l38_11 : List Nat := []
theorem cd38_11 : dOk d38_11 g38_11 l38_11 = true := by kernel_rfl
def g38_12 : List G := [⟨(some 42), .mv (.t 40), none⟩,
  ⟨(some 13), .mv (.t 42), none⟩]
def d38_12 : Option (List (List Nat)) := none
def l38_12 : List Nat := []
theorem cd38_12 : dOk d38_12 g38_12 l38_12 = true := by kernel_rfl
def g38_13 : List G := [⟨(some 43), .ld (some 5) (.t 4), none⟩,
  ⟨(some 44), .ld (some 6) (.t 6), none⟩,
  ⟨(some 45), .mv (.t 13), none⟩,
  ⟨(some 46), .call 77 [(.t 43), (.t 44), (.t 45)], none⟩,
  ⟨(some 47), .ld (some 5) (.t 4), none⟩,
  ⟨(some 48), .ld (some 6) (.t 7), none⟩,
  ⟨(some 49), .mv (.t 13), none⟩,
  ⟨(some 50), .call 77 [(.t 47), (.t 48), (.t 49)], none⟩,
  ⟨(some 14), .mv (.t 46), none⟩,
  ⟨(some 15), .mv (.t 50), none⟩]
def d38_13 : Option (List (List Nat)) := (some [[], [], [], [0, 1, 2], [], [], [], [4, 5, 6, 3], [3, 7, 0, 1, 2, 3], [7, 8, 0, 1, 2, 3, 4, 5, 6, 7, 8]])
def l38_13 : List Nat := [0, 0, 0, 7, 0, 0, 0, 127, 255, 511]
theorem cd38_13 : dOk d38_13 g38_13 l38_13 = true := by kernel_rfl
def g38_14 : List G := [⟨(some 61), .mv (.t 14), none⟩,
  ⟨(some 62), .mv (.t 15), none⟩,
  ⟨(some 63), .call 78 [(.t 61), (.t 62)], none⟩,
  ⟨(some 60), .mv (.t 63), none⟩]
def d38_14 : Option (List (List Nat)) := none
def l38_14 : List Nat := []
theorem cd38_14 : dOk d38_14 g38_14 l38_14 = true := by kernel_rfl
def g38_15 : List G := [⟨(some 64), .mv (.t 13), none⟩,
  ⟨(some 65), .mv (.t 14), none⟩,
  ⟨(some 66), .mv (.t 15), none⟩,
  ⟨(some 67), .bin .and (.t 65) (.t 66), none⟩,
  ⟨(some 68), .call 81 [(.t 67)], none⟩,
  ⟨(some 69), .is 1 (.t 68) (.c (.int .i64 (0))), none⟩,
  ⟨(some 70), .ld none (.t 69), none⟩,
  ⟨(some 71), .bin .shl (.c (.int .i64 (1))) (.t 70), none⟩,
  ⟨(some 72), .ia 6 1 (.t 11) (.t 64), none⟩,
  ⟨none, .st none (.t 72) (.t 71), none⟩]
def d38_15 : Option (List (List Nat)) := none
def l38_15 : List Nat := []
theorem cd38_15 : dOk d38_15 g38_15 l38_15 = true := by kernel_rfl
def g38_16 : List G := [⟨(some 74), .mv (.t 12), none⟩,
  ⟨(some 75), .bin .rem (.t 74) (.c (.int .i64 (2))), none⟩,
  ⟨(some 76), .bin .eql (.t 75) (.c (.int .i64 (0))), none⟩,
  ⟨(some 73), .mv (.t 76), none⟩]
def d38_16 : Option (List (List Nat)) := none
def l38_16 : List Nat := []
theorem cd38_16 : dOk d38_16 g38_16 l38_16 = true := by kernel_rfl
def g38_17 : List G := [⟨(some 77), .mv (.t 13), none⟩,
  ⟨(some 78), .mv (.t 14), none⟩,
  ⟨(some 79), .call 81 [(.t 78)], none⟩,
  ⟨(some 80), .is 1 (.t 79) (.c (.int .i64 (0))), none⟩,
  ⟨(some 81), .ld none (.t 80), none⟩,
  ⟨(some 82), .bin .shl (.c (.int .i64 (1))) (.t 81), none⟩,
  ⟨(some 83), .ia 6 1 (.t 11) (.t 77), none⟩,
  ⟨none, .st none (.t 83) (.t 82), none⟩]
def d38_17 : Option (List (List Nat)) := none
def l38_17 : List Nat := []
theorem cd38_17 : dOk d38_17 g38_17 l38_17 = true := by kernel_rfl
def g38_18 : List G := [⟨(some 84), .mv (.t 12), none⟩,
  ⟨(some 85), .bin .add (.t 84) (.c (.int .i64 (1))), none⟩,
  ⟨(some 12), .mv (.t 85), none⟩]
def d38_18 : Option (List (List Nat)) := none
def l38_18 : List Nat := []
theorem cd38_18 : dOk d38_18 g38_18 l38_18 = true := by kernel_rfl
def g38_19 : List G := [⟨(some 51), .mv (.t 13), none⟩,
  ⟨(some 52), .mv (.t 15), none⟩,
  ⟨(some 53), .call 81 [(.t 52)], none⟩,
  ⟨(some 54), .is 1 (.t 53) (.c (.int .i64 (0))), none⟩,
  ⟨(some 55), .ld none (.t 54), none⟩,
  ⟨(some 56), .bin .shl (.c (.int .i64 (1))) (.t 55), none⟩,
  ⟨(some 57), .ia 6 1 (.t 11) (.t 51), none⟩,
  ⟨none, .st none (.t 57) (.t 56), none⟩]
def d38_19 : Option (List (List Nat)) := none
def l38_19 : List Nat := []
theorem cd38_19 : dOk d38_19 g38_19 l38_19 = true := by kernel_rfl
def g38_20 : List G := [⟨(some 58), .mv (.t 12), none⟩,
  ⟨(some 59), .bin .add (.t 58) (.c (.int .i64 (1))), none⟩,
  ⟨(some 12), .mv (.t 59), none⟩]
def d38_20 : Option (List (List Nat)) := none
def l38_20 : List Nat := []
theorem cd38_20 : dOk d38_20 g38_20 l38_20 = true := by kernel_rfl
def g38_21 : List G := [⟨(some 86), .bin .add (.t 40) (.c (.int .i64 (1))), none⟩,
  ⟨(some 40), .mv (.t 86), none⟩]
def d38_21 : Option (List (List Nat)) := none
def l38_21 : List Nat := []
theorem cd38_21 : dOk d38_21 g38_21 l38_21 = true := by kernel_rfl
def g38_22 : List G := [⟨(some 87), .ld (some 6) (.t 11), none⟩,
  ⟨none, .st (some 6) (.t 8) (.t 87), none⟩,
  ⟨(some 9), .mv (.c (.int .i64 (0))), none⟩]
def d38_22 : Option (List (List Nat)) := none
def l38_22 : List Nat := []
theorem cd38_22 : dOk d38_22 g38_22 l38_22 = true := by kernel_rfl
def c38 : AC := (.seq (.reg d38_0 g38_0) (.seq (.seq (.reg d38_1 g38_1) (.seq (.reg d38_2 g38_2) (.cond (.t 25) (.seq (.reg d38_3 g38_3) .ret) .skip))) (.seq (.seq (.reg d38_4 g38_4) (.cond (.t 30) (.seq (.reg d38_5 g38_5) .ret) .skip)) (.seq (.seq (.reg d38_6 g38_6) (.cond (.t 38) (.seq (.reg d38_7 g38_7) .ret) .skip)) (.seq (.reg d38_8 g38_8) (.seq (.reg d38_9 g38_9) (.seq (.seq (.reg d38_10 g38_10) (.block 0 (.loop (.seq (.reg d38_11 g38_11) (.seq (.cond (.t 41) .skip (.exit 0)) (.seq (.block 1 (.seq (.reg d38_12 g38_12) (.seq (.reg d38_13 g38_13) (.block 2 (.seq (.reg d38_14 g38_14) (.cond (.t 60) (.reg d38_15 g38_15) (.seq (.reg d38_16 g38_16) (.cond (.t 73) (.seq (.reg d38_17 g38_17) (.reg d38_18 g38_18)) (.seq (.reg d38_19 g38_19) (.reg d38_20 g38_20)))))))))) (.reg d38_21 g38_21))))))) (.seq (.reg d38_22 g38_22) .ret))))))))
def r38 : List RV := [.cell 8 (some 6), .tmp 9]
theorem cc38 : (Try.f38.body.bind (cCode Try.prog Try.f38.ntmps)) = some c38 := by kernel_rfl
theorem cr38 : cRes Try.prog Try.f38.results.toList = some r38 := by kernel_rfl
theorem ca38 : callable Try.prog 38 = true := by kernel_rfl
-- 39 pinfold/mark.MarkOf
def g39_0 : List G := [⟨(some 2), .box (.t 0), none⟩,
  ⟨(some 4), .alloc (.agg [.int .i64 (0), .int .i64 (0), .int .i64 (0), .int .i64 (0), .int .i64 (0), .int .i64 (0)]), none⟩,
  ⟨(some 5), .mv (.c (.int .i64 (0))), none⟩]
def d39_0 : Option (List (List Nat)) := none
def l39_0 : List Nat := []
theorem cd39_0 : dOk d39_0 g39_0 l39_0 = true := by kernel_rfl
def g39_1 : List G := [⟨(some 9), .ld (some 7) (.t 2), none⟩,
  ⟨(some 10), .mv (.t 1), none⟩,
  ⟨(some 11), .call 90 [(.t 9), (.t 10)], none⟩,
  ⟨(some 6), .mv (.t 11), none⟩]
def d39_1 : Option (List (List Nat)) := none
def l39_1 : List Nat := []
theorem cd39_1 : dOk d39_1 g39_1 l39_1 = true := by kernel_rfl
def g39_2 : List G := [⟨(some 12), .mv (.t 6), none⟩,
  ⟨(some 13), .bin .neq (.t 12) (.c (.int .i64 (0))), none⟩]
def d39_2 : Option (List (List Nat)) := none
def l39_2 : List Nat := []
theorem cd39_2 : dOk d39_2 g39_2 l39_2 = true := by kernel_rfl
def g39_3 : List G := [⟨(some 14), .bld [.int .i64 (0), .int .i64 (0), .int .i64 (0), .int .i64 (0), .int .i64 (0), .int .i64 (0)] [], none⟩,
  ⟨(some 15), .mv (.t 6), none⟩,
  ⟨none, .st (some 6) (.t 4) (.t 14), none⟩,
  ⟨(some 5), .mv (.t 15), none⟩]
def d39_3 : Option (List (List Nat)) := none
def l39_3 : List Nat := []
theorem cd39_3 : dOk d39_3 g39_3 l39_3 = true := by kernel_rfl
def g39_4 : List G := [⟨(some 17), .ld (some 7) (.t 2), none⟩,
  ⟨(some 18), .mv (.t 1), none⟩,
  ⟨(some 19), .call 91 [(.t 17), (.t 18)], none⟩,
  ⟨(some 16), .mv (.t 19), none⟩,
  ⟨(some 20), .ext (.t 16) 0, none⟩,
  ⟨(some 21), .ext (.t 16) 1, none⟩,
  ⟨(some 7), .mv (.t 20), none⟩,
  ⟨(some 8), .mv (.t 21), none⟩]
def d39_4 : Option (List (List Nat)) := none
def l39_4 : List Nat := []
theorem cd39_4 : dOk d39_4 g39_4 l39_4 = true := by kernel_rfl
def g39_5 : List G := [⟨(some 22), .mv (.t 8), none⟩,
  ⟨(some 23), .un .not (.t 22), none⟩]
def d39_5 : Option (List (List Nat)) := none
def l39_5 : List Nat := []
theorem cd39_5 : dOk d39_5 g39_5 l39_5 = true := by kernel_rfl
def g39_6 : List G := [⟨(some 24), .bld [.int .i64 (0), .int .i64 (0), .int .i64 (0), .int .i64 (0), .int .i64 (0), .int .i64 (0)] [], none⟩,
  ⟨none, .st (some 6) (.t 4) (.t 24), none⟩,
  ⟨(some 5), .mv (.c (.int .i64 (3))), none⟩]
def d39_6 : Option (List (List Nat)) := none
def l39_6 : List Nat := []
theorem cd39_6 : dOk d39_6 g39_6 l39_6 = true := by kernel_rfl
def g39_7 : List G := [⟨(some 25), .fa 2 6 (.t 2), none⟩,
  ⟨(some 26), .ld none (.t 25), none⟩,
  ⟨(some 27), .mv (.t 7), none⟩,
  ⟨(some 28), .is 7 (.t 26) (.t 27), none⟩,
  ⟨(some 29), .fa 1 1 (.t 28), none⟩,
  ⟨(some 30), .ld (some 6) (.t 29), none⟩,
  ⟨none, .st (some 6) (.t 4) (.t 30), none⟩,
  ⟨(some 5), .mv (.c (.int .i64 (0))), none⟩]
def d39_7 : Option (List (List Nat)) := none
def l39_7 : List Nat := []
theorem cd39_7 : dOk d39_7 g39_7 l39_7 = true := by kernel_rfl
def c39 : AC := (.seq (.reg d39_0 g39_0) (.seq (.seq (.reg d39_1 g39_1) (.seq (.reg d39_2 g39_2) (.cond (.t 13) (.seq (.reg d39_3 g39_3) .ret) .skip))) (.seq (.reg d39_4 g39_4) (.seq (.seq (.reg d39_5 g39_5) (.cond (.t 23) (.seq (.reg d39_6 g39_6) .ret) .skip)) (.seq (.reg d39_7 g39_7) .ret)))))
def r39 : List RV := [.cell 4 (some 6), .tmp 5]
theorem cc39 : (Try.f39.body.bind (cCode Try.prog Try.f39.ntmps)) = some c39 := by kernel_rfl
theorem cr39 : cRes Try.prog Try.f39.results.toList = some r39 := by kernel_rfl
theorem ca39 : callable Try.prog 39 = true := by kernel_rfl
-- 40 pinfold/pinfoldref01.MarkOf
def g40_0 : List G := [⟨(some 2), .box (.t 0), none⟩,
  ⟨(some 4), .alloc (.agg [.int .i64 (0), .int .i64 (0), .int .i64 (0), .int .i64 (0), .int .i64 (0), .int .i64 (0)]), none⟩,
  ⟨(some 5), .mv (.c (.int .i64 (0))), none⟩]
def d40_0 : Option (List (List Nat)) := none
def l40_0 : List Nat := []
theorem cd40_0 : dOk d40_0 g40_0 l40_0 = true := by kernel_rfl
def g40_1 : List G := [⟨(some 8), .ld (some 7) (.t 2), none⟩,
  ⟨(some 9), .mv (.t 1), none⟩,
  ⟨(some 10), .call 92 [(.t 8), (.t 9)], none⟩,
  ⟨(some 6), .mv (.t 10), none⟩]
def d40_1 : Option (List (List Nat)) := none
def l40_1 : List Nat := []
theorem cd40_1 : dOk d40_1 g40_1 l40_1 = true := by kernel_rfl
def g40_2 : List G := [⟨(some 11), .mv (.t 6), none⟩,
  ⟨(some 12), .bin .neq (.t 11) (.c (.int .i64 (0))), none⟩]
def d40_2 : Option (List (List Nat)) := none
def l40_2 : List Nat := []
theorem cd40_2 : dOk d40_2 g40_2 l40_2 = true := by kernel_rfl
def g40_3 : List G := [⟨(some 13), .bld [.int .i64 (0), .int .i64 (0), .int .i64 (0), .int .i64 (0), .int .i64 (0), .int .i64 (0)] [], none⟩,
  ⟨(some 14), .mv (.t 6), none⟩,
  ⟨none, .st (some 6) (.t 4) (.t 13), none⟩,
  ⟨(some 5), .mv (.t 14), none⟩]
def d40_3 : Option (List (List Nat)) := none
def l40_3 : List Nat := []
theorem cd40_3 : dOk d40_3 g40_3 l40_3 = true := by kernel_rfl
def g40_4 : List G := [⟨(some 15), .ld (some 7) (.t 2), none⟩,
  ⟨(some 16), .mv (.t 1), none⟩,
  ⟨(some 17), .call 80 [(.t 15), (.t 16)], none⟩,
  ⟨(some 7), .mv (.t 17), none⟩]
def d40_4 : Option (List (List Nat)) := none
def l40_4 : List Nat := []
theorem cd40_4 : dOk d40_4 g40_4 l40_4 = true := by kernel_rfl
def g40_5 : List G := [⟨(some 18), .mv (.t 7), none⟩,
  ⟨(some 19), .bin .lss (.t 18) (.c (.int .i64 (0))), none⟩]
def d40_5 : Option (List (List Nat)) := none
def l40_5 : List Nat := []
theorem cd40_5 : dOk d40_5 g40_5 l40_5 = true := by kernel_rfl
def g40_6 : List G := [⟨(some 20), .bld [.int .i64 (0), .int .i64 (0), .int .i64 (0), .int .i64 (0), .int .i64 (0), .int .i64 (0)] [], none⟩,
  ⟨none, .st (some 6) (.t 4) (.t 20), none⟩,
  ⟨(some 5), .mv (.c (.int .i64 (3))), none⟩]
def d40_6 : Option (List (List Nat)) := none
def l40_6 : List Nat := []
theorem cd40_6 : dOk d40_6 g40_6 l40_6 = true := by kernel_rfl
def g40_7 : List G := [⟨(some 21), .fa 2 6 (.t 2), none⟩,
  ⟨(some 22), .ld none (.t 21), none⟩,
  ⟨(some 23), .mv (.t 7), none⟩,
  ⟨(some 24), .is 7 (.t 22) (.t 23), none⟩,
  ⟨(some 25), .fa 1 1 (.t 24), none⟩,
  ⟨(some 26), .ld (some 6) (.t 25), none⟩,
  ⟨none, .st (some 6) (.t 4) (.t 26), none⟩,
  ⟨(some 5), .mv (.c (.int .i64 (0))), none⟩]
def d40_7 : Option (List (List Nat)) := none
def l40_7 : List Nat := []
theorem cd40_7 : dOk d40_7 g40_7 l40_7 = true := by kernel_rfl
def c40 : AC := (.seq (.reg d40_0 g40_0) (.seq (.reg d40_1 g40_1) (.seq (.seq (.reg d40_2 g40_2) (.cond (.t 12) (.seq (.reg d40_3 g40_3) .ret) .skip)) (.seq (.reg d40_4 g40_4) (.seq (.seq (.reg d40_5 g40_5) (.cond (.t 19) (.seq (.reg d40_6 g40_6) .ret) .skip)) (.seq (.reg d40_7 g40_7) .ret))))))
def r40 : List RV := [.cell 4 (some 6), .tmp 5]
theorem cc40 : (Try.f40.body.bind (cCode Try.prog Try.f40.ntmps)) = some c40 := by kernel_rfl
theorem cr40 : cRes Try.prog Try.f40.results.toList = some r40 := by kernel_rfl
theorem ca40 : callable Try.prog 40 = true := by kernel_rfl
-- 41 pinfold/mark.CheckMark
def g41_0 : List G := [⟨(some 1), .box (.t 0), none⟩,
  ⟨(some 2), .mv (.c (.int .i64 (0))), none⟩]
def d41_0 : Option (List (List Nat)) := none
def l41_0 : List Nat := []
theorem cd41_0 : dOk d41_0 g41_0 l41_0 = true := by kernel_rfl
def g41_1 : List G := [⟨(some 3), .ld (some 6) (.t 1), none⟩,
  ⟨(some 4), .call 93 [(.t 3)], none⟩,
  ⟨(some 5), .un .not (.t 4), none⟩]
def d41_1 : Option (List (List Nat)) := none
def l41_1 : List Nat := []
theorem cd41_1 : dOk d41_1 g41_1 l41_1 = true := by kernel_rfl
def g41_2 : List G := [⟨(some 2), .mv (.c (.int .i64 (10))), none⟩]
def d41_2 : Option (List (List Nat)) := none
def l41_2 : List Nat := []
theorem cd41_2 : dOk d41_2 g41_2 l41_2 = true := by kernel_rfl
def g41_3 : List G := [⟨(some 2), .mv (.c (.int .i64 (0))), none⟩]
def d41_3 : Option (List (List Nat)) := none
def l41_3 : List Nat := []
theorem cd41_3 : dOk d41_3 g41_3 l41_3 = true := by kernel_rfl
def c41 : AC := (.seq (.reg d41_0 g41_0) (.seq (.seq (.reg d41_1 g41_1) (.cond (.t 5) (.seq (.reg d41_2 g41_2) .ret) .skip)) (.seq (.reg d41_3 g41_3) .ret)))
def r41 : List RV := [.tmp 2]
theorem cc41 : (Try.f41.body.bind (cCode Try.prog Try.f41.ntmps)) = some c41 := by kernel_rfl
theorem cr41 : cRes Try.prog Try.f41.results.toList = some r41 := by kernel_rfl
theorem ca41 : callable Try.prog 41 = true := by kernel_rfl
-- 42 pinfold/pinfoldref01.CheckMark
def g42_0 : List G := [⟨(some 1), .box (.t 0), none⟩,
  ⟨(some 2), .mv (.c (.int .i64 (0))), none⟩]
def d42_0 : Option (List (List Nat)) := none
def l42_0 : List Nat := []
theorem cd42_0 : dOk d42_0 g42_0 l42_0 = true := by kernel_rfl
def g42_1 : List G := [⟨(some 3), .mv (.c (.int .i64 (0))), none⟩]
def d42_1 : Option (List (List Nat)) := none
def l42_1 : List Nat := []
theorem cd42_1 : dOk d42_1 g42_1 l42_1 = true := by kernel_rfl
def g42_2 : List G := [⟨(some 4), .mv (.t 3), none⟩,
  ⟨(some 5), .bin .lss (.t 4) (.c (.int .i64 (6))), none⟩]
def d42_2 : Option (List (List Nat)) := none
def l42_2 : List Nat := []
theorem cd42_2 : dOk d42_2 g42_2 l42_2 = true := by kernel_rfl
def g42_3 : List G := [⟨(some 8), .mv (.t 3), none⟩,
  ⟨(some 9), .ia 6 1 (.t 1) (.t 8), none⟩,
  ⟨(some 10), .ld none (.t 9), none⟩,
  ⟨(some 11), .call 94 [(.t 10), (.c (.int .i64 (0))), (.c (.int .i64 (4)))], none⟩,
  ⟨(some 12), .un .not (.t 11), none⟩]
def d42_3 : Option (List (List Nat)) := none
def l42_3 : List Nat := []
theorem cd42_3 : dOk d42_3 g42_3 l42_3 = true := by kernel_rfl
def g42_4 : List G := [⟨(some 2), .mv (.c (.int .i64 (10))), none⟩]
def d42_4 : Option (List (List Nat)) := none
def l42_4 : List Nat := []
theorem cd42_4 : dOk d42_4 g42_4 l42_4 = true := by kernel_rfl
def g42_5 : List G := [⟨(some 6), .mv (.t 3), none⟩,
  ⟨(some 7), .bin .add (.t 6) (.c (.int .i64 (1))), none⟩,
  ⟨(some 3), .mv (.t 7), none⟩]
def d42_5 : Option (List (List Nat)) := none
def l42_5 : List Nat := []
theorem cd42_5 : dOk d42_5 g42_5 l42_5 = true := by kernel_rfl
def g42_6 : List G := [⟨(some 2), .mv (.c (.int .i64 (0))), none⟩]
def d42_6 : Option (List (List Nat)) := none
def l42_6 : List Nat := []
theorem cd42_6 : dOk d42_6 g42_6 l42_6 = true := by kernel_rfl
def c42 : AC := (.seq (.reg d42_0 g42_0) (.seq (.seq (.reg d42_1 g42_1) (.block 0 (.loop (.seq (.seq (.reg d42_2 g42_2) (.cond (.t 5) .skip (.exit 0))) (.seq (.block 1 (.seq (.reg d42_3 g42_3) (.cond (.t 12) (.seq (.reg d42_4 g42_4) .ret) .skip))) (.reg d42_5 g42_5)))))) (.seq (.reg d42_6 g42_6) .ret)))
def r42 : List RV := [.tmp 2]
theorem cc42 : (Try.f42.body.bind (cCode Try.prog Try.f42.ntmps)) = some c42 := by kernel_rfl
theorem cr42 : cRes Try.prog Try.f42.results.toList = some r42 := by kernel_rfl
theorem ca42 : callable Try.prog 42 = true := by kernel_rfl
-- 43 pinfold/mark.CheckWear
def g43_0 : List G := [⟨(some 1), .box (.t 0), none⟩,
  ⟨(some 2), .mv (.c (.int .i64 (0))), none⟩]
def d43_0 : Option (List (List Nat)) := none
def l43_0 : List Nat := []
theorem cd43_0 : dOk d43_0 g43_0 l43_0 = true := by kernel_rfl
def g43_1 : List G := [⟨(some 3), .ld (some 5) (.t 1), none⟩,
  ⟨(some 4), .call 95 [(.t 3)], none⟩,
  ⟨(some 5), .un .not (.t 4), none⟩]
def d43_1 : Option (List (List Nat)) := none
def l43_1 : List Nat := []
theorem cd43_1 : dOk d43_1 g43_1 l43_1 = true := by kernel_rfl
def g43_2 : List G := [⟨(some 2), .mv (.c (.int .i64 (11))), none⟩]
def d43_2 : Option (List (List Nat)) := none
def l43_2 : List Nat := []
theorem cd43_2 : dOk d43_2 g43_2 l43_2 = true := by kernel_rfl
def g43_3 : List G := [⟨(some 2), .mv (.c (.int .i64 (0))), none⟩]
def d43_3 : Option (List (List Nat)) := none
def l43_3 : List Nat := []
theorem cd43_3 : dOk d43_3 g43_3 l43_3 = true := by kernel_rfl
def c43 : AC := (.seq (.reg d43_0 g43_0) (.seq (.seq (.reg d43_1 g43_1) (.cond (.t 5) (.seq (.reg d43_2 g43_2) .ret) .skip)) (.seq (.reg d43_3 g43_3) .ret)))
def r43 : List RV := [.tmp 2]
theorem cc43 : (Try.f43.body.bind (cCode Try.prog Try.f43.ntmps)) = some c43 := by kernel_rfl
theorem cr43 : cRes Try.prog Try.f43.results.toList = some r43 := by kernel_rfl
theorem ca43 : callable Try.prog 43 = true := by kernel_rfl
-- 44 pinfold/pinfoldref01.CheckWear
def g44_0 : List G := [⟨(some 1), .box (.t 0), none⟩,
  ⟨(some 2), .mv (.c (.int .i64 (0))), none⟩]
def d44_0 : Option (List (List Nat)) := none
def l44_0 : List Nat := []
theorem cd44_0 : dOk d44_0 g44_0 l44_0 = true := by kernel_rfl
def g44_1 : List G := [⟨(some 3), .mv (.c (.int .i64 (0))), none⟩]
def d44_1 : Option (List (List Nat)) := none
def l44_1 : List Nat := []
theorem cd44_1 : dOk d44_1 g44_1 l44_1 = true := by kernel_rfl
def g44_2 : List G := [⟨(some 4), .mv (.t 3), none⟩,
  ⟨(some 5), .bin .lss (.t 4) (.c (.int .i64 (5))), none⟩]
def d44_2 : Option (List (List Nat)) := none
def l44_2 : List Nat := []
theorem cd44_2 : dOk d44_2 g44_2 l44_2 = true := by kernel_rfl
def g44_3 : List G := [⟨(some 8), .mv (.t 3), none⟩,
  ⟨(some 9), .ia 5 1 (.t 1) (.t 8), none⟩,
  ⟨(some 10), .ld none (.t 9), none⟩,
  ⟨(some 11), .call 94 [(.t 10), (.c (.int .i64 (0))), (.c (.int .i64 (31)))], none⟩,
  ⟨(some 12), .un .not (.t 11), none⟩,
  ⟨(some 13), .mv (.t 12), none⟩,
  ⟨(some 14), .mv (.t 3), some (13, false)⟩,
  ⟨(some 15), .ia 5 1 (.t 1) (.t 14), some (13, false)⟩,
  ⟨(some 16), .ld none (.t 15), some (13, false)⟩,
  ⟨(some 17), .mv (.t 3), some (13, false)⟩,
  ⟨(some 18), .bin .shl (.c (.int .i64 (1))) (.t 17), some (13, false)⟩,
  ⟨(some 19), .bin .and (.t 16) (.t 18), some (13, false)⟩,
  ⟨(some 20), .bin .eql (.t 19) (.c (.int .i64 (0))), some (13, false)⟩,
  ⟨(some 21), .pick (.t 13) (.c (.bool true)) (.t 20), none⟩]
def d44_3 : Option (List (List Nat)) := (some [[], [0], [1], [2], [3], [4, 3], [5], [6, 5], [7, 5], [5], [9, 5], [8, 10, 5], [11, 5], [5, 12]])
def l44_3 : List Nat := [0, 1, 3, 7, 15, 31, 63, 127, 255, 63, 575, 2047, 4095, 8191]
theorem cd44_3 : dOk d44_3 g44_3 l44_3 = true := by kernel_rfl
def g44_4 : List G := [⟨(some 2), .mv (.c (.int .i64 (11))), none⟩]
def d44_4 : Option (List (List Nat)) := none
def l44_4 : List Nat := []
theorem cd44_4 : dOk d44_4 g44_4 l44_4 = true := by kernel_rfl
def g44_5 : List G := [⟨(some 6), .mv (.t 3), none⟩,
  ⟨(some 7), .bin .add (.t 6) (.c (.int .i64 (1))), none⟩,
  ⟨(some 3), .mv (.t 7), none⟩]
def d44_5 : Option (List (List Nat)) := none
def l44_5 : List Nat := []
theorem cd44_5 : dOk d44_5 g44_5 l44_5 = true := by kernel_rfl
def g44_6 : List G := [⟨(some 2), .mv (.c (.int .i64 (0))), none⟩]
def d44_6 : Option (List (List Nat)) := none
def l44_6 : List Nat := []
theorem cd44_6 : dOk d44_6 g44_6 l44_6 = true := by kernel_rfl
def c44 : AC := (.seq (.reg d44_0 g44_0) (.seq (.seq (.reg d44_1 g44_1) (.block 0 (.loop (.seq (.seq (.reg d44_2 g44_2) (.cond (.t 5) .skip (.exit 0))) (.seq (.block 1 (.seq (.reg d44_3 g44_3) (.cond (.t 21) (.seq (.reg d44_4 g44_4) .ret) .skip))) (.reg d44_5 g44_5)))))) (.seq (.reg d44_6 g44_6) .ret)))
def r44 : List RV := [.tmp 2]
theorem cc44 : (Try.f44.body.bind (cCode Try.prog Try.f44.ntmps)) = some c44 := by kernel_rfl
theorem cr44 : cRes Try.prog Try.f44.results.toList = some r44 := by kernel_rfl
theorem ca44 : callable Try.prog 44 = true := by kernel_rfl
-- 45 pinfold/mark.CheckReading
def g45_0 : List G := [⟨(some 1), .box (.t 0), none⟩,
  ⟨(some 2), .mv (.c (.int .i64 (0))), none⟩]
def d45_0 : Option (List (List Nat)) := none
def l45_0 : List Nat := []
theorem cd45_0 : dOk d45_0 g45_0 l45_0 = true := by kernel_rfl
def g45_1 : List G := [⟨(some 3), .ld (some 6) (.t 1), none⟩,
  ⟨(some 4), .call 96 [(.t 3)], none⟩,
  ⟨(some 5), .un .not (.t 4), none⟩]
def d45_1 : Option (List (List Nat)) := none
def l45_1 : List Nat := []
theorem cd45_1 : dOk d45_1 g45_1 l45_1 = true := by kernel_rfl
def g45_2 : List G := [⟨(some 2), .mv (.c (.int .i64 (12))), none⟩]
def d45_2 : Option (List (List Nat)) := none
def l45_2 : List Nat := []
theorem cd45_2 : dOk d45_2 g45_2 l45_2 = true := by kernel_rfl
def g45_3 : List G := [⟨(some 2), .mv (.c (.int .i64 (0))), none⟩]
def d45_3 : Option (List (List Nat)) := none
def l45_3 : List Nat := []
theorem cd45_3 : dOk d45_3 g45_3 l45_3 = true := by kernel_rfl
def c45 : AC := (.seq (.reg d45_0 g45_0) (.seq (.seq (.reg d45_1 g45_1) (.cond (.t 5) (.seq (.reg d45_2 g45_2) .ret) .skip)) (.seq (.reg d45_3 g45_3) .ret)))
def r45 : List RV := [.tmp 2]
theorem cc45 : (Try.f45.body.bind (cCode Try.prog Try.f45.ntmps)) = some c45 := by kernel_rfl
theorem cr45 : cRes Try.prog Try.f45.results.toList = some r45 := by kernel_rfl
theorem ca45 : callable Try.prog 45 = true := by kernel_rfl
-- 46 pinfold/pinfoldref01.CheckReading
def g46_0 : List G := [⟨(some 1), .box (.t 0), none⟩,
  ⟨(some 2), .mv (.c (.int .i64 (0))), none⟩]
def d46_0 : Option (List (List Nat)) := none
def l46_0 : List Nat := []
theorem cd46_0 : dOk d46_0 g46_0 l46_0 = true := by kernel_rfl
def g46_1 : List G := [⟨(some 3), .mv (.c (.int .i64 (0))), none⟩]
def d46_1 : Option (List (List Nat)) := none
def l46_1 : List Nat := []
theorem cd46_1 : dOk d46_1 g46_1 l46_1 = true := by kernel_rfl
def g46_2 : List G := [⟨(some 4), .mv (.t 3), none⟩,
  ⟨(some 5), .bin .lss (.t 4) (.c (.int .i64 (6))), none⟩]
def d46_2 : Option (List (List Nat)) := none
def l46_2 : List Nat := []
theorem cd46_2 : dOk d46_2 g46_2 l46_2 = true := by kernel_rfl
def g46_3 : List G := [⟨(some 8), .mv (.t 3), none⟩,
  ⟨(some 9), .ia 6 1 (.t 1) (.t 8), none⟩,
  ⟨(some 10), .ld none (.t 9), none⟩,
  ⟨(some 11), .call 94 [(.t 10), (.c (.int .i64 (1))), (.c (.int .i64 (31)))], none⟩,
  ⟨(some 12), .un .not (.t 11), none⟩]
def d46_3 : Option (List (List Nat)) := none
def l46_3 : List Nat := []
theorem cd46_3 : dOk d46_3 g46_3 l46_3 = true := by kernel_rfl
def g46_4 : List G := [⟨(some 2), .mv (.c (.int .i64 (12))), none⟩]
def d46_4 : Option (List (List Nat)) := none
def l46_4 : List Nat := []
theorem cd46_4 : dOk d46_4 g46_4 l46_4 = true := by kernel_rfl
def g46_5 : List G := [⟨(some 6), .mv (.t 3), none⟩,
  ⟨(some 7), .bin .add (.t 6) (.c (.int .i64 (1))), none⟩,
  ⟨(some 3), .mv (.t 7), none⟩]
def d46_5 : Option (List (List Nat)) := none
def l46_5 : List Nat := []
theorem cd46_5 : dOk d46_5 g46_5 l46_5 = true := by kernel_rfl
def g46_6 : List G := [⟨(some 2), .mv (.c (.int .i64 (0))), none⟩]
def d46_6 : Option (List (List Nat)) := none
def l46_6 : List Nat := []
theorem cd46_6 : dOk d46_6 g46_6 l46_6 = true := by kernel_rfl
def c46 : AC := (.seq (.reg d46_0 g46_0) (.seq (.seq (.reg d46_1 g46_1) (.block 0 (.loop (.seq (.seq (.reg d46_2 g46_2) (.cond (.t 5) .skip (.exit 0))) (.seq (.block 1 (.seq (.reg d46_3 g46_3) (.cond (.t 12) (.seq (.reg d46_4 g46_4) .ret) .skip))) (.reg d46_5 g46_5)))))) (.seq (.reg d46_6 g46_6) .ret)))
def r46 : List RV := [.tmp 2]
theorem cc46 : (Try.f46.body.bind (cCode Try.prog Try.f46.ntmps)) = some c46 := by kernel_rfl
theorem cr46 : cRes Try.prog Try.f46.results.toList = some r46 := by kernel_rfl
theorem ca46 : callable Try.prog 46 = true := by kernel_rfl
-- 47 pinfold/mark.Check
def g47_0 : List G := [⟨(some 1), .box (.t 0), none⟩,
  ⟨(some 2), .mv (.c (.int .i64 (0))), none⟩]
def d47_0 : Option (List (List Nat)) := none
def l47_0 : List Nat := []
theorem cd47_0 : dOk d47_0 g47_0 l47_0 = true := by kernel_rfl
def g47_1 : List G := [⟨(some 5), .fa 0 0 (.t 1), none⟩,
  ⟨(some 6), .ld (some 5) (.t 5), none⟩,
  ⟨(some 7), .call 95 [(.t 6)], none⟩,
  ⟨(some 8), .un .not (.t 7), none⟩,
  ⟨(some 9), .mv (.t 8), none⟩,
  ⟨(some 10), .fa 1 5 (.t 1), some (9, false)⟩,
  ⟨(some 11), .ld none (.t 10), some (9, false)⟩,
  ⟨(some 12), .call 89 [(.t 11), (.c (.int .i64 (0))), (.c (.int .i64 (2)))], some (9, false)⟩,
  ⟨(some 13), .un .not (.t 12), some (9, false)⟩,
  ⟨(some 14), .pick (.t 9) (.c (.bool true)) (.t 13), none⟩,
  ⟨(some 15), .mv (.t 14), none⟩,
  ⟨(some 16), .fa 2 6 (.t 1), some (15, false)⟩,
  ⟨(some 17), .ld none (.t 16), some (15, false)⟩,
  ⟨(some 18), .len (.t 17), some (15, false)⟩,
  ⟨(some 19), .bin .gtr (.t 18) (.c (.int .i64 (40))), some (15, false)⟩,
  ⟨(some 20), .pick (.t 15) (.c (.bool true)) (.t 19), none⟩]
def d47_1 : Option (List (List Nat)) := none
def l47_1 : List Nat := []
theorem cd47_1 : dOk d47_1 g47_1 l47_1 = true := by kernel_rfl
def g47_2 : List G := [⟨(some 2), .mv (.c (.int .i64 (13))), none⟩]
def d47_2 : Option (List (List Nat)) := none
def l47_2 : List Nat := []
theorem cd47_2 : dOk d47_2 g47_2 l47_2 = true := by kernel_rfl
def g47_3 : List G := [⟨(some 21), .fa 2 6 (.t 1), none⟩,
  ⟨(some 22), .ld none (.t 21), none⟩,
  ⟨(some 23), .len (.t 22), none⟩,
  ⟨(some 24), .mv (.c (.int .i64 (0))), none⟩]
def d47_3 : Option (List (List Nat)) := none
def l47_3 : List Nat := []
theorem cd47_3 : dOk d47_3 g47_3 l47_3 = true := by kernel_rfl
def g47_4 : List G := [⟨(some 25), .bin .lss (.t 24) (.t 23), none⟩]
def d47_4 : Option (List (List Nat)) := none
def l47_4 : List Nat := []
theorem cd47_4 : dOk d47_4 g47_4 l47_4 = true := by kernel_rfl
def g47_5 : List G := [⟨(some 26), .mv (.t 24), none⟩,
  ⟨(some 27), .is 7 (.t 22) (.t 24), none⟩,
  ⟨(some 28), .ld (some 7) (.t 27), none⟩,
  ⟨(some 4), .alloc (.agg [.int .i64 (0), .agg [.int .i64 (0), .int .i64 (0), .int .i64 (0), .int .i64 (0), .int .i64 (0), .int .i64 (0)]]), none⟩,
  ⟨(some 3), .mv (.t 26), none⟩,
  ⟨none, .st (some 7) (.t 4) (.t 28), none⟩]
def d47_5 : Option (List (List Nat)) := none
def l47_5 : List Nat := []
theorem cd47_5 : dOk d47_5 g47_5 l47_5 = true := by kernel_rfl
def g47_6 : List G := [⟨(some 29), .fa 0 0 (.t 4), none⟩,
  ⟨(some 30), .ld none (.t 29), none⟩,
  ⟨(some 31), .call 97 [(.t 30)], none⟩,
  ⟨(some 32), .un .not (.t 31), none⟩,
  ⟨(some 33), .mv (.t 32), none⟩,
  ⟨(some 34), .fa 1 1 (.t 4), some (33, false)⟩,
  ⟨(some 35), .ld (some 6) (.t 34), some (33, false)⟩,
  ⟨(some 36), .call 93 [(.t 35)], some (33, false)⟩,
  ⟨(some 37), .un .not (.t 36), some (33, false)⟩,
  ⟨(some 38), .pick (.t 33) (.c (.bool true)) (.t 37), none⟩,
  ⟨(some 39), .mv (.t 38), none⟩,
  ⟨(some 40), .mv (.t 3), some (39, false)⟩,
  ⟨(some 41), .bin .gtr (.t 40) (.c (.int .i64 (0))), some (39, false)⟩,
  ⟨(some 42), .mv (.t 41), some (39, false)⟩,
  ⟨(some 43), .fa 2 6 (.t 1), some (42, true)⟩,
  ⟨(some 44), .ld none (.t 43), some (42, true)⟩,
  ⟨(some 45), .mv (.t 3), some (42, true)⟩,
  ⟨(some 46), .bin .sub (.t 45) (.c (.int .i64 (1))), some (42, true)⟩,
  ⟨(some 47), .is 7 (.t 44) (.t 46), some (42, true)⟩,
  ⟨(some 48), .fa 0 0 (.t 47), some (42, true)⟩,
  ⟨(some 49), .ld none (.t 48), some (42, true)⟩,
  ⟨(some 50), .fa 0 0 (.t 4), some (42, true)⟩,
  ⟨(some 51), .ld none (.t 50), some (42, true)⟩,
  ⟨(some 52), .bin .geq (.t 49) (.t 51), some (42, true)⟩,
  ⟨(some 53), .pick (.t 42) (.t 52) (.c (.bool false)), some (39, false)⟩,
  ⟨(some 54), .pick (.t 39) (.c (.bool true)) (.t 53), none⟩,
  ⟨(some 55), .mv (.t 54), none⟩,
  ⟨(some 56), .ld (some 7) (.t 1), some (55, false)⟩,
  ⟨(some 57), .fa 2 6 (.t 1), some (55, false)⟩,
  ⟨(some 58), .ld none (.t 57), some (55, false)⟩,
  ⟨(some 59), .mv (.t 3), some (55, false)⟩,
  ⟨(some 60), .sl 7 (.t 58) none (some (.t 59)) none, some (55, false)⟩,
  ⟨(some 61), .fa 1 1 (.t 4), some (55, false)⟩,
  ⟨(some 62), .ld (some 6) (.t 61), some (55, false)⟩,
  ⟨(some 63), .call 98 [(.t 56), (.t 60), (.t 62)], some (55, false)⟩,
  ⟨(some 64), .un .not (.t 63), some (55, false)⟩,
  ⟨(some 65), .pick (.t 55) (.c (.bool true)) (.t 64), none⟩]
def d47_6 : Option (List (List Nat)) := (some [[], [0], [1], [2], [3, 2], [4], [5, 4], [6, 4, 4], [7, 4], [4, 8], [9, 7], [10], [11, 10], [12, 10, 10], [13], [14, 13], [13], [16, 13], [15, 17, 13], [18, 13], [19, 13], [13], [21, 13], [20, 22, 13], [13, 23, 10], [10, 24], [25, 13], [26], [26], [28, 26], [26], [29, 30, 26], [26], [32, 26], [27, 31, 33, 26, 26], [34, 26], [26, 35]])
def l47_6 : List Nat := [0, 1, 3, 7, 15, 31, 63, 127, 255, 511, 1023, 2047, 4095, 8191, 16383, 32767, 16383, 81919, 262143, 524287, 1048575, 16383, 2113535, 8388607, 16777215, 33554431, 67108863, 134217727, 134217727, 402653183, 134217727, 2013265919, 134217727, 4429185023, 17179869183, 34359738367, 68719476735]
theorem cd47_6 : dOk d47_6 g47_6 l47_6 = true := by kernel_rfl
def g47_7 : List G := [⟨(some 2), .mv (.c (.int .i64 (13))), none⟩]
def d47_7 : Option (List (List Nat)) := none
def l47_7 : List Nat := []
theorem cd47_7 : dOk d47_7 g47_7 l47_7 = true := by kernel_rfl
def g47_8 : List G := [⟨(some 66), .bin .add (.t 24) (.c (.int .i64 (1))), none⟩,
  ⟨(some 24), .mv (.t 66), none⟩]
def d47_8 : Option (List (List Nat)) := none
def l47_8 : List Nat := []
theorem cd47_8 : dOk d47_8 g47_8 l47_8 = true := by kernel_rfl
def g47_9 : List G := [⟨(some 2), .mv (.c (.int .i64 (0))), none⟩]
def d47_9 : Option (List (List Nat)) := none
def l47_9 : List Nat := []
theorem cd47_9 : dOk d47_9 g47_9 l47_9 = true := by kernel_rfl
def c47 : AC := (.seq (.reg d47_0 g47_0) (.seq (.seq (.reg d47_1 g47_1) (.cond (.t 20) (.seq (.reg d47_2 g47_2) .ret) .skip)) (.seq (.seq (.reg d47_3 g47_3) (.block 0 (.loop (.seq (.reg d47_4 g47_4) (.seq (.cond (.t 25) .skip (.exit 0)) (.seq (.block 1 (.seq (.reg d47_5 g47_5) (.seq (.reg d47_6 g47_6) (.cond (.t 65) (.seq (.reg d47_7 g47_7) .ret) .skip)))) (.reg d47_8 g47_8))))))) (.seq (.reg d47_9 g47_9) .ret))))
def r47 : List RV := [.tmp 2]
theorem cc47 : (Try.f47.body.bind (cCode Try.prog Try.f47.ntmps)) = some c47 := by kernel_rfl
theorem cr47 : cRes Try.prog Try.f47.results.toList = some r47 := by kernel_rfl
theorem ca47 : callable Try.prog 47 = true := by kernel_rfl
-- 48 pinfold/pinfoldref01.Check
def g48_0 : List G := [⟨(some 1), .box (.t 0), none⟩,
  ⟨(some 2), .mv (.c (.int .i64 (0))), none⟩]
def d48_0 : Option (List (List Nat)) := none
def l48_0 : List Nat := []
theorem cd48_0 : dOk d48_0 g48_0 l48_0 = true := by kernel_rfl
def g48_1 : List G := [⟨(some 6), .fa 0 0 (.t 1), none⟩,
  ⟨(some 7), .ld (some 5) (.t 6), none⟩,
  ⟨(some 8), .call 44 [(.t 7)], none⟩,
  ⟨(some 9), .bin .neq (.t 8) (.c (.int .i64 (0))), none⟩,
  ⟨(some 10), .mv (.t 9), none⟩,
  ⟨(some 11), .fa 1 5 (.t 1), some (10, false)⟩,
  ⟨(some 12), .ld none (.t 11), some (10, false)⟩,
  ⟨(some 13), .call 94 [(.t 12), (.c (.int .i64 (0))), (.c (.int .i64 (2)))], some (10, false)⟩,
  ⟨(some 14), .un .not (.t 13), some (10, false)⟩,
  ⟨(some 15), .pick (.t 10) (.c (.bool true)) (.t 14), none⟩,
  ⟨(some 16), .mv (.t 15), none⟩,
  ⟨(some 17), .fa 2 6 (.t 1), some (16, false)⟩,
  ⟨(some 18), .ld none (.t 17), some (16, false)⟩,
  ⟨(some 19), .len (.t 18), some (16, false)⟩,
  ⟨(some 20), .bin .gtr (.t 19) (.c (.int .i64 (40))), some (16, false)⟩,
  ⟨(some 21), .pick (.t 16) (.c (.bool true)) (.t 20), none⟩]
def d48_1 : Option (List (List Nat)) := none
def l48_1 : List Nat := []
theorem cd48_1 : dOk d48_1 g48_1 l48_1 = true := by kernel_rfl
def g48_2 : List G := [⟨(some 2), .mv (.c (.int .i64 (13))), none⟩]
def d48_2 : Option (List (List Nat)) := none
def l48_2 : List Nat := []
theorem cd48_2 : dOk d48_2 g48_2 l48_2 = true := by kernel_rfl
def g48_3 : List G := [⟨(some 3), .mv (.c (.int .i64 (0))), none⟩]
def d48_3 : Option (List (List Nat)) := none
def l48_3 : List Nat := []
theorem cd48_3 : dOk d48_3 g48_3 l48_3 = true := by kernel_rfl
def g48_4 : List G := [⟨(some 22), .mv (.t 3), none⟩,
  ⟨(some 23), .fa 2 6 (.t 1), none⟩,
  ⟨(some 24), .ld none (.t 23), none⟩,
  ⟨(some 25), .len (.t 24), none⟩,
  ⟨(some 26), .bin .lss (.t 22) (.t 25), none⟩]
def d48_4 : Option (List (List Nat)) := none
def l48_4 : List Nat := []
theorem cd48_4 : dOk d48_4 g48_4 l48_4 = true := by kernel_rfl
def g48_5 : List G := [⟨(some 29), .fa 2 6 (.t 1), none⟩,
  ⟨(some 30), .ld none (.t 29), none⟩,
  ⟨(some 31), .mv (.t 3), none⟩,
  ⟨(some 32), .is 7 (.t 30) (.t 31), none⟩,
  ⟨(some 33), .ld (some 7) (.t 32), none⟩,
  ⟨(some 4), .alloc (.agg [.int .i64 (0), .agg [.int .i64 (0), .int .i64 (0), .int .i64 (0), .int .i64 (0), .int .i64 (0), .int .i64 (0)]]), none⟩,
  ⟨none, .st (some 7) (.t 4) (.t 33), none⟩]
def d48_5 : Option (List (List Nat)) := none
def l48_5 : List Nat := []
theorem cd48_5 : dOk d48_5 g48_5 l48_5 = true := by kernel_rfl
def g48_6 : List G := [⟨(some 34), .fa 0 0 (.t 4), none⟩,
  ⟨(some 35), .ld none (.t 34), none⟩,
  ⟨(some 36), .call 94 [(.t 35), (.c (.int .i64 (1))), (.c (.int .i64 (99)))], none⟩,
  ⟨(some 37), .un .not (.t 36), none⟩,
  ⟨(some 38), .mv (.t 37), none⟩,
  ⟨(some 39), .fa 1 1 (.t 4), some (38, false)⟩,
  ⟨(some 40), .ld (some 6) (.t 39), some (38, false)⟩,
  ⟨(some 41), .call 42 [(.t 40)], some (38, false)⟩,
  ⟨(some 42), .bin .neq (.t 41) (.c (.int .i64 (0))), some (38, false)⟩,
  ⟨(some 43), .pick (.t 38) (.c (.bool true)) (.t 42), none⟩,
  ⟨(some 44), .mv (.t 43), none⟩,
  ⟨(some 45), .mv (.t 3), some (44, false)⟩,
  ⟨(some 46), .bin .gtr (.t 45) (.c (.int .i64 (0))), some (44, false)⟩,
  ⟨(some 47), .mv (.t 46), some (44, false)⟩,
  ⟨(some 48), .fa 2 6 (.t 1), some (47, true)⟩,
  ⟨(some 49), .ld none (.t 48), some (47, true)⟩,
  ⟨(some 50), .mv (.t 3), some (47, true)⟩,
  ⟨(some 51), .bin .sub (.t 50) (.c (.int .i64 (1))), some (47, true)⟩,
  ⟨(some 52), .is 7 (.t 49) (.t 51), some (47, true)⟩,
  ⟨(some 53), .fa 0 0 (.t 52), some (47, true)⟩,
  ⟨(some 54), .ld none (.t 53), some (47, true)⟩,
  ⟨(some 55), .fa 0 0 (.t 4), some (47, true)⟩,
  ⟨(some 56), .ld none (.t 55), some (47, true)⟩,
  ⟨(some 57), .bin .geq (.t 54) (.t 56), some (47, true)⟩,
  ⟨(some 58), .pick (.t 47) (.t 57) (.c (.bool false)), some (44, false)⟩,
  ⟨(some 59), .pick (.t 44) (.c (.bool true)) (.t 58), none⟩]
def d48_6 : Option (List (List Nat)) := (some [[], [0], [1], [2], [3, 2], [4], [5, 4], [6, 4, 4], [7, 4], [4, 8], [9, 7], [10], [11, 10], [12, 10, 10], [13], [14, 13], [13], [16, 13], [15, 17, 13], [18, 13], [19, 13], [13], [21, 13], [20, 22, 13], [13, 23, 10], [10, 24]])
def l48_6 : List Nat := [0, 1, 3, 7, 15, 31, 63, 127, 255, 511, 1023, 2047, 4095, 8191, 16383, 32767, 16383, 81919, 262143, 524287, 1048575, 16383, 2113535, 8388607, 16777215, 33554431]
theorem cd48_6 : dOk d48_6 g48_6 l48_6 = true := by kernel_rfl
def g48_7 : List G := [⟨(some 2), .mv (.c (.int .i64 (13))), none⟩]
def d48_7 : Option (List (List Nat)) := none
def l48_7 : List Nat := []
theorem cd48_7 : dOk d48_7 g48_7 l48_7 = true := by kernel_rfl
def g48_8 : List G := [⟨(some 5), .mv (.c (.int .i64 (0))), none⟩]
def d48_8 : Option (List (List Nat)) := none
def l48_8 : List Nat := []
theorem cd48_8 : dOk d48_8 g48_8 l48_8 = true := by kernel_rfl
def g48_9 : List G := [⟨(some 60), .mv (.t 5), none⟩,
  ⟨(some 61), .mv (.t 3), none⟩,
  ⟨(some 62), .bin .lss (.t 60) (.t 61), none⟩]
def d48_9 : Option (List (List Nat)) := none
def l48_9 : List Nat := []
theorem cd48_9 : dOk d48_9 g48_9 l48_9 = true := by kernel_rfl
def g48_10 : List G := [⟨(some 65), .fa 0 0 (.t 1), none⟩,
  ⟨(some 66), .ld (some 5) (.t 65), none⟩,
  ⟨(some 67), .fa 2 6 (.t 1), none⟩,
  ⟨(some 68), .ld none (.t 67), none⟩,
  ⟨(some 69), .mv (.t 5), none⟩,
  ⟨(some 70), .is 7 (.t 68) (.t 69), none⟩,
  ⟨(some 71), .fa 1 1 (.t 70), none⟩,
  ⟨(some 72), .ld (some 6) (.t 71), none⟩,
  ⟨(some 73), .fa 1 1 (.t 4), none⟩,
  ⟨(some 74), .ld (some 6) (.t 73), none⟩,
  ⟨(some 75), .call 99 [(.t 66), (.t 72), (.t 74)], none⟩,
  ⟨(some 76), .fa 1 5 (.t 1), none⟩,
  ⟨(some 77), .ld none (.t 76), none⟩,
  ⟨(some 78), .bin .mul (.c (.int .i64 (2))) (.t 77), none⟩,
  ⟨(some 79), .bin .leq (.t 75) (.t 78), none⟩]
def d48_10 : Option (List (List Nat)) := (some [[], [0], [], [2], [], [3, 4], [5], [6], [], [8], [1, 7, 9], [], [11], [12], [10, 13]])
def l48_10 : List Nat := [0, 1, 0, 4, 0, 28, 60, 124, 0, 256, 1023, 0, 2048, 6144, 16383]
theorem cd48_10 : dOk d48_10 g48_10 l48_10 = true := by kernel_rfl
def g48_11 : List G := [⟨(some 2), .mv (.c (.int .i64 (13))), none⟩]
def d48_11 : Option (List (List Nat)) := none
def l48_11 : List Nat := []
theorem cd48_11 : dOk d48_11 g48_11 l48_11 = true := by kernel_rfl
def g48_12 : List G := [⟨(some 63), .mv (.t 5), none⟩,
  ⟨(some 64), .bin .add (.t 63) (.c (.int .i64 (1))), none⟩,
  ⟨(some 5), .mv (.t 64), none⟩]
def d48_12 : Option (List (List Nat)) := none
def l48_12 : List Nat := []
theorem cd48_12 : dOk d48_12 g48_12 l48_12 = true := by kernel_rfl
def g48_13 : List G := [⟨(some 27), .mv (.t 3), none⟩,
  ⟨(some 28), .bin .add (.t 27) (.c (.int .i64 (1))), none⟩,
  ⟨(some 3), .mv (.t 28), none⟩]
def d48_13 : Option (List (List Nat)) := none
def l48_13 : List Nat := []
theorem cd48_13 : dOk d48_13 g48_13 l48_13 = true := by kernel_rfl
def g48_14 : List G := [⟨(some 2), .mv (.c (.int .i64 (0))), none⟩]
def d48_14 : Option (List (List Nat)) := none
def l48_14 : List Nat := []
theorem cd48_14 : dOk d48_14 g48_14 l48_14 = true := by kernel_rfl
def c48 : AC := (.seq (.reg d48_0 g48_0) (.seq (.seq (.reg d48_1 g48_1) (.cond (.t 21) (.seq (.reg d48_2 g48_2) .ret) .skip)) (.seq (.seq (.reg d48_3 g48_3) (.block 0 (.loop (.seq (.seq (.reg d48_4 g48_4) (.cond (.t 26) .skip (.exit 0))) (.seq (.block 1 (.seq (.reg d48_5 g48_5) (.seq (.seq (.reg d48_6 g48_6) (.cond (.t 59) (.seq (.reg d48_7 g48_7) .ret) .skip)) (.seq (.reg d48_8 g48_8) (.block 2 (.loop (.seq (.seq (.reg d48_9 g48_9) (.cond (.t 62) .skip (.exit 2))) (.seq (.block 3 (.seq (.reg d48_10 g48_10) (.cond (.t 79) (.seq (.reg d48_11 g48_11) .ret) .skip))) (.reg d48_12 g48_12))))))))) (.reg d48_13 g48_13)))))) (.seq (.reg d48_14 g48_14) .ret))))
def r48 : List RV := [.tmp 2]
theorem cc48 : (Try.f48.body.bind (cCode Try.prog Try.f48.ntmps)) = some c48 := by kernel_rfl
theorem cr48 : cRes Try.prog Try.f48.results.toList = some r48 := by kernel_rfl
theorem ca48 : callable Try.prog 48 = true := by kernel_rfl
-- 49 pinfold/pinfoldref01.Cost
def g49_0 : List G := [⟨(some 3), .box (.t 0), none⟩,
  ⟨(some 4), .box (.t 1), none⟩,
  ⟨(some 5), .box (.t 2), none⟩,
  ⟨(some 6), .mv (.c (.int .i64 (0))), none⟩,
  ⟨(some 7), .mv (.c (.int .i64 (0))), none⟩]
def d49_0 : Option (List (List Nat)) := none
def l49_0 : List Nat := []
theorem cd49_0 : dOk d49_0 g49_0 l49_0 = true := by kernel_rfl
def g49_1 : List G := [⟨(some 9), .ld (some 5) (.t 3), none⟩,
  ⟨(some 10), .call 44 [(.t 9)], none⟩,
  ⟨(some 11), .bin .neq (.t 10) (.c (.int .i64 (0))), none⟩]
def d49_1 : Option (List (List Nat)) := none
def l49_1 : List Nat := []
theorem cd49_1 : dOk d49_1 g49_1 l49_1 = true := by kernel_rfl
def g49_2 : List G := [⟨(some 6), .mv (.c (.int .i64 (0))), none⟩,
  ⟨(some 7), .mv (.c (.int .i64 (11))), none⟩]
def d49_2 : Option (List (List Nat)) := none
def l49_2 : List Nat := []
theorem cd49_2 : dOk d49_2 g49_2 l49_2 = true := by kernel_rfl
def g49_3 : List G := [⟨(some 12), .ld (some 6) (.t 4), none⟩,
  ⟨(some 13), .call 42 [(.t 12)], none⟩,
  ⟨(some 14), .bin .neq (.t 13) (.c (.int .i64 (0))), none⟩]
def d49_3 : Option (List (List Nat)) := none
def l49_3 : List Nat := []
theorem cd49_3 : dOk d49_3 g49_3 l49_3 = true := by kernel_rfl
def g49_4 : List G := [⟨(some 6), .mv (.c (.int .i64 (0))), none⟩,
  ⟨(some 7), .mv (.c (.int .i64 (10))), none⟩]
def d49_4 : Option (List (List Nat)) := none
def l49_4 : List Nat := []
theorem cd49_4 : dOk d49_4 g49_4 l49_4 = true := by kernel_rfl
def g49_5 : List G := [⟨(some 15), .ld (some 6) (.t 5), none⟩,
  ⟨(some 16), .call 46 [(.t 15)], none⟩,
  ⟨(some 17), .bin .neq (.t 16) (.c (.int .i64 (0))), none⟩]
def d49_5 : Option (List (List Nat)) := none
def l49_5 : List Nat := []
theorem cd49_5 : dOk d49_5 g49_5 l49_5 = true := by kernel_rfl
def g49_6 : List G := [⟨(some 6), .mv (.c (.int .i64 (0))), none⟩,
  ⟨(some 7), .mv (.c (.int .i64 (12))), none⟩]
def d49_6 : Option (List (List Nat)) := none
def l49_6 : List Nat := []
theorem cd49_6 : dOk d49_6 g49_6 l49_6 = true := by kernel_rfl
def g49_7 : List G := [⟨(some 18), .ld (some 5) (.t 3), none⟩,
  ⟨(some 19), .ld (some 6) (.t 4), none⟩,
  ⟨(some 20), .ld (some 6) (.t 5), none⟩,
  ⟨(some 21), .call 86 [(.t 18), (.t 19), (.t 20)], none⟩,
  ⟨(some 8), .mv (.t 21), none⟩]
def d49_7 : Option (List (List Nat)) := none
def l49_7 : List Nat := []
theorem cd49_7 : dOk d49_7 g49_7 l49_7 = true := by kernel_rfl
def g49_8 : List G := [⟨(some 22), .mv (.t 8), none⟩,
  ⟨(some 6), .mv (.t 22), none⟩,
  ⟨(some 7), .mv (.c (.int .i64 (0))), none⟩]
def d49_8 : Option (List (List Nat)) := none
def l49_8 : List Nat := []
theorem cd49_8 : dOk d49_8 g49_8 l49_8 = true := by kernel_rfl
def c49 : AC := (.seq (.reg d49_0 g49_0) (.seq (.seq (.reg d49_1 g49_1) (.cond (.t 11) (.seq (.reg d49_2 g49_2) .ret) .skip)) (.seq (.seq (.reg d49_3 g49_3) (.cond (.t 14) (.seq (.reg d49_4 g49_4) .ret) .skip)) (.seq (.seq (.reg d49_5 g49_5) (.cond (.t 17) (.seq (.reg d49_6 g49_6) .ret) .skip)) (.seq (.reg d49_7 g49_7) (.seq (.reg d49_8 g49_8) .ret))))))
def r49 : List RV := [.tmp 6, .tmp 7]
theorem cc49 : (Try.f49.body.bind (cCode Try.prog Try.f49.ntmps)) = some c49 := by kernel_rfl
theorem cr49 : cRes Try.prog Try.f49.results.toList = some r49 := by kernel_rfl
theorem ca49 : callable Try.prog 49 = true := by kernel_rfl
-- 50 pinfold/pinfoldref01.Distance
def g50_0 : List G := [⟨(some 3), .box (.t 0), none⟩,
  ⟨(some 4), .box (.t 1), none⟩,
  ⟨(some 5), .box (.t 2), none⟩,
  ⟨(some 6), .mv (.c (.int .i64 (0))), none⟩,
  ⟨(some 7), .mv (.c (.int .i64 (0))), none⟩]
def d50_0 : Option (List (List Nat)) := none
def l50_0 : List Nat := []
theorem cd50_0 : dOk d50_0 g50_0 l50_0 = true := by kernel_rfl
def g50_1 : List G := [⟨(some 9), .ld (some 5) (.t 3), none⟩,
  ⟨(some 10), .call 44 [(.t 9)], none⟩,
  ⟨(some 11), .bin .neq (.t 10) (.c (.int .i64 (0))), none⟩]
def d50_1 : Option (List (List Nat)) := none
def l50_1 : List Nat := []
theorem cd50_1 : dOk d50_1 g50_1 l50_1 = true := by kernel_rfl
def g50_2 : List G := [⟨(some 6), .mv (.c (.int .i64 (0))), none⟩,
  ⟨(some 7), .mv (.c (.int .i64 (11))), none⟩]
def d50_2 : Option (List (List Nat)) := none
def l50_2 : List Nat := []
theorem cd50_2 : dOk d50_2 g50_2 l50_2 = true := by kernel_rfl
def g50_3 : List G := [⟨(some 12), .ld (some 6) (.t 4), none⟩,
  ⟨(some 13), .call 42 [(.t 12)], none⟩,
  ⟨(some 14), .bin .neq (.t 13) (.c (.int .i64 (0))), none⟩,
  ⟨(some 15), .mv (.t 14), none⟩,
  ⟨(some 16), .ld (some 6) (.t 5), some (15, false)⟩,
  ⟨(some 17), .call 42 [(.t 16)], some (15, false)⟩,
  ⟨(some 18), .bin .neq (.t 17) (.c (.int .i64 (0))), some (15, false)⟩,
  ⟨(some 19), .pick (.t 15) (.c (.bool true)) (.t 18), none⟩]
def d50_3 : Option (List (List Nat)) := none
def l50_3 : List Nat := []
theorem cd50_3 : dOk d50_3 g50_3 l50_3 = true := by kernel_rfl
def g50_4 : List G := [⟨(some 6), .mv (.c (.int .i64 (0))), none⟩,
  ⟨(some 7), .mv (.c (.int .i64 (10))), none⟩]
def d50_4 : Option (List (List Nat)) := none
def l50_4 : List Nat := []
theorem cd50_4 : dOk d50_4 g50_4 l50_4 = true := by kernel_rfl
def g50_5 : List G := [⟨(some 20), .ld (some 5) (.t 3), none⟩,
  ⟨(some 21), .ld (some 6) (.t 4), none⟩,
  ⟨(some 22), .ld (some 6) (.t 5), none⟩,
  ⟨(some 23), .call 99 [(.t 20), (.t 21), (.t 22)], none⟩,
  ⟨(some 8), .mv (.t 23), none⟩]
def d50_5 : Option (List (List Nat)) := none
def l50_5 : List Nat := []
theorem cd50_5 : dOk d50_5 g50_5 l50_5 = true := by kernel_rfl
def g50_6 : List G := [⟨(some 24), .mv (.t 8), none⟩,
  ⟨(some 6), .mv (.t 24), none⟩,
  ⟨(some 7), .mv (.c (.int .i64 (0))), none⟩]
def d50_6 : Option (List (List Nat)) := none
def l50_6 : List Nat := []
theorem cd50_6 : dOk d50_6 g50_6 l50_6 = true := by kernel_rfl
def c50 : AC := (.seq (.reg d50_0 g50_0) (.seq (.seq (.reg d50_1 g50_1) (.cond (.t 11) (.seq (.reg d50_2 g50_2) .ret) .skip)) (.seq (.seq (.reg d50_3 g50_3) (.cond (.t 19) (.seq (.reg d50_4 g50_4) .ret) .skip)) (.seq (.reg d50_5 g50_5) (.seq (.reg d50_6 g50_6) .ret)))))
def r50 : List RV := [.tmp 6, .tmp 7]
theorem cc50 : (Try.f50.body.bind (cCode Try.prog Try.f50.ntmps)) = some c50 := by kernel_rfl
theorem cr50 : cRes Try.prog Try.f50.results.toList = some r50 := by kernel_rfl
theorem ca50 : callable Try.prog 50 = true := by kernel_rfl
-- 51 pinfold/mark.Possible
def g51_0 : List G := [⟨(some 3), .box (.t 0), none⟩,
  ⟨(some 4), .box (.t 1), none⟩,
  ⟨(some 5), .box (.t 2), none⟩,
  ⟨(some 6), .mv (.c (.bool false)), none⟩,
  ⟨(some 7), .mv (.c (.int .i64 (0))), none⟩]
def d51_0 : Option (List (List Nat)) := none
def l51_0 : List Nat := []
theorem cd51_0 : dOk d51_0 g51_0 l51_0 = true := by kernel_rfl
def g51_1 : List G := [⟨(some 9), .ld (some 7) (.t 3), none⟩,
  ⟨(some 10), .call 47 [(.t 9)], none⟩,
  ⟨(some 11), .ld (some 6) (.t 4), none⟩,
  ⟨(some 12), .call 41 [(.t 11)], none⟩,
  ⟨(some 13), .ld (some 6) (.t 5), none⟩,
  ⟨(some 14), .call 45 [(.t 13)], none⟩,
  ⟨(some 15), .bs 1 [(.t 10), (.t 12), (.t 14)], none⟩,
  ⟨(some 16), .call 64 [(.t 15)], none⟩,
  ⟨(some 8), .mv (.t 16), none⟩]
def d51_1 : Option (List (List Nat)) := (some [[], [0], [], [2, 1], [], [4, 3], [1, 3, 5], [6, 5], [7, 7, 0, 1, 2, 3, 4, 5, 6, 7]])
def l51_1 : List Nat := [0, 1, 0, 7, 0, 31, 63, 127, 255]
theorem cd51_1 : dOk d51_1 g51_1 l51_1 = true := by kernel_rfl
def g51_2 : List G := [⟨(some 17), .mv (.t 8), none⟩,
  ⟨(some 18), .bin .neq (.t 17) (.c (.int .i64 (0))), none⟩]
def d51_2 : Option (List (List Nat)) := none
def l51_2 : List Nat := []
theorem cd51_2 : dOk d51_2 g51_2 l51_2 = true := by kernel_rfl
def g51_3 : List G := [⟨(some 19), .mv (.t 8), none⟩,
  ⟨(some 6), .mv (.c (.bool false)), none⟩,
  ⟨(some 7), .mv (.t 19), none⟩]
def d51_3 : Option (List (List Nat)) := none
def l51_3 : List Nat := []
theorem cd51_3 : dOk d51_3 g51_3 l51_3 = true := by kernel_rfl
def g51_4 : List G := [⟨(some 20), .fa 0 0 (.t 3), none⟩,
  ⟨(some 21), .ld (some 5) (.t 20), none⟩,
  ⟨(some 22), .ld (some 6) (.t 4), none⟩,
  ⟨(some 23), .ld (some 6) (.t 5), none⟩,
  ⟨(some 24), .call 88 [(.t 21), (.t 22), (.t 23)], none⟩,
  ⟨(some 25), .fa 1 5 (.t 3), none⟩,
  ⟨(some 26), .ld none (.t 25), none⟩,
  ⟨(some 27), .bin .leq (.t 24) (.t 26), none⟩,
  ⟨(some 6), .mv (.t 27), none⟩,
  ⟨(some 7), .mv (.c (.int .i64 (0))), none⟩]
def d51_4 : Option (List (List Nat)) := (some [[], [0], [], [], [1, 2, 3], [], [5], [4, 6], [7, 4, 0, 1, 2, 3, 4, 5, 6, 7], [8, 0, 1, 2, 3, 4, 5, 6, 7, 8]])
def l51_4 : List Nat := [0, 1, 0, 0, 15, 0, 32, 127, 255, 511]
theorem cd51_4 : dOk d51_4 g51_4 l51_4 = true := by kernel_rfl
def c51 : AC := (.seq (.reg d51_0 g51_0) (.seq (.seq (.reg d51_1 g51_1) (.seq (.reg d51_2 g51_2) (.cond (.t 18) (.seq (.reg d51_3 g51_3) .ret) .skip))) (.seq (.reg d51_4 g51_4) .ret)))
def r51 : List RV := [.tmp 6, .tmp 7]
theorem cc51 : (Try.f51.body.bind (cCode Try.prog Try.f51.ntmps)) = some c51 := by kernel_rfl
theorem cr51 : cRes Try.prog Try.f51.results.toList = some r51 := by kernel_rfl
theorem ca51 : callable Try.prog 51 = true := by kernel_rfl
-- 52 pinfold/pinfoldref01.Possible
def g52_0 : List G := [⟨(some 3), .box (.t 0), none⟩,
  ⟨(some 4), .box (.t 1), none⟩,
  ⟨(some 5), .box (.t 2), none⟩,
  ⟨(some 6), .mv (.c (.bool false)), none⟩,
  ⟨(some 7), .mv (.c (.int .i64 (0))), none⟩]
def d52_0 : Option (List (List Nat)) := none
def l52_0 : List Nat := []
theorem cd52_0 : dOk d52_0 g52_0 l52_0 = true := by kernel_rfl
def g52_1 : List G := [⟨(some 8), .ld (some 7) (.t 3), none⟩,
  ⟨(some 9), .call 48 [(.t 8)], none⟩,
  ⟨(some 10), .bin .neq (.t 9) (.c (.int .i64 (0))), none⟩]
def d52_1 : Option (List (List Nat)) := none
def l52_1 : List Nat := []
theorem cd52_1 : dOk d52_1 g52_1 l52_1 = true := by kernel_rfl
def g52_2 : List G := [⟨(some 6), .mv (.c (.bool false)), none⟩,
  ⟨(some 7), .mv (.c (.int .i64 (13))), none⟩]
def d52_2 : Option (List (List Nat)) := none
def l52_2 : List Nat := []
theorem cd52_2 : dOk d52_2 g52_2 l52_2 = true := by kernel_rfl
def g52_3 : List G := [⟨(some 11), .ld (some 6) (.t 4), none⟩,
  ⟨(some 12), .call 42 [(.t 11)], none⟩,
  ⟨(some 13), .bin .neq (.t 12) (.c (.int .i64 (0))), none⟩]
def d52_3 : Option (List (List Nat)) := none
def l52_3 : List Nat := []
theorem cd52_3 : dOk d52_3 g52_3 l52_3 = true := by kernel_rfl
def g52_4 : List G := [⟨(some 6), .mv (.c (.bool false)), none⟩,
  ⟨(some 7), .mv (.c (.int .i64 (10))), none⟩]
def d52_4 : Option (List (List Nat)) := none
def l52_4 : List Nat := []
theorem cd52_4 : dOk d52_4 g52_4 l52_4 = true := by kernel_rfl
def g52_5 : List G := [⟨(some 14), .ld (some 6) (.t 5), none⟩,
  ⟨(some 15), .call 46 [(.t 14)], none⟩,
  ⟨(some 16), .bin .neq (.t 15) (.c (.int .i64 (0))), none⟩]
def d52_5 : Option (List (List Nat)) := none
def l52_5 : List Nat := []
theorem cd52_5 : dOk d52_5 g52_5 l52_5 = true := by kernel_rfl
def g52_6 : List G := [⟨(some 6), .mv (.c (.bool false)), none⟩,
  ⟨(some 7), .mv (.c (.int .i64 (12))), none⟩]
def d52_6 : Option (List (List Nat)) := none
def l52_6 : List Nat := []
theorem cd52_6 : dOk d52_6 g52_6 l52_6 = true := by kernel_rfl
def g52_7 : List G := [⟨(some 17), .fa 0 0 (.t 3), none⟩,
  ⟨(some 18), .ld (some 5) (.t 17), none⟩,
  ⟨(some 19), .ld (some 6) (.t 4), none⟩,
  ⟨(some 20), .ld (some 6) (.t 5), none⟩,
  ⟨(some 21), .call 86 [(.t 18), (.t 19), (.t 20)], none⟩,
  ⟨(some 22), .fa 1 5 (.t 3), none⟩,
  ⟨(some 23), .ld none (.t 22), none⟩,
  ⟨(some 24), .bin .leq (.t 21) (.t 23), none⟩,
  ⟨(some 6), .mv (.t 24), none⟩,
  ⟨(some 7), .mv (.c (.int .i64 (0))), none⟩]
def d52_7 : Option (List (List Nat)) := (some [[], [0], [], [], [1, 2, 3], [], [5], [4, 6], [7, 4, 0, 1, 2, 3, 4, 5, 6, 7], [8, 0, 1, 2, 3, 4, 5, 6, 7, 8]])
def l52_7 : List Nat := [0, 1, 0, 0, 15, 0, 32, 127, 255, 511]
theorem cd52_7 : dOk d52_7 g52_7 l52_7 = true := by kernel_rfl
def c52 : AC := (.seq (.reg d52_0 g52_0) (.seq (.seq (.reg d52_1 g52_1) (.cond (.t 10) (.seq (.reg d52_2 g52_2) .ret) .skip)) (.seq (.seq (.reg d52_3 g52_3) (.cond (.t 13) (.seq (.reg d52_4 g52_4) .ret) .skip)) (.seq (.seq (.reg d52_5 g52_5) (.cond (.t 16) (.seq (.reg d52_6 g52_6) .ret) .skip)) (.seq (.reg d52_7 g52_7) .ret)))))
def r52 : List RV := [.tmp 6, .tmp 7]
theorem cc52 : (Try.f52.body.bind (cCode Try.prog Try.f52.ntmps)) = some c52 := by kernel_rfl
theorem cr52 : cRes Try.prog Try.f52.results.toList = some r52 := by kernel_rfl
theorem ca52 : callable Try.prog 52 = true := by kernel_rfl
-- 53 pinfold/pinfoldref01.MeetError
def g53_0 : List G := [⟨(some 3), .box (.t 0), none⟩,
  ⟨(some 5), .box (.t 2), none⟩,
  ⟨(some 6), .mv (.c (.int .i64 (0))), none⟩]
def d53_0 : Option (List (List Nat)) := none
def l53_0 : List Nat := []
theorem cd53_0 : dOk d53_0 g53_0 l53_0 = true := by kernel_rfl
def g53_1 : List G := [⟨(some 10), .ld (some 5) (.t 3), none⟩,
  ⟨(some 11), .fa 0 0 (.t 5), none⟩,
  ⟨(some 12), .ld (some 6) (.t 11), none⟩,
  ⟨(some 13), .fa 1 6 (.t 5), none⟩,
  ⟨(some 14), .ld (some 6) (.t 13), none⟩,
  ⟨(some 15), .call 50 [(.t 10), (.t 12), (.t 14)], none⟩,
  ⟨(some 9), .mv (.t 15), none⟩,
  ⟨(some 16), .ext (.t 9) 0, none⟩,
  ⟨(some 17), .ext (.t 9) 1, none⟩,
  ⟨(some 7), .mv (.t 16), none⟩,
  ⟨(some 8), .mv (.t 17), none⟩]
def d53_1 : Option (List (List Nat)) := none
def l53_1 : List Nat := []
theorem cd53_1 : dOk d53_1 g53_1 l53_1 = true := by kernel_rfl
def g53_2 : List G := [⟨(some 18), .mv (.t 8), none⟩,
  ⟨(some 19), .bin .neq (.t 18) (.c (.int .i64 (0))), none⟩]
def d53_2 : Option (List (List Nat)) := none
def l53_2 : List Nat := []
theorem cd53_2 : dOk d53_2 g53_2 l53_2 = true := by kernel_rfl
def g53_3 : List G := [⟨(some 20), .mv (.t 8), none⟩,
  ⟨(some 6), .mv (.t 20), none⟩]
def d53_3 : Option (List (List Nat)) := none
def l53_3 : List Nat := []
theorem cd53_3 : dOk d53_3 g53_3 l53_3 = true := by kernel_rfl
def g53_4 : List G := [⟨(some 21), .mv (.t 1), none⟩,
  ⟨(some 22), .call 94 [(.t 21), (.c (.int .i64 (0))), (.c (.int .i64 (2)))], none⟩,
  ⟨(some 23), .un .not (.t 22), none⟩]
def d53_4 : Option (List (List Nat)) := none
def l53_4 : List Nat := []
theorem cd53_4 : dOk d53_4 g53_4 l53_4 = true := by kernel_rfl
def g53_5 : List G := [⟨(some 6), .mv (.c (.int .i64 (1))), none⟩]
def d53_5 : Option (List (List Nat)) := none
def l53_5 : List Nat := []
theorem cd53_5 : dOk d53_5 g53_5 l53_5 = true := by kernel_rfl
def g53_6 : List G := [⟨(some 24), .mv (.t 7), none⟩,
  ⟨(some 25), .mv (.t 1), none⟩,
  ⟨(some 26), .bin .mul (.c (.int .i64 (2))) (.t 25), none⟩,
  ⟨(some 27), .bin .gtr (.t 24) (.t 26), none⟩]
def d53_6 : Option (List (List Nat)) := none
def l53_6 : List Nat := []
theorem cd53_6 : dOk d53_6 g53_6 l53_6 = true := by kernel_rfl
def g53_7 : List G := [⟨(some 6), .mv (.c (.int .i64 (14))), none⟩]
def d53_7 : Option (List (List Nat)) := none
def l53_7 : List Nat := []
theorem cd53_7 : dOk d53_7 g53_7 l53_7 = true := by kernel_rfl
def g53_8 : List G := [⟨(some 6), .mv (.c (.int .i64 (0))), none⟩]
def d53_8 : Option (List (List Nat)) := none
def l53_8 : List Nat := []
theorem cd53_8 : dOk d53_8 g53_8 l53_8 = true := by kernel_rfl
def c53 : AC := (.seq (.reg d53_0 g53_0) (.seq (.reg d53_1 g53_1) (.seq (.seq (.reg d53_2 g53_2) (.cond (.t 19) (.seq (.reg d53_3 g53_3) .ret) .skip)) (.seq (.seq (.reg d53_4 g53_4) (.cond (.t 23) (.seq (.reg d53_5 g53_5) .ret) .skip)) (.seq (.seq (.reg d53_6 g53_6) (.cond (.t 27) (.seq (.reg d53_7 g53_7) .ret) .skip)) (.seq (.reg d53_8 g53_8) .ret))))))
def r53 : List RV := [.tmp 6]
theorem cc53 : (Try.f53.body.bind (cCode Try.prog Try.f53.ntmps)) = some c53 := by kernel_rfl
theorem cr53 : cRes Try.prog Try.f53.results.toList = some r53 := by kernel_rfl
theorem ca53 : callable Try.prog 53 = true := by kernel_rfl
-- 54 pinfold/pinfoldref01.Meets
def g54_0 : List G := [⟨(some 4), .box (.t 0), none⟩,
  ⟨(some 6), .box (.t 2), none⟩,
  ⟨(some 7), .box (.t 3), none⟩,
  ⟨(some 8), .mv (.c (.bool false)), none⟩]
def d54_0 : Option (List (List Nat)) := none
def l54_0 : List Nat := []
theorem cd54_0 : dOk d54_0 g54_0 l54_0 = true := by kernel_rfl
def g54_1 : List G := [⟨(some 9), .ld (some 6) (.t 7), none⟩,
  ⟨(some 10), .call 46 [(.t 9)], none⟩,
  ⟨(some 11), .bin .eql (.t 10) (.c (.int .i64 (0))), none⟩,
  ⟨(some 12), .mv (.t 11), none⟩,
  ⟨(some 13), .ld (some 6) (.t 7), some (12, true)⟩,
  ⟨(some 14), .call 100 [(.t 13)], some (12, true)⟩,
  ⟨(some 15), .pick (.t 12) (.t 14) (.c (.bool false)), none⟩,
  ⟨(some 16), .mv (.t 15), none⟩,
  ⟨(some 17), .ld (some 5) (.t 4), some (16, true)⟩,
  ⟨(some 18), .fa 0 0 (.t 6), some (16, true)⟩,
  ⟨(some 19), .ld (some 6) (.t 18), some (16, true)⟩,
  ⟨(some 20), .ld (some 6) (.t 7), some (16, true)⟩,
  ⟨(some 21), .call 86 [(.t 17), (.t 19), (.t 20)], some (16, true)⟩,
  ⟨(some 22), .mv (.t 1), some (16, true)⟩,
  ⟨(some 23), .bin .leq (.t 21) (.t 22), some (16, true)⟩,
  ⟨(some 24), .pick (.t 16) (.t 23) (.c (.bool false)), none⟩,
  ⟨(some 25), .mv (.t 24), none⟩,
  ⟨(some 26), .ld (some 5) (.t 4), some (25, true)⟩,
  ⟨(some 27), .fa 1 6 (.t 6), some (25, true)⟩,
  ⟨(some 28), .ld (some 6) (.t 27), some (25, true)⟩,
  ⟨(some 29), .ld (some 6) (.t 7), some (25, true)⟩,
  ⟨(some 30), .call 86 [(.t 26), (.t 28), (.t 29)], some (25, true)⟩,
  ⟨(some 31), .mv (.t 1), some (25, true)⟩,
  ⟨(some 32), .bin .leq (.t 30) (.t 31), some (25, true)⟩,
  ⟨(some 33), .pick (.t 25) (.t 32) (.c (.bool false)), none⟩,
  ⟨(some 8), .mv (.t 33), none⟩]
def d54_1 : Option (List (List Nat)) := none
def l54_1 : List Nat := []
theorem cd54_1 : dOk d54_1 g54_1 l54_1 = true := by kernel_rfl
def c54 : AC := (.seq (.reg d54_0 g54_0) (.seq (.reg d54_1 g54_1) .ret))
def r54 : List RV := [.tmp 8]
theorem cc54 : (Try.f54.body.bind (cCode Try.prog Try.f54.ntmps)) = some c54 := by kernel_rfl
theorem cr54 : cRes Try.prog Try.f54.results.toList = some r54 := by kernel_rfl
theorem ca54 : callable Try.prog 54 = true := by kernel_rfl
-- 55 pinfold/mark.Next
def g55_0 : List G := [⟨(some 1), .box (.t 0), none⟩,
  ⟨(some 2), .alloc (.agg [.int .i64 (0), .int .i64 (0), .int .i64 (0), .int .i64 (0), .int .i64 (0), .int .i64 (0)]), none⟩,
  ⟨(some 3), .alloc (.int .i64 (0)), none⟩]
def d55_0 : Option (List (List Nat)) := none
def l55_0 : List Nat := []
theorem cd55_0 : dOk d55_0 g55_0 l55_0 = true := by kernel_rfl
def g55_1 : List G := [⟨(some 8), .ld (some 7) (.t 1), none⟩,
  ⟨(some 9), .call 47 [(.t 8)], none⟩,
  ⟨(some 4), .mv (.t 9), none⟩]
def d55_1 : Option (List (List Nat)) := none
def l55_1 : List Nat := []
theorem cd55_1 : dOk d55_1 g55_1 l55_1 = true := by kernel_rfl
def g55_2 : List G := [⟨(some 10), .mv (.t 4), none⟩,
  ⟨(some 11), .bin .neq (.t 10) (.c (.int .i64 (0))), none⟩]
def d55_2 : Option (List (List Nat)) := none
def l55_2 : List Nat := []
theorem cd55_2 : dOk d55_2 g55_2 l55_2 = true := by kernel_rfl
def g55_3 : List G := [⟨(some 12), .bld [.int .i64 (0), .int .i64 (0), .int .i64 (0), .int .i64 (0), .int .i64 (0), .int .i64 (0)] [], none⟩,
  ⟨(some 13), .mv (.t 4), none⟩,
  ⟨none, .st (some 6) (.t 2) (.t 12), none⟩,
  ⟨none, .st none (.t 3) (.t 13), none⟩]
def d55_3 : Option (List (List Nat)) := none
def l55_3 : List Nat := []
theorem cd55_3 : dOk d55_3 g55_3 l55_3 = true := by kernel_rfl
def g55_4 : List G := [⟨(some 14), .fa 2 6 (.t 1), none⟩,
  ⟨(some 15), .ld none (.t 14), none⟩,
  ⟨(some 16), .len (.t 15), none⟩,
  ⟨(some 17), .bin .eql (.t 16) (.c (.int .i64 (40))), none⟩]
def d55_4 : Option (List (List Nat)) := none
def l55_4 : List Nat := []
theorem cd55_4 : dOk d55_4 g55_4 l55_4 = true := by kernel_rfl
def g55_5 : List G := [⟨(some 18), .bld [.int .i64 (0), .int .i64 (0), .int .i64 (0), .int .i64 (0), .int .i64 (0), .int .i64 (0)] [], none⟩,
  ⟨none, .st (some 6) (.t 2) (.t 18), none⟩,
  ⟨none, .st none (.t 3) (.c (.int .i64 (16))), none⟩]
def d55_5 : Option (List (List Nat)) := none
def l55_5 : List Nat := []
theorem cd55_5 : dOk d55_5 g55_5 l55_5 = true := by kernel_rfl
def g55_6 : List G := [⟨(some 19), .call 101 [], none⟩]
def d55_6 : Option (List (List Nat)) := none
def l55_6 : List Nat := []
theorem cd55_6 : dOk d55_6 g55_6 l55_6 = true := by kernel_rfl
def g55_7 : List G := [⟨(some 5), .alloc (.agg [.int .i64 (0), .int .i64 (0), .int .i64 (0), .int .i64 (0), .int .i64 (0), .int .i64 (0)]), none⟩,
  ⟨none, .st (some 6) (.t 5) (.t 20), none⟩]
def d55_7 : Option (List (List Nat)) := none
def l55_7 : List Nat := []
theorem cd55_7 : dOk d55_7 g55_7 l55_7 = true := by kernel_rfl
def g55_8 : List G := [⟨(some 21), .fa 2 6 (.t 1), none⟩,
  ⟨(some 22), .ld none (.t 21), none⟩,
  ⟨(some 23), .len (.t 22), none⟩,
  ⟨(some 24), .mv (.c (.int .i64 (0))), none⟩]
def d55_8 : Option (List (List Nat)) := none
def l55_8 : List Nat := []
theorem cd55_8 : dOk d55_8 g55_8 l55_8 = true := by kernel_rfl
def g55_9 : List G := [⟨(some 25), .bin .lss (.t 24) (.t 23), none⟩]
def d55_9 : Option (List (List Nat)) := none
def l55_9 : List Nat := []
theorem cd55_9 : dOk d55_9 g55_9 l55_9 = true := by kernel_rfl
def g55_10 : List G := [⟨(some 26), .is 7 (.t 22) (.t 24), none⟩,
  ⟨(some 27), .ld (some 7) (.t 26), none⟩,
  ⟨(some 7), .alloc (.agg [.int .i64 (0), .agg [.int .i64 (0), .int .i64 (0), .int .i64 (0), .int .i64 (0), .int .i64 (0), .int .i64 (0)]]), none⟩,
  ⟨none, .st (some 7) (.t 7) (.t 27), none⟩]
def d55_10 : Option (List (List Nat)) := none
def l55_10 : List Nat := []
theorem cd55_10 : dOk d55_10 g55_10 l55_10 = true := by kernel_rfl
def g55_11 : List G := [⟨(some 28), .fa 0 0 (.t 1), none⟩,
  ⟨(some 29), .ld (some 5) (.t 28), none⟩,
  ⟨(some 30), .fa 1 1 (.t 7), none⟩,
  ⟨(some 31), .ld (some 6) (.t 30), none⟩,
  ⟨(some 32), .ld (some 6) (.t 5), none⟩,
  ⟨(some 33), .call 87 [(.t 29), (.t 31), (.t 32)], none⟩,
  ⟨(some 34), .fa 1 5 (.t 1), none⟩,
  ⟨(some 35), .ld none (.t 34), none⟩,
  ⟨(some 36), .bin .mul (.c (.int .i64 (2))) (.t 35), none⟩,
  ⟨(some 37), .bin .leq (.t 33) (.t 36), none⟩]
def d55_11 : Option (List (List Nat)) := (some [[], [0], [], [2], [], [1, 3, 4], [], [6], [7], [5, 8]])
def l55_11 : List Nat := [0, 1, 0, 4, 0, 31, 0, 64, 192, 511]
theorem cd55_11 : dOk d55_11 g55_11 l55_11 = true := by kernel_rfl
def g55_12 : List G := [⟨(some 38), .bin .add (.t 24) (.c (.int .i64 (1))), none⟩,
  ⟨(some 24), .mv (.t 38), none⟩]
def d55_12 : Option (List (List Nat)) := none
def l55_12 : List Nat := []
theorem cd55_12 : dOk d55_12 g55_12 l55_12 = true := by kernel_rfl
def g55_13 : List G := [⟨(some 39), .ld (some 6) (.t 5), none⟩,
  ⟨none, .st (some 6) (.t 2) (.t 39), none⟩,
  ⟨none, .st none (.t 3) (.c (.int .i64 (0))), none⟩]
def d55_13 : Option (List (List Nat)) := none
def l55_13 : List Nat := []
theorem cd55_13 : dOk d55_13 g55_13 l55_13 = true := by kernel_rfl
def g55_14 : List G := [⟨(some 40), .bld [.int .i64 (0), .int .i64 (0), .int .i64 (0), .int .i64 (0), .int .i64 (0), .int .i64 (0)] [], none⟩,
  ⟨none, .st (some 6) (.t 2) (.t 40), none⟩,
  ⟨none, .st none (.t 3) (.c (.int .i64 (16))), none⟩]
def d55_14 : Option (List (List Nat)) := none
def l55_14 : List Nat := []
theorem cd55_14 : dOk d55_14 g55_14 l55_14 = true := by kernel_rfl
def c55 : AC := (.seq (.reg d55_0 g55_0) (.scope (.seq (.seq (.reg d55_1 g55_1) (.seq (.reg d55_2 g55_2) (.cond (.t 11) (.seq (.reg d55_3 g55_3) .ret) .skip))) (.seq (.seq (.reg d55_4 g55_4) (.cond (.t 17) (.seq (.reg d55_5 g55_5) .ret) .skip)) (.seq .label (.seq (.seq (.reg d55_6 g55_6) (.block 0 (.rfun (.t 19) [20] (.reg d55_7 g55_7) (.block 1 (.seq (.seq (.reg d55_8 g55_8) (.block 2 (.loop (.seq (.reg d55_9 g55_9) (.seq (.cond (.t 25) .skip (.exit 2)) (.seq (.block 3 (.seq (.reg d55_10 g55_10) (.seq (.reg d55_11 g55_11) (.cond (.t 37) (.exit 1) .skip)))) (.reg d55_12 g55_12))))))) (.seq (.reg d55_13 g55_13) .ret)))))) (.seq (.reg d55_14 g55_14) .ret)))))))
def r55 : List RV := [.cell 2 (some 6), .cell 3 none]
theorem cc55 : (Try.f55.body.bind (cCode Try.prog Try.f55.ntmps)) = some c55 := by kernel_rfl
theorem cr55 : cRes Try.prog Try.f55.results.toList = some r55 := by kernel_rfl
theorem ca55 : callable Try.prog 55 = true := by kernel_rfl
-- 63 pinfold/pinfoldref01.SameMarks
def g63_0 : List G := [⟨(some 2), .box (.t 0), none⟩,
  ⟨(some 3), .box (.t 1), none⟩,
  ⟨(some 4), .mv (.c (.bool false)), none⟩]
def d63_0 : Option (List (List Nat)) := none
def l63_0 : List Nat := []
theorem cd63_0 : dOk d63_0 g63_0 l63_0 = true := by kernel_rfl
def g63_1 : List G := [⟨(some 6), .fa 0 0 (.t 2), none⟩,
  ⟨(some 7), .ld (some 5) (.t 6), none⟩,
  ⟨(some 8), .fa 0 0 (.t 3), none⟩,
  ⟨(some 9), .ld (some 5) (.t 8), none⟩,
  ⟨(some 10), .eqv (.ar 5 (.i .i64)) true (.t 7) (.t 9), none⟩,
  ⟨(some 11), .mv (.t 10), none⟩,
  ⟨(some 12), .fa 1 5 (.t 2), some (11, false)⟩,
  ⟨(some 13), .ld none (.t 12), some (11, false)⟩,
  ⟨(some 14), .fa 1 5 (.t 3), some (11, false)⟩,
  ⟨(some 15), .ld none (.t 14), some (11, false)⟩,
  ⟨(some 16), .bin .neq (.t 13) (.t 15), some (11, false)⟩,
  ⟨(some 17), .pick (.t 11) (.c (.bool true)) (.t 16), none⟩,
  ⟨(some 18), .mv (.t 17), none⟩,
  ⟨(some 19), .fa 2 6 (.t 2), some (18, false)⟩,
  ⟨(some 20), .ld none (.t 19), some (18, false)⟩,
  ⟨(some 21), .len (.t 20), some (18, false)⟩,
  ⟨(some 22), .fa 2 6 (.t 3), some (18, false)⟩,
  ⟨(some 23), .ld none (.t 22), some (18, false)⟩,
  ⟨(some 24), .len (.t 23), some (18, false)⟩,
  ⟨(some 25), .bin .neq (.t 21) (.t 24), some (18, false)⟩,
  ⟨(some 26), .pick (.t 18) (.c (.bool true)) (.t 25), none⟩]
def d63_1 : Option (List (List Nat)) := none
def l63_1 : List Nat := []
theorem cd63_1 : dOk d63_1 g63_1 l63_1 = true := by kernel_rfl
def g63_2 : List G := [⟨(some 4), .mv (.c (.bool false)), none⟩]
def d63_2 : Option (List (List Nat)) := none
def l63_2 : List Nat := []
theorem cd63_2 : dOk d63_2 g63_2 l63_2 = true := by kernel_rfl
def g63_3 : List G := [⟨(some 5), .mv (.c (.int .i64 (0))), none⟩]
def d63_3 : Option (List (List Nat)) := none
def l63_3 : List Nat := []
theorem cd63_3 : dOk d63_3 g63_3 l63_3 = true := by kernel_rfl
def g63_4 : List G := [⟨(some 27), .mv (.t 5), none⟩,
  ⟨(some 28), .fa 2 6 (.t 2), none⟩,
  ⟨(some 29), .ld none (.t 28), none⟩,
  ⟨(some 30), .len (.t 29), none⟩,
  ⟨(some 31), .bin .lss (.t 27) (.t 30), none⟩]
def d63_4 : Option (List (List Nat)) := none
def l63_4 : List Nat := []
theorem cd63_4 : dOk d63_4 g63_4 l63_4 = true := by kernel_rfl
def g63_5 : List G := [⟨(some 34), .fa 2 6 (.t 2), none⟩,
  ⟨(some 35), .ld none (.t 34), none⟩,
  ⟨(some 36), .mv (.t 5), none⟩,
  ⟨(some 37), .is 7 (.t 35) (.t 36), none⟩,
  ⟨(some 38), .ld (some 7) (.t 37), none⟩,
  ⟨(some 39), .fa 2 6 (.t 3), none⟩,
  ⟨(some 40), .ld none (.t 39), none⟩,
  ⟨(some 41), .mv (.t 5), none⟩,
  ⟨(some 42), .is 7 (.t 40) (.t 41), none⟩,
  ⟨(some 43), .ld (some 7) (.t 42), none⟩,
  ⟨(some 44), .eqv (.st [(.i .i64), (.ar 6 (.i .i64))]) true (.t 38) (.t 43), none⟩]
def d63_5 : Option (List (List Nat)) := (some [[], [0], [], [1, 2], [3], [], [5], [], [6, 7], [8], [4, 9]])
def l63_5 : List Nat := [0, 1, 0, 7, 15, 0, 32, 0, 224, 480, 1023]
theorem cd63_5 : dOk d63_5 g63_5 l63_5 = true := by kernel_rfl
def g63_6 : List G := [⟨(some 4), .mv (.c (.bool false)), none⟩]
def d63_6 : Option (List (List Nat)) := none
def l63_6 : List Nat := []
theorem cd63_6 : dOk d63_6 g63_6 l63_6 = true := by kernel_rfl
def g63_7 : List G := [⟨(some 32), .mv (.t 5), none⟩,
  ⟨(some 33), .bin .add (.t 32) (.c (.int .i64 (1))), none⟩,
  ⟨(some 5), .mv (.t 33), none⟩]
def d63_7 : Option (List (List Nat)) := none
def l63_7 : List Nat := []
theorem cd63_7 : dOk d63_7 g63_7 l63_7 = true := by kernel_rfl
def g63_8 : List G := [⟨(some 4), .mv (.c (.bool true)), none⟩]
def d63_8 : Option (List (List Nat)) := none
def l63_8 : List Nat := []
theorem cd63_8 : dOk d63_8 g63_8 l63_8 = true := by kernel_rfl
def c63 : AC := (.seq (.reg d63_0 g63_0) (.seq (.seq (.reg d63_1 g63_1) (.cond (.t 26) (.seq (.reg d63_2 g63_2) .ret) .skip)) (.seq (.seq (.reg d63_3 g63_3) (.block 0 (.loop (.seq (.seq (.reg d63_4 g63_4) (.cond (.t 31) .skip (.exit 0))) (.seq (.block 1 (.seq (.reg d63_5 g63_5) (.cond (.t 44) (.seq (.reg d63_6 g63_6) .ret) .skip))) (.reg d63_7 g63_7)))))) (.seq (.reg d63_8 g63_8) .ret))))
def r63 : List RV := [.tmp 4]
theorem cc63 : (Try.f63.body.bind (cCode Try.prog Try.f63.ntmps)) = some c63 := by kernel_rfl
theorem cr63 : cRes Try.prog Try.f63.results.toList = some r63 := by kernel_rfl
theorem ca63 : callable Try.prog 63 = true := by kernel_rfl
-- 64 pinfold/mark.first
def g64_0 : List G := [⟨(some 2), .mv (.c (.int .i64 (0))), none⟩]
def d64_0 : Option (List (List Nat)) := none
def l64_0 : List Nat := []
theorem cd64_0 : dOk d64_0 g64_0 l64_0 = true := by kernel_rfl
def g64_1 : List G := [⟨(some 5), .mv (.t 0), none⟩,
  ⟨(some 6), .len (.t 5), none⟩,
  ⟨(some 7), .mv (.c (.int .i64 (0))), none⟩]
def d64_1 : Option (List (List Nat)) := none
def l64_1 : List Nat := []
theorem cd64_1 : dOk d64_1 g64_1 l64_1 = true := by kernel_rfl
def g64_2 : List G := [⟨(some 8), .bin .lss (.t 7) (.t 6), none⟩]
def d64_2 : Option (List (List Nat)) := none
def l64_2 : List Nat := []
theorem cd64_2 : dOk d64_2 g64_2 l64_2 = true := by kernel_rfl
def g64_3 : List G := [⟨(some 9), .is 1 (.t 5) (.t 7), none⟩,
  ⟨(some 10), .ld none (.t 9), none⟩,
  ⟨(some 4), .mv (.t 10), none⟩]
def d64_3 : Option (List (List Nat)) := none
def l64_3 : List Nat := []
theorem cd64_3 : dOk d64_3 g64_3 l64_3 = true := by kernel_rfl
def g64_4 : List G := [⟨(some 11), .mv (.t 4), none⟩,
  ⟨(some 12), .bin .neq (.t 11) (.c (.int .i64 (0))), none⟩]
def d64_4 : Option (List (List Nat)) := none
def l64_4 : List Nat := []
theorem cd64_4 : dOk d64_4 g64_4 l64_4 = true := by kernel_rfl
def g64_5 : List G := [⟨(some 13), .mv (.t 4), none⟩,
  ⟨(some 2), .mv (.t 13), none⟩]
def d64_5 : Option (List (List Nat)) := none
def l64_5 : List Nat := []
theorem cd64_5 : dOk d64_5 g64_5 l64_5 = true := by kernel_rfl
def g64_6 : List G := [⟨(some 14), .bin .add (.t 7) (.c (.int .i64 (1))), none⟩,
  ⟨(some 7), .mv (.t 14), none⟩]
def d64_6 : Option (List (List Nat)) := none
def l64_6 : List Nat := []
theorem cd64_6 : dOk d64_6 g64_6 l64_6 = true := by kernel_rfl
def g64_7 : List G := [⟨(some 2), .mv (.c (.int .i64 (0))), none⟩]
def d64_7 : Option (List (List Nat)) := none
def l64_7 : List Nat := []
theorem cd64_7 : dOk d64_7 g64_7 l64_7 = true := by kernel_rfl
def c64 : AC := (.seq (.reg d64_0 g64_0) (.seq (.seq (.reg d64_1 g64_1) (.block 0 (.loop (.seq (.reg d64_2 g64_2) (.seq (.cond (.t 8) .skip (.exit 0)) (.seq (.block 1 (.seq (.reg d64_3 g64_3) (.seq (.reg d64_4 g64_4) (.cond (.t 12) (.seq (.reg d64_5 g64_5) .ret) .skip)))) (.reg d64_6 g64_6))))))) (.seq (.reg d64_7 g64_7) .ret)))
def r64 : List RV := [.tmp 2]
theorem cc64 : (Try.f64.body.bind (cCode Try.prog Try.f64.ntmps)) = some c64 := by kernel_rfl
theorem cr64 : cRes Try.prog Try.f64.results.toList = some r64 := by kernel_rfl
theorem ca64 : callable Try.prog 64 = true := by kernel_rfl
-- 65 pinfold/mark.possible
def g65_0 : List G := [⟨(some 2), .box (.t 0), none⟩,
  ⟨(some 3), .box (.t 1), none⟩,
  ⟨(some 4), .mv (.c (.nils 7)), none⟩]
def d65_0 : Option (List (List Nat)) := none
def l65_0 : List Nat := []
theorem cd65_0 : dOk d65_0 g65_0 l65_0 = true := by kernel_rfl
def g65_1 : List G := [⟨(some 5), .fa 2 6 (.t 2), none⟩,
  ⟨(some 6), .ld none (.t 5), none⟩,
  ⟨(some 7), .call 85 [(.t 6)], none⟩,
  ⟨(some 8), .mk 105 [(.t 2), (.t 3)], none⟩,
  ⟨(some 9), .call 73 [(.t 7), (.t 8)], none⟩,
  ⟨(some 4), .mv (.t 9), none⟩]
def d65_1 : Option (List (List Nat)) := none
def l65_1 : List Nat := []
theorem cd65_1 : dOk d65_1 g65_1 l65_1 = true := by kernel_rfl
def c65 : AC := (.seq (.reg d65_0 g65_0) (.seq (.reg d65_1 g65_1) .ret))
def r65 : List RV := [.tmp 4]
theorem cc65 : (Try.f65.body.bind (cCode Try.prog Try.f65.ntmps)) = some c65 := by kernel_rfl
theorem cr65 : cRes Try.prog Try.f65.results.toList = some r65 := by kernel_rfl
theorem ca65 : callable Try.prog 65 = true := by kernel_rfl
-- 66 slices.Compare[[]int,int]
def g66_0 : List G := [⟨(some 4), .mv (.c (.int .i64 (0))), none⟩]
def d66_0 : Option (List (List Nat)) := none
def l66_0 : List Nat := []
theorem cd66_0 : dOk d66_0 g66_0 l66_0 = true := by kernel_rfl
def g66_1 : List G := [⟨(some 9), .mv (.t 0), none⟩,
  ⟨(some 10), .len (.t 9), none⟩,
  ⟨(some 11), .mv (.c (.int .i64 (0))), none⟩]
def d66_1 : Option (List (List Nat)) := none
def l66_1 : List Nat := []
theorem cd66_1 : dOk d66_1 g66_1 l66_1 = true := by kernel_rfl
def g66_2 : List G := [⟨(some 12), .bin .lss (.t 11) (.t 10), none⟩]
def d66_2 : Option (List (List Nat)) := none
def l66_2 : List Nat := []
theorem cd66_2 : dOk d66_2 g66_2 l66_2 = true := by kernel_rfl
def g66_3 : List G := [⟨(some 13), .mv (.t 11), none⟩,
  ⟨(some 14), .is 1 (.t 9) (.t 11), none⟩,
  ⟨(some 15), .ld none (.t 14), none⟩,
  ⟨(some 5), .mv (.t 13), none⟩,
  ⟨(some 6), .mv (.t 15), none⟩]
def d66_3 : Option (List (List Nat)) := none
def l66_3 : List Nat := []
theorem cd66_3 : dOk d66_3 g66_3 l66_3 = true := by kernel_rfl
def g66_4 : List G := [⟨(some 16), .mv (.t 5), none⟩,
  ⟨(some 17), .mv (.t 1), none⟩,
  ⟨(some 18), .len (.t 17), none⟩,
  ⟨(some 19), .bin .geq (.t 16) (.t 18), none⟩]
def d66_4 : Option (List (List Nat)) := none
def l66_4 : List Nat := []
theorem cd66_4 : dOk d66_4 g66_4 l66_4 = true := by kernel_rfl
def g66_5 : List G := [⟨(some 4), .mv (.c (.int .i64 (1))), none⟩]
def d66_5 : Option (List (List Nat)) := none
def l66_5 : List Nat := []
theorem cd66_5 : dOk d66_5 g66_5 l66_5 = true := by kernel_rfl
def g66_6 : List G := [⟨(some 20), .mv (.t 1), none⟩,
  ⟨(some 21), .mv (.t 5), none⟩,
  ⟨(some 22), .is 1 (.t 20) (.t 21), none⟩,
  ⟨(some 23), .ld none (.t 22), none⟩,
  ⟨(some 7), .mv (.t 23), none⟩]
def d66_6 : Option (List (List Nat)) := none
def l66_6 : List Nat := []
theorem cd66_6 : dOk d66_6 g66_6 l66_6 = true := by kernel_rfl
def g66_7 : List G := [⟨(some 24), .mv (.t 6), none⟩,
  ⟨(some 25), .mv (.t 7), none⟩,
  ⟨(some 26), .call 106 [(.t 24), (.t 25)], none⟩,
  ⟨(some 8), .mv (.t 26), none⟩]
def d66_7 : Option (List (List Nat)) := none
def l66_7 : List Nat := []
theorem cd66_7 : dOk d66_7 g66_7 l66_7 = true := by kernel_rfl
def g66_8 : List G := [⟨(some 27), .mv (.t 8), none⟩,
  ⟨(some 28), .bin .neq (.t 27) (.c (.int .i64 (0))), none⟩]
def d66_8 : Option (List (List Nat)) := none
def l66_8 : List Nat := []
theorem cd66_8 : dOk d66_8 g66_8 l66_8 = true := by kernel_rfl
def g66_9 : List G := [⟨(some 29), .mv (.t 8), none⟩,
  ⟨(some 4), .mv (.t 29), none⟩]
def d66_9 : Option (List (List Nat)) := none
def l66_9 : List Nat := []
theorem cd66_9 : dOk d66_9 g66_9 l66_9 = true := by kernel_rfl
def g66_10 : List G := [⟨(some 30), .bin .add (.t 11) (.c (.int .i64 (1))), none⟩,
  ⟨(some 11), .mv (.t 30), none⟩]
def d66_10 : Option (List (List Nat)) := none
def l66_10 : List Nat := []
theorem cd66_10 : dOk d66_10 g66_10 l66_10 = true := by kernel_rfl
def g66_11 : List G := [⟨(some 31), .mv (.t 0), none⟩,
  ⟨(some 32), .len (.t 31), none⟩,
  ⟨(some 33), .mv (.t 1), none⟩,
  ⟨(some 34), .len (.t 33), none⟩,
  ⟨(some 35), .bin .lss (.t 32) (.t 34), none⟩]
def d66_11 : Option (List (List Nat)) := none
def l66_11 : List Nat := []
theorem cd66_11 : dOk d66_11 g66_11 l66_11 = true := by kernel_rfl
def g66_12 : List G := [⟨(some 4), .mv (.c (.int .i64 (-1))), none⟩]
def d66_12 : Option (List (List Nat)) := none
def l66_12 : List Nat := []
theorem cd66_12 : dOk d66_12 g66_12 l66_12 = true := by kernel_rfl
def g66_13 : List G := [⟨(some 4), .mv (.c (.int .i64 (0))), none⟩]
def d66_13 : Option (List (List Nat)) := none
def l66_13 : List Nat := []
theorem cd66_13 : dOk d66_13 g66_13 l66_13 = true := by kernel_rfl
def c66 : AC := (.seq (.reg d66_0 g66_0) (.seq (.seq (.reg d66_1 g66_1) (.block 0 (.loop (.seq (.reg d66_2 g66_2) (.seq (.cond (.t 12) .skip (.exit 0)) (.seq (.block 1 (.seq (.reg d66_3 g66_3) (.seq (.seq (.reg d66_4 g66_4) (.cond (.t 19) (.seq (.reg d66_5 g66_5) .ret) .skip)) (.seq (.reg d66_6 g66_6) (.seq (.reg d66_7 g66_7) (.seq (.reg d66_8 g66_8) (.cond (.t 28) (.seq (.reg d66_9 g66_9) .ret) .skip))))))) (.reg d66_10 g66_10))))))) (.seq (.seq (.reg d66_11 g66_11) (.cond (.t 35) (.seq (.reg d66_12 g66_12) .ret) .skip)) (.seq (.reg d66_13 g66_13) .ret))))
def r66 : List RV := [.tmp 4]
theorem cc66 : (Try.f66.body.bind (cCode Try.prog Try.f66.ntmps)) = some c66 := by kernel_rfl
theorem cr66 : cRes Try.prog Try.f66.results.toList = some r66 := by kernel_rfl
theorem ca66 : callable Try.prog 66 = true := by kernel_rfl
-- 67 pinfold/mark.settles
def g67_0 : List G := [⟨(some 3), .box (.t 0), none⟩,
  ⟨(some 6), .mv (.c (.bool false)), none⟩]
def d67_0 : Option (List (List Nat)) := none
def l67_0 : List Nat := []
theorem cd67_0 : dOk d67_0 g67_0 l67_0 = true := by kernel_rfl
def g67_1 : List G := [⟨(some 11), .mv (.t 1), none⟩,
  ⟨(some 12), .len (.t 11), none⟩,
  ⟨(some 13), .mv (.c (.int .i64 (0))), none⟩]
def d67_1 : Option (List (List Nat)) := none
def l67_1 : List Nat := []
theorem cd67_1 : dOk d67_1 g67_1 l67_1 = true := by kernel_rfl
def g67_2 : List G := [⟨(some 14), .bin .lss (.t 13) (.t 12), none⟩]
def d67_2 : Option (List (List Nat)) := none
def l67_2 : List Nat := []
theorem cd67_2 : dOk d67_2 g67_2 l67_2 = true := by kernel_rfl
def g67_3 : List G := [⟨(some 15), .mv (.t 13), none⟩,
  ⟨(some 16), .is 7 (.t 11) (.t 13), none⟩,
  ⟨(some 17), .ld (some 7) (.t 16), none⟩,
  ⟨(some 8), .alloc (.agg [.int .i64 (0), .agg [.int .i64 (0), .int .i64 (0), .int .i64 (0), .int .i64 (0), .int .i64 (0), .int .i64 (0)]]), none⟩,
  ⟨(some 7), .mv (.t 15), none⟩,
  ⟨none, .st (some 7) (.t 8) (.t 17), none⟩]
def d67_3 : Option (List (List Nat)) := none
def l67_3 : List Nat := []
theorem cd67_3 : dOk d67_3 g67_3 l67_3 = true := by kernel_rfl
def g67_4 : List G := [⟨(some 18), .mv (.t 1), none⟩,
  ⟨(some 19), .mv (.t 7), none⟩,
  ⟨(some 20), .sl 7 (.t 18) none (some (.t 19)) none, none⟩,
  ⟨(some 21), .len (.t 20), none⟩,
  ⟨(some 22), .mv (.c (.int .i64 (0))), none⟩]
def d67_4 : Option (List (List Nat)) := none
def l67_4 : List Nat := []
theorem cd67_4 : dOk d67_4 g67_4 l67_4 = true := by kernel_rfl
def g67_5 : List G := [⟨(some 23), .bin .lss (.t 22) (.t 21), none⟩]
def d67_5 : Option (List (List Nat)) := none
def l67_5 : List Nat := []
theorem cd67_5 : dOk d67_5 g67_5 l67_5 = true := by kernel_rfl
def g67_6 : List G := [⟨(some 24), .is 7 (.t 20) (.t 22), none⟩,
  ⟨(some 25), .ld (some 7) (.t 24), none⟩,
  ⟨(some 10), .alloc (.agg [.int .i64 (0), .agg [.int .i64 (0), .int .i64 (0), .int .i64 (0), .int .i64 (0), .int .i64 (0), .int .i64 (0)]]), none⟩,
  ⟨none, .st (some 7) (.t 10) (.t 25), none⟩]
def d67_6 : Option (List (List Nat)) := none
def l67_6 : List Nat := []
theorem cd67_6 : dOk d67_6 g67_6 l67_6 = true := by kernel_rfl
def g67_7 : List G := [⟨(some 26), .mv (.t 2), none⟩,
  ⟨(some 27), .mk 107 [(.t 3), (.t 8), (.t 10)], none⟩,
  ⟨(some 28), .call 75 [(.t 26), (.t 27)], none⟩,
  ⟨(some 29), .un .not (.t 28), none⟩]
def d67_7 : Option (List (List Nat)) := none
def l67_7 : List Nat := []
theorem cd67_7 : dOk d67_7 g67_7 l67_7 = true := by kernel_rfl
def g67_8 : List G := [⟨(some 6), .mv (.c (.bool false)), none⟩]
def d67_8 : Option (List (List Nat)) := none
def l67_8 : List Nat := []
theorem cd67_8 : dOk d67_8 g67_8 l67_8 = true := by kernel_rfl
def g67_9 : List G := [⟨(some 30), .bin .add (.t 22) (.c (.int .i64 (1))), none⟩,
  ⟨(some 22), .mv (.t 30), none⟩]
def d67_9 : Option (List (List Nat)) := none
def l67_9 : List Nat := []
theorem cd67_9 : dOk d67_9 g67_9 l67_9 = true := by kernel_rfl
def g67_10 : List G := [⟨(some 31), .bin .add (.t 13) (.c (.int .i64 (1))), none⟩,
  ⟨(some 13), .mv (.t 31), none⟩]
def d67_10 : Option (List (List Nat)) := none
def l67_10 : List Nat := []
theorem cd67_10 : dOk d67_10 g67_10 l67_10 = true := by kernel_rfl
def g67_11 : List G := [⟨(some 6), .mv (.c (.bool true)), none⟩]
def d67_11 : Option (List (List Nat)) := none
def l67_11 : List Nat := []
theorem cd67_11 : dOk d67_11 g67_11 l67_11 = true := by kernel_rfl
def c67 : AC := (.seq (.reg d67_0 g67_0) (.seq (.seq (.reg d67_1 g67_1) (.block 0 (.loop (.seq (.reg d67_2 g67_2) (.seq (.cond (.t 14) .skip (.exit 0)) (.seq (.block 1 (.seq (.reg d67_3 g67_3) (.seq (.reg d67_4 g67_4) (.block 2 (.loop (.seq (.reg d67_5 g67_5) (.seq (.cond (.t 23) .skip (.exit 2)) (.seq (.block 3 (.seq (.reg d67_6 g67_6) (.seq (.reg d67_7 g67_7) (.cond (.t 29) (.seq (.reg d67_8 g67_8) .ret) .skip)))) (.reg d67_9 g67_9))))))))) (.reg d67_10 g67_10))))))) (.seq (.reg d67_11 g67_11) .ret)))
def r67 : List RV := [.tmp 6]
theorem cc67 : (Try.f67.body.bind (cCode Try.prog Try.f67.ntmps)) = some c67 := by kernel_rfl
theorem cr67 : cRes Try.prog Try.f67.results.toList = some r67 := by kernel_rfl
theorem ca67 : callable Try.prog 67 = true := by kernel_rfl
-- 68 pinfold/pinfoldref01.chosen
def g68_0 : List G := [⟨(some 2), .mv (.c (.nils 1)), none⟩]
def d68_0 : Option (List (List Nat)) := none
def l68_0 : List Nat := []
theorem cd68_0 : dOk d68_0 g68_0 l68_0 = true := by kernel_rfl
def g68_1 : List G := [⟨(some 3), .mv (.c (.nils 1)), none⟩]
def d68_1 : Option (List (List Nat)) := none
def l68_1 : List Nat := []
theorem cd68_1 : dOk d68_1 g68_1 l68_1 = true := by kernel_rfl
def g68_2 : List G := [⟨(some 4), .mv (.c (.int .i64 (0))), none⟩]
def d68_2 : Option (List (List Nat)) := none
def l68_2 : List Nat := []
theorem cd68_2 : dOk d68_2 g68_2 l68_2 = true := by kernel_rfl
def g68_3 : List G := [⟨(some 5), .mv (.t 4), none⟩,
  ⟨(some 6), .bin .lss (.t 5) (.c (.int .i64 (6))), none⟩]
def d68_3 : Option (List (List Nat)) := none
def l68_3 : List Nat := []
theorem cd68_3 : dOk d68_3 g68_3 l68_3 = true := by kernel_rfl
def g68_4 : List G := [⟨(some 9), .mv (.t 0), none⟩,
  ⟨(some 10), .mv (.t 4), none⟩,
  ⟨(some 11), .bin .shl (.c (.int .i64 (1))) (.t 10), none⟩,
  ⟨(some 12), .bin .and (.t 9) (.t 11), none⟩,
  ⟨(some 13), .bin .neq (.t 12) (.c (.int .i64 (0))), none⟩]
def d68_4 : Option (List (List Nat)) := none
def l68_4 : List Nat := []
theorem cd68_4 : dOk d68_4 g68_4 l68_4 = true := by kernel_rfl
def g68_5 : List G := [⟨(some 14), .mv (.t 3), none⟩,
  ⟨(some 15), .mv (.t 4), none⟩,
  ⟨(some 16), .bs 1 [(.t 15)], none⟩,
  ⟨(some 17), .app 3 1 8 (.int .i64 (0)) (.t 14) (.t 16), none⟩,
  ⟨(some 3), .mv (.t 17), none⟩]
def d68_5 : Option (List (List Nat)) := none
def l68_5 : List Nat := []
theorem cd68_5 : dOk d68_5 g68_5 l68_5 = true := by kernel_rfl
def g68_6 : List G := [⟨(some 7), .mv (.t 4), none⟩,
  ⟨(some 8), .bin .add (.t 7) (.c (.int .i64 (1))), none⟩,
  ⟨(some 4), .mv (.t 8), none⟩]
def d68_6 : Option (List (List Nat)) := none
def l68_6 : List Nat := []
theorem cd68_6 : dOk d68_6 g68_6 l68_6 = true := by kernel_rfl
def g68_7 : List G := [⟨(some 18), .mv (.t 3), none⟩,
  ⟨(some 2), .mv (.t 18), none⟩]
def d68_7 : Option (List (List Nat)) := none
def l68_7 : List Nat := []
theorem cd68_7 : dOk d68_7 g68_7 l68_7 = true := by kernel_rfl
def c68 : AC := (.seq (.reg d68_0 g68_0) (.seq (.reg d68_1 g68_1) (.seq (.seq (.reg d68_2 g68_2) (.block 0 (.loop (.seq (.seq (.reg d68_3 g68_3) (.cond (.t 6) .skip (.exit 0))) (.seq (.block 1 (.seq (.reg d68_4 g68_4) (.cond (.t 13) (.reg d68_5 g68_5) .skip))) (.reg d68_6 g68_6)))))) (.seq (.reg d68_7 g68_7) .ret))))
def r68 : List RV := [.tmp 2]
theorem cc68 : (Try.f68.body.bind (cCode Try.prog Try.f68.ntmps)) = some c68 := by kernel_rfl
theorem cr68 : cRes Try.prog Try.f68.results.toList = some r68 := by kernel_rfl
theorem ca68 : callable Try.prog 68 = true := by kernel_rfl
-- 70 pinfold/pinfoldref01.Ahead
def g70_0 : List G := [⟨(some 4), .mv (.c (.bool false)), none⟩]
def d70_0 : Option (List (List Nat)) := none
def l70_0 : List Nat := []
theorem cd70_0 : dOk d70_0 g70_0 l70_0 = true := by kernel_rfl
def g70_1 : List G := [⟨(some 5), .mv (.c (.int .i64 (0))), none⟩]
def d70_1 : Option (List (List Nat)) := none
def l70_1 : List Nat := []
theorem cd70_1 : dOk d70_1 g70_1 l70_1 = true := by kernel_rfl
def g70_2 : List G := [⟨(some 6), .mv (.t 5), none⟩,
  ⟨(some 7), .mv (.t 0), none⟩,
  ⟨(some 8), .len (.t 7), none⟩,
  ⟨(some 9), .bin .lss (.t 6) (.t 8), none⟩,
  ⟨(some 10), .mv (.t 9), none⟩,
  ⟨(some 11), .mv (.t 5), some (10, true)⟩,
  ⟨(some 12), .mv (.t 1), some (10, true)⟩,
  ⟨(some 13), .len (.t 12), some (10, true)⟩,
  ⟨(some 14), .bin .lss (.t 11) (.t 13), some (10, true)⟩,
  ⟨(some 15), .pick (.t 10) (.t 14) (.c (.bool false)), none⟩]
def d70_2 : Option (List (List Nat)) := none
def l70_2 : List Nat := []
theorem cd70_2 : dOk d70_2 g70_2 l70_2 = true := by kernel_rfl
def g70_3 : List G := [⟨(some 18), .mv (.t 0), none⟩,
  ⟨(some 19), .mv (.t 5), none⟩,
  ⟨(some 20), .is 1 (.t 18) (.t 19), none⟩,
  ⟨(some 21), .ld none (.t 20), none⟩,
  ⟨(some 22), .mv (.t 1), none⟩,
  ⟨(some 23), .mv (.t 5), none⟩,
  ⟨(some 24), .is 1 (.t 22) (.t 23), none⟩,
  ⟨(some 25), .ld none (.t 24), none⟩,
  ⟨(some 26), .bin .neq (.t 21) (.t 25), none⟩]
def d70_3 : Option (List (List Nat)) := (some [[], [], [0, 1], [2], [], [], [4, 5], [6], [3, 7]])
def l70_3 : List Nat := [0, 0, 3, 7, 0, 0, 48, 112, 255]
theorem cd70_3 : dOk d70_3 g70_3 l70_3 = true := by kernel_rfl
def g70_4 : List G := [⟨(some 27), .mv (.t 0), none⟩,
  ⟨(some 28), .mv (.t 5), none⟩,
  ⟨(some 29), .is 1 (.t 27) (.t 28), none⟩,
  ⟨(some 30), .ld none (.t 29), none⟩,
  ⟨(some 31), .mv (.t 1), none⟩,
  ⟨(some 32), .mv (.t 5), none⟩,
  ⟨(some 33), .is 1 (.t 31) (.t 32), none⟩,
  ⟨(some 34), .ld none (.t 33), none⟩,
  ⟨(some 35), .bin .lss (.t 30) (.t 34), none⟩,
  ⟨(some 4), .mv (.t 35), none⟩]
def d70_4 : Option (List (List Nat)) := (some [[], [], [0, 1], [2], [], [], [4, 5], [6], [3, 7], [8, 0, 1, 2, 3, 4, 5, 6, 7, 8]])
def l70_4 : List Nat := [0, 0, 3, 7, 0, 0, 48, 112, 255, 511]
theorem cd70_4 : dOk d70_4 g70_4 l70_4 = true := by kernel_rfl
def g70_5 : List G := [⟨(some 16), .mv (.t 5), none⟩,
  ⟨(some 17), .bin .add (.t 16) (.c (.int .i64 (1))), none⟩,
  ⟨(some 5), .mv (.t 17), none⟩]
def d70_5 : Option (List (List Nat)) := none
def l70_5 : List Nat := []
theorem cd70_5 : dOk d70_5 g70_5 l70_5 = true := by kernel_rfl
def g70_6 : List G := [⟨(some 36), .mv (.t 0), none⟩,
  ⟨(some 37), .len (.t 36), none⟩,
  ⟨(some 38), .mv (.t 1), none⟩,
  ⟨(some 39), .len (.t 38), none⟩,
  ⟨(some 40), .bin .lss (.t 37) (.t 39), none⟩,
  ⟨(some 4), .mv (.t 40), none⟩]
def d70_6 : Option (List (List Nat)) := none
def l70_6 : List Nat := []
theorem cd70_6 : dOk d70_6 g70_6 l70_6 = true := by kernel_rfl
def c70 : AC := (.seq (.reg d70_0 g70_0) (.seq (.seq (.reg d70_1 g70_1) (.block 0 (.loop (.seq (.seq (.reg d70_2 g70_2) (.cond (.t 15) .skip (.exit 0))) (.seq (.block 1 (.seq (.reg d70_3 g70_3) (.cond (.t 26) (.seq (.reg d70_4 g70_4) .ret) .skip))) (.reg d70_5 g70_5)))))) (.seq (.reg d70_6 g70_6) .ret)))
def r70 : List RV := [.tmp 4]
theorem cc70 : (Try.f70.body.bind (cCode Try.prog Try.f70.ntmps)) = some c70 := by kernel_rfl
theorem cr70 : cRes Try.prog Try.f70.results.toList = some r70 := by kernel_rfl
theorem ca70 : callable Try.prog 70 = true := by kernel_rfl
-- 71 pinfold/mark.arePlaces
def g71_0 : List G := [⟨(some 2), .mv (.c (.bool false)), none⟩]
def d71_0 : Option (List (List Nat)) := none
def l71_0 : List Nat := []
theorem cd71_0 : dOk d71_0 g71_0 l71_0 = true := by kernel_rfl
def g71_1 : List G := [⟨(some 5), .mv (.t 0), none⟩,
  ⟨(some 6), .len (.t 5), none⟩,
  ⟨(some 7), .mv (.c (.int .i64 (0))), none⟩]
def d71_1 : Option (List (List Nat)) := none
def l71_1 : List Nat := []
theorem cd71_1 : dOk d71_1 g71_1 l71_1 = true := by kernel_rfl
def g71_2 : List G := [⟨(some 8), .bin .lss (.t 7) (.t 6), none⟩]
def d71_2 : Option (List (List Nat)) := none
def l71_2 : List Nat := []
theorem cd71_2 : dOk d71_2 g71_2 l71_2 = true := by kernel_rfl
def g71_3 : List G := [⟨(some 9), .mv (.t 7), none⟩,
  ⟨(some 10), .is 1 (.t 5) (.t 7), none⟩,
  ⟨(some 11), .ld none (.t 10), none⟩,
  ⟨(some 3), .mv (.t 9), none⟩,
  ⟨(some 4), .mv (.t 11), none⟩]
def d71_3 : Option (List (List Nat)) := none
def l71_3 : List Nat := []
theorem cd71_3 : dOk d71_3 g71_3 l71_3 = true := by kernel_rfl
def g71_4 : List G := [⟨(some 12), .mv (.t 4), none⟩,
  ⟨(some 13), .call 89 [(.t 12), (.c (.int .i64 (0))), (.c (.int .i64 (5)))], none⟩,
  ⟨(some 14), .un .not (.t 13), none⟩,
  ⟨(some 15), .mv (.t 14), none⟩,
  ⟨(some 16), .mv (.t 3), some (15, false)⟩,
  ⟨(some 17), .bin .gtr (.t 16) (.c (.int .i64 (0))), some (15, false)⟩,
  ⟨(some 18), .mv (.t 17), some (15, false)⟩,
  ⟨(some 19), .mv (.t 0), some (18, true)⟩,
  ⟨(some 20), .mv (.t 3), some (18, true)⟩,
  ⟨(some 21), .bin .sub (.t 20) (.c (.int .i64 (1))), some (18, true)⟩,
  ⟨(some 22), .is 1 (.t 19) (.t 21), some (18, true)⟩,
  ⟨(some 23), .ld none (.t 22), some (18, true)⟩,
  ⟨(some 24), .mv (.t 4), some (18, true)⟩,
  ⟨(some 25), .bin .geq (.t 23) (.t 24), some (18, true)⟩,
  ⟨(some 26), .pick (.t 18) (.t 25) (.c (.bool false)), some (15, false)⟩,
  ⟨(some 27), .pick (.t 15) (.c (.bool true)) (.t 26), none⟩]
def d71_4 : Option (List (List Nat)) := none
def l71_4 : List Nat := []
theorem cd71_4 : dOk d71_4 g71_4 l71_4 = true := by kernel_rfl
def g71_5 : List G := [⟨(some 2), .mv (.c (.bool false)), none⟩]
def d71_5 : Option (List (List Nat)) := none
def l71_5 : List Nat := []
theorem cd71_5 : dOk d71_5 g71_5 l71_5 = true := by kernel_rfl
def g71_6 : List G := [⟨(some 28), .bin .add (.t 7) (.c (.int .i64 (1))), none⟩,
  ⟨(some 7), .mv (.t 28), none⟩]
def d71_6 : Option (List (List Nat)) := none
def l71_6 : List Nat := []
theorem cd71_6 : dOk d71_6 g71_6 l71_6 = true := by kernel_rfl
def g71_7 : List G := [⟨(some 2), .mv (.c (.bool true)), none⟩]
def d71_7 : Option (List (List Nat)) := none
def l71_7 : List Nat := []
theorem cd71_7 : dOk d71_7 g71_7 l71_7 = true := by kernel_rfl
def c71 : AC := (.seq (.reg d71_0 g71_0) (.seq (.seq (.reg d71_1 g71_1) (.block 0 (.loop (.seq (.reg d71_2 g71_2) (.seq (.cond (.t 8) .skip (.exit 0)) (.seq (.block 1 (.seq (.reg d71_3 g71_3) (.seq (.reg d71_4 g71_4) (.cond (.t 27) (.seq (.reg d71_5 g71_5) .ret) .skip)))) (.reg d71_6 g71_6))))))) (.seq (.reg d71_7 g71_7) .ret)))
def r71 : List RV := [.tmp 2]
theorem cc71 : (Try.f71.body.bind (cCode Try.prog Try.f71.ntmps)) = some c71 := by kernel_rfl
theorem cr71 : cRes Try.prog Try.f71.results.toList = some r71 := by kernel_rfl
theorem ca71 : callable Try.prog 71 = true := by kernel_rfl
-- 72 pinfold/mark.owners
def g72_0 : List G := [⟨(some 2), .mv (.c (.nils 1)), none⟩]
def d72_0 : Option (List (List Nat)) := none
def l72_0 : List Nat := []
theorem cd72_0 : dOk d72_0 g72_0 l72_0 = true := by kernel_rfl
def g72_1 : List G := [⟨(some 3), .mv (.c (.nils 1)), none⟩]
def d72_1 : Option (List (List Nat)) := none
def l72_1 : List Nat := []
theorem cd72_1 : dOk d72_1 g72_1 l72_1 = true := by kernel_rfl
def g72_2 : List G := [⟨(some 6), .mv (.t 0), none⟩,
  ⟨(some 7), .len (.t 6), none⟩,
  ⟨(some 8), .mv (.c (.int .i64 (0))), none⟩]
def d72_2 : Option (List (List Nat)) := none
def l72_2 : List Nat := []
theorem cd72_2 : dOk d72_2 g72_2 l72_2 = true := by kernel_rfl
def g72_3 : List G := [⟨(some 9), .bin .lss (.t 8) (.t 7), none⟩]
def d72_3 : Option (List (List Nat)) := none
def l72_3 : List Nat := []
theorem cd72_3 : dOk d72_3 g72_3 l72_3 = true := by kernel_rfl
def g72_4 : List G := [⟨(some 10), .is 7 (.t 6) (.t 8), none⟩,
  ⟨(some 11), .ld (some 7) (.t 10), none⟩,
  ⟨(some 5), .alloc (.agg [.int .i64 (0), .agg [.int .i64 (0), .int .i64 (0), .int .i64 (0), .int .i64 (0), .int .i64 (0), .int .i64 (0)]]), none⟩,
  ⟨none, .st (some 7) (.t 5) (.t 11), none⟩]
def d72_4 : Option (List (List Nat)) := none
def l72_4 : List Nat := []
theorem cd72_4 : dOk d72_4 g72_4 l72_4 = true := by kernel_rfl
def g72_5 : List G := [⟨(some 12), .mv (.t 3), none⟩,
  ⟨(some 13), .fa 0 0 (.t 5), none⟩,
  ⟨(some 14), .ld none (.t 13), none⟩,
  ⟨(some 15), .bs 1 [(.t 14)], none⟩,
  ⟨(some 16), .app 3 1 8 (.int .i64 (0)) (.t 12) (.t 15), none⟩,
  ⟨(some 3), .mv (.t 16), none⟩]
def d72_5 : Option (List (List Nat)) := none
def l72_5 : List Nat := []
theorem cd72_5 : dOk d72_5 g72_5 l72_5 = true := by kernel_rfl
def g72_6 : List G := [⟨(some 17), .bin .add (.t 8) (.c (.int .i64 (1))), none⟩,
  ⟨(some 8), .mv (.t 17), none⟩]
def d72_6 : Option (List (List Nat)) := none
def l72_6 : List Nat := []
theorem cd72_6 : dOk d72_6 g72_6 l72_6 = true := by kernel_rfl
def g72_7 : List G := [⟨(some 18), .mv (.t 3), none⟩,
  ⟨(some 2), .mv (.t 18), none⟩]
def d72_7 : Option (List (List Nat)) := none
def l72_7 : List Nat := []
theorem cd72_7 : dOk d72_7 g72_7 l72_7 = true := by kernel_rfl
def c72 : AC := (.seq (.reg d72_0 g72_0) (.seq (.reg d72_1 g72_1) (.seq (.seq (.reg d72_2 g72_2) (.block 0 (.loop (.seq (.reg d72_3 g72_3) (.seq (.cond (.t 9) .skip (.exit 0)) (.seq (.block 1 (.seq (.reg d72_4 g72_4) (.reg d72_5 g72_5))) (.reg d72_6 g72_6))))))) (.seq (.reg d72_7 g72_7) .ret))))
def r72 : List RV := [.tmp 2]
theorem cc72 : (Try.f72.body.bind (cCode Try.prog Try.f72.ntmps)) = some c72 := by kernel_rfl
theorem cr72 : cRes Try.prog Try.f72.results.toList = some r72 := by kernel_rfl
theorem ca72 : callable Try.prog 72 = true := by kernel_rfl

end Go.Proofs.Ytkjkbpgdpnapfaa

