/-
  THE SEAT'S FUNCTIONS, READ (part 0): the code of each as the abstract layer reads it, by program; each tie is a closed fact.
-/
import Derived.KernelRfl
import Derived.Test.YtkjkbpgdpnapfaaChecked
import Derived.Test.YtkjkbpgdpnapfaaMgc
set_option linter.unusedSimpArgs false
set_option linter.unusedVariables false
namespace Go.Proofs.Ytkjkbpgdpnapfaa
open Go Go.Abs
def g3_0 : List G := [⟨(some 3), .box (.t 0), none⟩,
  ⟨(some 4), .box (.t 1), none⟩,
  ⟨(some 6), .mv (.c (.bool false)), none⟩]
def d3_0 : Option (List (List Nat)) := none
def l3_0 : List Nat := []
theorem cd3_0 : dOk d3_0 g3_0 l3_0 = true := by kernel_rfl
def g3_1 : List G := [⟨(some 21), .ld (some 7) (.t 3), none⟩,
  ⟨(some 22), .fa 0 0 (.t 4), none⟩,
  ⟨(some 23), .ld (some 6) (.t 22), none⟩,
  ⟨(some 24), .call 12 [(.t 21), (.t 23)], none⟩,
  ⟨(some 20), .mv (.t 24), none⟩,
  ⟨(some 25), .ext (.t 20) 0, none⟩,
  ⟨(some 26), .ext (.t 20) 1, none⟩,
  ⟨(some 7), .mv (.t 25), none⟩,
  ⟨(some 8), .mv (.t 26), none⟩]
def d3_1 : Option (List (List Nat)) := none
def l3_1 : List Nat := []
theorem cd3_1 : dOk d3_1 g3_1 l3_1 = true := by kernel_rfl
def g3_2 : List G := [⟨(some 28), .ld (some 7) (.t 3), none⟩,
  ⟨(some 29), .fa 0 0 (.t 4), none⟩,
  ⟨(some 30), .ld (some 6) (.t 29), none⟩,
  ⟨(some 31), .call 13 [(.t 28), (.t 30)], none⟩,
  ⟨(some 27), .mv (.t 31), none⟩,
  ⟨(some 32), .ext (.t 27) 0, none⟩,
  ⟨(some 33), .ext (.t 27) 1, none⟩,
  ⟨(some 9), .mv (.t 32), none⟩,
  ⟨(some 10), .mv (.t 33), none⟩]
def d3_2 : Option (List (List Nat)) := none
def l3_2 : List Nat := []
theorem cd3_2 : dOk d3_2 g3_2 l3_2 = true := by kernel_rfl
def g3_3 : List G := [⟨(some 35), .ld (some 7) (.t 3), none⟩,
  ⟨(some 36), .fa 0 0 (.t 4), none⟩,
  ⟨(some 37), .ld (some 6) (.t 36), none⟩,
  ⟨(some 38), .fa 1 6 (.t 4), none⟩,
  ⟨(some 39), .ld (some 6) (.t 38), none⟩,
  ⟨(some 40), .fa 2 12 (.t 4), none⟩,
  ⟨(some 41), .ld none (.t 40), none⟩,
  ⟨(some 42), .call 14 [(.t 35), (.t 37), (.t 39), (.t 41)], none⟩,
  ⟨(some 34), .mv (.t 42), none⟩,
  ⟨(some 43), .ext (.t 34) 0, none⟩,
  ⟨(some 44), .ext (.t 34) 1, none⟩,
  ⟨(some 11), .mv (.t 43), none⟩,
  ⟨(some 12), .mv (.t 44), none⟩]
def d3_3 : Option (List (List Nat)) := none
def l3_3 : List Nat := []
theorem cd3_3 : dOk d3_3 g3_3 l3_3 = true := by kernel_rfl
def g3_4 : List G := [⟨(some 46), .ld (some 7) (.t 3), none⟩,
  ⟨(some 47), .ld (some 13) (.t 4), none⟩,
  ⟨(some 48), .call 15 [(.t 46), (.t 47)], none⟩,
  ⟨(some 45), .mv (.t 48), none⟩,
  ⟨(some 49), .ext (.t 45) 0, none⟩,
  ⟨(some 50), .ext (.t 45) 1, none⟩,
  ⟨(some 13), .mv (.t 49), none⟩,
  ⟨(some 14), .mv (.t 50), none⟩]
def d3_4 : Option (List (List Nat)) := none
def l3_4 : List Nat := []
theorem cd3_4 : dOk d3_4 g3_4 l3_4 = true := by kernel_rfl
def g3_5 : List G := [⟨(some 51), .mv (.t 7), none⟩,
  ⟨(some 52), .mv (.t 9), none⟩,
  ⟨(some 53), .call 16 [(.t 51), (.t 52)], none⟩,
  ⟨(some 54), .un .not (.t 53), none⟩,
  ⟨(some 55), .mv (.t 54), none⟩,
  ⟨(some 56), .mv (.t 8), some (55, false)⟩,
  ⟨(some 57), .mv (.t 10), some (55, false)⟩,
  ⟨(some 58), .bin .neq (.t 56) (.t 57), some (55, false)⟩,
  ⟨(some 59), .pick (.t 55) (.c (.bool true)) (.t 58), none⟩,
  ⟨(some 60), .mv (.t 59), none⟩,
  ⟨(some 61), .mv (.t 11), some (60, false)⟩,
  ⟨(some 62), .mv (.t 13), some (60, false)⟩,
  ⟨(some 63), .call 16 [(.t 61), (.t 62)], some (60, false)⟩,
  ⟨(some 64), .un .not (.t 63), some (60, false)⟩,
  ⟨(some 65), .pick (.t 60) (.c (.bool true)) (.t 64), none⟩,
  ⟨(some 66), .mv (.t 65), none⟩,
  ⟨(some 67), .mv (.t 12), some (66, false)⟩,
  ⟨(some 68), .mv (.t 14), some (66, false)⟩,
  ⟨(some 69), .bin .neq (.t 67) (.t 68), some (66, false)⟩,
  ⟨(some 70), .pick (.t 66) (.c (.bool true)) (.t 69), none⟩,
  ⟨(some 71), .mv (.t 70), none⟩,
  ⟨(some 72), .ld (some 7) (.t 3), some (71, false)⟩,
  ⟨(some 73), .fa 0 0 (.t 4), some (71, false)⟩,
  ⟨(some 74), .ld (some 6) (.t 73), some (71, false)⟩,
  ⟨(some 75), .fa 2 12 (.t 4), some (71, false)⟩,
  ⟨(some 76), .ld none (.t 75), some (71, false)⟩,
  ⟨(some 77), .call 17 [(.t 72), (.t 74), (.t 76)], some (71, false)⟩,
  ⟨(some 78), .ld (some 7) (.t 3), some (71, false)⟩,
  ⟨(some 79), .fa 0 0 (.t 4), some (71, false)⟩,
  ⟨(some 80), .ld (some 6) (.t 79), some (71, false)⟩,
  ⟨(some 81), .fa 2 12 (.t 4), some (71, false)⟩,
  ⟨(some 82), .ld none (.t 81), some (71, false)⟩,
  ⟨(some 83), .call 18 [(.t 78), (.t 80), (.t 82)], some (71, false)⟩,
  ⟨(some 84), .bin .neq (.t 77) (.t 83), some (71, false)⟩,
  ⟨(some 85), .pick (.t 71) (.c (.bool true)) (.t 84), none⟩]
def d3_5 : Option (List (List Nat)) := (some [[], [], [0, 1], [2], [3, 2], [4], [4], [5, 6, 4], [4, 7], [8, 4], [9], [9], [10, 11, 9, 9], [12, 9], [9, 13], [14, 12], [15], [15], [16, 17, 15], [15, 18], [19, 15], [20], [20], [22, 20], [20], [24, 20], [21, 23, 25, 20, 20], [20], [20], [28, 20], [20], [30, 20], [27, 29, 31, 26, 20], [26, 32, 20], [20, 33]])
def l3_5 : List Nat := [0, 0, 3, 7, 15, 31, 31, 127, 255, 511, 1023, 1023, 4095, 8191, 16383, 32767, 65535, 65535, 262143, 524287, 1048575, 2097151, 2097151, 6291455, 2097151, 18874367, 67108863, 2097151, 2097151, 270532607, 2097151, 1075838975, 4294967295, 8589934591, 17179869183]
theorem cd3_5 : dOk d3_5 g3_5 l3_5 = true := by kernel_rfl
def g3_6 : List G := [⟨(some 6), .mv (.c (.bool false)), none⟩]
def d3_6 : Option (List (List Nat)) := none
def g3_7 : List G := [⟨(some 15), .mv (.c (.int .i64 (0))), none⟩]
def d3_7 : Option (List (List Nat)) := none
def l3_7 : List Nat := []
theorem cd3_7 : dOk d3_7 g3_7 l3_7 = true := by kernel_rfl
def g3_8 : List G := [⟨(some 86), .mv (.t 15), none⟩,
  ⟨(some 87), .fa 2 6 (.t 3), none⟩,
  ⟨(some 88), .ld none (.t 87), none⟩,
  ⟨(some 89), .len (.t 88), none⟩,
  ⟨(some 90), .bin .lss (.t 86) (.t 89), none⟩,
  ⟨(some 91), .mv (.t 90), none⟩,
  ⟨(some 92), .mv (.t 15), some (91, true)⟩,
  ⟨(some 93), .bin .lss (.t 92) (.c (.int .i64 (3))), some (91, true)⟩,
  ⟨(some 94), .pick (.t 91) (.t 93) (.c (.bool false)), none⟩]
def d3_8 : Option (List (List Nat)) := none
def l3_8 : List Nat := []
theorem cd3_8 : dOk d3_8 g3_8 l3_8 = true := by kernel_rfl
def g3_9 : List G := [⟨(some 98), .fa 0 0 (.t 3), none⟩,
  ⟨(some 99), .ld (some 5) (.t 98), none⟩,
  ⟨(some 100), .fa 2 6 (.t 3), none⟩,
  ⟨(some 101), .ld none (.t 100), none⟩,
  ⟨(some 102), .mv (.t 15), none⟩,
  ⟨(some 103), .is 7 (.t 101) (.t 102), none⟩,
  ⟨(some 104), .fa 1 1 (.t 103), none⟩,
  ⟨(some 105), .ld (some 6) (.t 104), none⟩,
  ⟨(some 106), .mv (.t 2), none⟩,
  ⟨(some 107), .call 19 [(.t 99), (.t 105), (.t 106)], none⟩,
  ⟨(some 97), .mv (.t 107), none⟩,
  ⟨(some 108), .ext (.t 97) 0, none⟩,
  ⟨(some 109), .ext (.t 97) 1, none⟩,
  ⟨(some 16), .alloc (.agg [.int .i64 (0), .int .i64 (0), .int .i64 (0), .int .i64 (0), .int .i64 (0), .int .i64 (0)]), none⟩,
  ⟨none, .st (some 6) (.t 16) (.t 108), none⟩,
  ⟨(some 17), .mv (.t 109), none⟩]
def d3_9 : Option (List (List Nat)) := (some [[], [0], [], [2], [], [3, 4], [5], [6], [], [1, 7, 8], [9], [10], [10], [], [13, 11, 9, 0, 1, 2, 3, 4, 5, 6, 7, 8, 9, 10, 11, 13], [12, 14, 0, 1, 2, 3, 4, 5, 6, 7, 8, 9, 10, 11, 12, 13, 14]])
def l3_9 : List Nat := [0, 1, 0, 4, 0, 28, 60, 124, 0, 511, 1023, 2047, 2047, 0, 12287, 32767]
theorem cd3_9 : dOk d3_9 g3_9 l3_9 = true := by kernel_rfl
def g3_10 : List G := [⟨(some 111), .fa 0 0 (.t 3), none⟩,
  ⟨(some 112), .ld (some 5) (.t 111), none⟩,
  ⟨(some 113), .fa 2 6 (.t 3), none⟩,
  ⟨(some 114), .ld none (.t 113), none⟩,
  ⟨(some 115), .mv (.t 15), none⟩,
  ⟨(some 116), .is 7 (.t 114) (.t 115), none⟩,
  ⟨(some 117), .fa 1 1 (.t 116), none⟩,
  ⟨(some 118), .ld (some 6) (.t 117), none⟩,
  ⟨(some 119), .mv (.t 2), none⟩,
  ⟨(some 120), .call 20 [(.t 112), (.t 118), (.t 119)], none⟩,
  ⟨(some 110), .mv (.t 120), none⟩,
  ⟨(some 121), .ext (.t 110) 0, none⟩,
  ⟨(some 122), .ext (.t 110) 1, none⟩,
  ⟨(some 18), .alloc (.agg [.int .i64 (0), .int .i64 (0), .int .i64 (0), .int .i64 (0), .int .i64 (0), .int .i64 (0)]), none⟩,
  ⟨none, .st (some 6) (.t 18) (.t 121), none⟩,
  ⟨(some 19), .mv (.t 122), none⟩]
def d3_10 : Option (List (List Nat)) := (some [[], [0], [], [2], [], [3, 4], [5], [6], [], [1, 7, 8], [9], [10], [10], [], [13, 11, 9, 0, 1, 2, 3, 4, 5, 6, 7, 8, 9, 10, 11, 13], [12, 14, 0, 1, 2, 3, 4, 5, 6, 7, 8, 9, 10, 11, 12, 13, 14]])
def l3_10 : List Nat := [0, 1, 0, 4, 0, 28, 60, 124, 0, 511, 1023, 2047, 2047, 0, 12287, 32767]
theorem cd3_10 : dOk d3_10 g3_10 l3_10 = true := by kernel_rfl
def g3_11 : List G := [⟨(some 123), .ld (some 6) (.t 16), none⟩,
  ⟨(some 124), .ld (some 6) (.t 18), none⟩,
  ⟨(some 125), .eqv (.ar 6 (.i .i64)) true (.t 123) (.t 124), none⟩,
  ⟨(some 126), .mv (.t 125), none⟩,
  ⟨(some 127), .mv (.t 17), some (126, false)⟩,
  ⟨(some 128), .mv (.t 19), some (126, false)⟩,
  ⟨(some 129), .bin .neq (.t 127) (.t 128), some (126, false)⟩,
  ⟨(some 130), .pick (.t 126) (.c (.bool true)) (.t 129), none⟩]
def d3_11 : Option (List (List Nat)) := none
def l3_11 : List Nat := []
theorem cd3_11 : dOk d3_11 g3_11 l3_11 = true := by kernel_rfl
def g3_12 : List G := [⟨(some 6), .mv (.c (.bool false)), none⟩]
def d3_12 : Option (List (List Nat)) := none
def g3_13 : List G := [⟨(some 95), .mv (.t 15), none⟩,
  ⟨(some 96), .bin .add (.t 95) (.c (.int .i64 (1))), none⟩,
  ⟨(some 15), .mv (.t 96), none⟩]
def d3_13 : Option (List (List Nat)) := none
def l3_13 : List Nat := []
theorem cd3_13 : dOk d3_13 g3_13 l3_13 = true := by kernel_rfl
def g3_14 : List G := [⟨(some 131), .call 21 [], none⟩,
  ⟨(some 6), .mv (.t 131), none⟩]
def d3_14 : Option (List (List Nat)) := none
def l3_14 : List Nat := []
theorem cd3_14 : dOk d3_14 g3_14 l3_14 = true := by kernel_rfl
def c3 : AC := (.seq (.reg d3_0 g3_0) (.seq (.reg d3_1 g3_1) (.seq (.reg d3_2 g3_2) (.seq (.reg d3_3 g3_3) (.seq (.reg d3_4 g3_4) (.seq (.seq (.reg d3_5 g3_5) (.cond (.t 85) (.seq (.reg d3_6 g3_6) .ret) .skip)) (.seq (.seq (.reg d3_7 g3_7) (.block 0 (.loop (.seq (.seq (.reg d3_8 g3_8) (.cond (.t 94) .skip (.exit 0))) (.seq (.block 1 (.seq (.reg d3_9 g3_9) (.seq (.reg d3_10 g3_10) (.seq (.reg d3_11 g3_11) (.cond (.t 130) (.seq (.reg d3_12 g3_12) .ret) .skip))))) (.reg d3_13 g3_13)))))) (.seq (.reg d3_14 g3_14) .ret))))))))
def r3 : List RV := [.tmp 6]
theorem cc3 : (Try.f3.body.bind (cCode Try.prog Try.f3.ntmps)) = some c3 := by kernel_rfl
theorem cr3 : cRes Try.prog Try.f3.results.toList = some r3 := by kernel_rfl
theorem ca3 : callable Try.prog 3 = true := by kernel_rfl
def g4_0 : List G := [⟨(some 4), .box (.t 1), none⟩,
  ⟨(some 6), .mv (.c (.bool false)), none⟩]
def d4_0 : Option (List (List Nat)) := none
def g4_1 : List G := [⟨(some 25), .mv (.t 0), none⟩,
  ⟨(some 26), .call 22 [(.t 25)], none⟩,
  ⟨(some 7), .alloc (.agg [.agg [.int .i64 (0), .int .i64 (0), .int .i64 (0), .int .i64 (0), .int .i64 (0)], .int .i64 (0), .nils 7]), none⟩,
  ⟨none, .st (some 7) (.t 7) (.t 26), none⟩]
def d4_1 : Option (List (List Nat)) := none
def g4_2 : List G := [⟨(some 27), .fa 2 6 (.t 7), none⟩,
  ⟨(some 28), .ld none (.t 27), none⟩,
  ⟨(some 29), .len (.t 28), none⟩,
  ⟨(some 30), .bin .eql (.t 29) (.c (.int .i64 (0))), none⟩]
def d4_2 : Option (List (List Nat)) := none
def g4_3 : List G := [⟨(some 31), .call 21 [], none⟩,
  ⟨(some 6), .mv (.t 31), none⟩]
def d4_3 : Option (List (List Nat)) := none
def g4_4 : List G := [⟨(some 32), .fa 2 6 (.t 7), none⟩,
  ⟨(some 33), .ld none (.t 32), none⟩,
  ⟨(some 34), .ia 2 1 (.t 4) (.c (.int .i64 (0))), none⟩,
  ⟨(some 35), .ld none (.t 34), none⟩,
  ⟨(some 36), .fa 2 6 (.t 7), none⟩,
  ⟨(some 37), .ld none (.t 36), none⟩,
  ⟨(some 38), .len (.t 37), none⟩,
  ⟨(some 39), .call 23 [(.t 35), (.t 38)], none⟩,
  ⟨(some 40), .is 7 (.t 33) (.t 39), none⟩,
  ⟨(some 41), .ld (some 7) (.t 40), none⟩,
  ⟨(some 8), .alloc (.agg [.int .i64 (0), .agg [.int .i64 (0), .int .i64 (0), .int .i64 (0), .int .i64 (0), .int .i64 (0), .int .i64 (0)]]), none⟩,
  ⟨none, .st (some 7) (.t 8) (.t 41), none⟩]
def d4_4 : Option (List (List Nat)) := (some [[], [0], [], [2], [], [4], [5], [3, 6], [1, 7], [8], [], [10, 9, 7, 0, 1, 2, 3, 4, 5, 6, 7, 8, 9, 10]])
def g4_5 : List G := [⟨(some 42), .ld (some 7) (.t 7), none⟩,
  ⟨(some 43), .fa 1 1 (.t 8), none⟩,
  ⟨(some 44), .ld (some 6) (.t 43), none⟩,
  ⟨(some 45), .mv (.t 2), none⟩,
  ⟨(some 46), .call 24 [(.t 42), (.t 44), (.t 45)], none⟩,
  ⟨(some 9), .alloc (.agg [.int .i64 (0), .int .i64 (0), .int .i64 (0), .int .i64 (0), .int .i64 (0), .int .i64 (0)]), none⟩,
  ⟨none, .st (some 6) (.t 9) (.t 46), none⟩]
def d4_5 : Option (List (List Nat)) := none
def g4_6 : List G := [⟨(some 10), .mv (.c (.int .i64 (0))), none⟩]
def d4_6 : Option (List (List Nat)) := none
def g4_7 : List G := [⟨(some 47), .mv (.t 10), none⟩,
  ⟨(some 48), .bin .lss (.t 47) (.c (.int .i64 (3))), none⟩]
def d4_7 : Option (List (List Nat)) := none
def g4_8 : List G := [⟨(some 51), .mv (.t 2), none⟩,
  ⟨(some 52), .mv (.t 10), none⟩,
  ⟨(some 53), .call 25 [(.t 51), (.t 52)], none⟩,
  ⟨(some 54), .call 23 [(.t 53), (.c (.int .i64 (6)))], none⟩,
  ⟨(some 55), .ia 6 1 (.t 9) (.t 54), none⟩,
  ⟨none, .st none (.t 55) (.c (.int .i64 (31))), none⟩]
def d4_8 : Option (List (List Nat)) := none
def g4_9 : List G := [⟨(some 49), .mv (.t 10), none⟩,
  ⟨(some 50), .bin .add (.t 49) (.c (.int .i64 (1))), none⟩,
  ⟨(some 10), .mv (.t 50), none⟩]
def d4_9 : Option (List (List Nat)) := none
def g4_10 : List G := [⟨(some 57), .ld (some 7) (.t 7), none⟩,
  ⟨(some 58), .ld (some 6) (.t 9), none⟩,
  ⟨(some 59), .call 12 [(.t 57), (.t 58)], none⟩,
  ⟨(some 56), .mv (.t 59), none⟩,
  ⟨(some 60), .ext (.t 56) 0, none⟩,
  ⟨(some 61), .ext (.t 56) 1, none⟩,
  ⟨(some 11), .mv (.t 60), none⟩,
  ⟨(some 12), .mv (.t 61), none⟩]
def d4_10 : Option (List (List Nat)) := none
def g4_11 : List G := [⟨(some 63), .fa 0 0 (.t 7), none⟩,
  ⟨(some 64), .ld (some 5) (.t 63), none⟩,
  ⟨(some 65), .fa 1 1 (.t 8), none⟩,
  ⟨(some 66), .ld (some 6) (.t 65), none⟩,
  ⟨(some 67), .mv (.t 2), none⟩,
  ⟨(some 68), .call 19 [(.t 64), (.t 66), (.t 67)], none⟩,
  ⟨(some 62), .mv (.t 68), none⟩,
  ⟨(some 69), .ext (.t 62) 0, none⟩,
  ⟨(some 70), .ext (.t 62) 1, none⟩,
  ⟨(some 13), .alloc (.agg [.int .i64 (0), .int .i64 (0), .int .i64 (0), .int .i64 (0), .int .i64 (0), .int .i64 (0)]), none⟩,
  ⟨none, .st (some 6) (.t 13) (.t 69), none⟩,
  ⟨(some 14), .mv (.t 70), none⟩]
def d4_11 : Option (List (List Nat)) := none
def g4_12 : List G := [⟨(some 71), .mv (.t 12), none⟩,
  ⟨(some 72), .bin .neq (.t 71) (.c (.int .i64 (0))), none⟩,
  ⟨(some 73), .mv (.t 72), none⟩,
  ⟨(some 74), .mv (.t 14), some (73, false)⟩,
  ⟨(some 75), .bin .neq (.t 74) (.c (.int .i64 (0))), some (73, false)⟩,
  ⟨(some 76), .pick (.t 73) (.c (.bool true)) (.t 75), none⟩,
  ⟨(some 77), .mv (.t 76), none⟩,
  ⟨(some 78), .ld (some 7) (.t 7), some (77, false)⟩,
  ⟨(some 79), .ld (some 6) (.t 9), some (77, false)⟩,
  ⟨(some 80), .mv (.t 11), some (77, false)⟩,
  ⟨(some 81), .call 17 [(.t 78), (.t 79), (.t 80)], some (77, false)⟩,
  ⟨(some 82), .bin .neq (.t 81) (.c (.int .i64 (0))), some (77, false)⟩,
  ⟨(some 83), .pick (.t 77) (.c (.bool true)) (.t 82), none⟩]
def d4_12 : Option (List (List Nat)) := none
def g4_13 : List G := [⟨(some 6), .mv (.c (.bool false)), none⟩]
def d4_13 : Option (List (List Nat)) := none
def g4_14 : List G := [⟨(some 15), .mv (.c (.nils 1)), none⟩]
def d4_14 : Option (List (List Nat)) := none
def g4_15 : List G := [⟨(some 16), .mv (.c (.int .i64 (0))), none⟩]
def d4_15 : Option (List (List Nat)) := none
def g4_16 : List G := [⟨(some 84), .mv (.t 16), none⟩,
  ⟨(some 85), .bin .lss (.t 84) (.c (.int .i64 (6))), none⟩]
def d4_16 : Option (List (List Nat)) := none
def g4_17 : List G := [⟨(some 88), .ia 2 1 (.t 4) (.c (.int .i64 (1))), none⟩,
  ⟨(some 89), .ld none (.t 88), none⟩,
  ⟨(some 90), .call 23 [(.t 89), (.c (.int .i64 (64)))], none⟩,
  ⟨(some 91), .mv (.t 16), none⟩,
  ⟨(some 92), .bin .shl (.c (.int .i64 (1))) (.t 91), none⟩,
  ⟨(some 93), .bin .and (.t 90) (.t 92), none⟩,
  ⟨(some 94), .bin .neq (.t 93) (.c (.int .i64 (0))), none⟩]
def d4_17 : Option (List (List Nat)) := (some [[], [0], [1], [], [3], [2, 4], [5]])
def g4_18 : List G := [⟨(some 95), .mv (.t 15), none⟩,
  ⟨(some 96), .mv (.t 16), none⟩,
  ⟨(some 97), .bs 1 [(.t 96)], none⟩,
  ⟨(some 98), .app 3 1 8 (.int .i64 (0)) (.t 95) (.t 97), none⟩,
  ⟨(some 15), .mv (.t 98), none⟩]
def d4_18 : Option (List (List Nat)) := none
def g4_19 : List G := [⟨(some 86), .mv (.t 16), none⟩,
  ⟨(some 87), .bin .add (.t 86) (.c (.int .i64 (1))), none⟩,
  ⟨(some 16), .mv (.t 87), none⟩]
def d4_19 : Option (List (List Nat)) := none
def g4_20 : List G := [⟨(some 99), .mv (.t 15), none⟩,
  ⟨(some 100), .len (.t 99), none⟩,
  ⟨(some 101), .mv (.t 11), none⟩,
  ⟨(some 102), .len (.t 101), none⟩,
  ⟨(some 103), .bin .lss (.t 100) (.t 102), none⟩,
  ⟨(some 104), .mv (.t 103), none⟩,
  ⟨(some 105), .ld (some 7) (.t 7), some (104, true)⟩,
  ⟨(some 106), .ld (some 6) (.t 9), some (104, true)⟩,
  ⟨(some 107), .mv (.t 15), some (104, true)⟩,
  ⟨(some 108), .call 17 [(.t 105), (.t 106), (.t 107)], some (104, true)⟩,
  ⟨(some 109), .bin .neq (.t 108) (.c (.int .i64 (18))), some (104, true)⟩,
  ⟨(some 110), .pick (.t 104) (.t 109) (.c (.bool false)), none⟩]
def d4_20 : Option (List (List Nat)) := none
def g4_21 : List G := [⟨(some 6), .mv (.c (.bool false)), none⟩]
def d4_21 : Option (List (List Nat)) := none
def g4_22 : List G := [⟨(some 112), .ld (some 7) (.t 7), none⟩,
  ⟨(some 113), .ld (some 6) (.t 9), none⟩,
  ⟨(some 114), .call 26 [(.t 112), (.t 113)], none⟩,
  ⟨(some 111), .mv (.t 114), none⟩,
  ⟨(some 115), .ext (.t 111) 0, none⟩,
  ⟨(some 116), .ext (.t 111) 1, none⟩,
  ⟨(some 17), .mv (.t 115), none⟩,
  ⟨(some 18), .mv (.t 116), none⟩]
def d4_22 : Option (List (List Nat)) := none
def g4_23 : List G := [⟨(some 118), .ld (some 7) (.t 7), none⟩,
  ⟨(some 119), .ld (some 6) (.t 9), none⟩,
  ⟨(some 120), .ld (some 6) (.t 13), none⟩,
  ⟨(some 121), .mv (.t 11), none⟩,
  ⟨(some 122), .call 14 [(.t 118), (.t 119), (.t 120), (.t 121)], none⟩,
  ⟨(some 117), .mv (.t 122), none⟩,
  ⟨(some 123), .ext (.t 117) 0, none⟩,
  ⟨(some 124), .ext (.t 117) 1, none⟩,
  ⟨(some 19), .mv (.t 123), none⟩,
  ⟨(some 20), .mv (.t 124), none⟩]
def d4_23 : Option (List (List Nat)) := none
def g4_24 : List G := [⟨(some 125), .ld (some 6) (.t 13), none⟩,
  ⟨(some 21), .alloc (.agg [.int .i64 (0), .int .i64 (0), .int .i64 (0), .int .i64 (0), .int .i64 (0), .int .i64 (0)]), none⟩,
  ⟨none, .st (some 6) (.t 21) (.t 125), none⟩]
def d4_24 : Option (List (List Nat)) := none
def g4_25 : List G := [⟨(some 22), .mv (.c (.int .i64 (0))), none⟩]
def d4_25 : Option (List (List Nat)) := none
def g4_26 : List G := [⟨(some 126), .mv (.t 22), none⟩,
  ⟨(some 127), .bin .lss (.t 126) (.c (.int .i64 (6))), none⟩]
def d4_26 : Option (List (List Nat)) := none
def g4_27 : List G := [⟨(some 130), .mv (.t 22), none⟩,
  ⟨(some 131), .mv (.t 22), none⟩,
  ⟨(some 132), .ia 6 1 (.t 21) (.t 131), none⟩,
  ⟨(some 133), .ld none (.t 132), none⟩,
  ⟨(some 134), .mv (.t 2), none⟩,
  ⟨(some 135), .mv (.t 22), none⟩,
  ⟨(some 136), .bin .add (.t 135) (.c (.int .i64 (1))), none⟩,
  ⟨(some 137), .call 25 [(.t 134), (.t 136)], none⟩,
  ⟨(some 138), .call 23 [(.t 137), (.c (.int .i64 (32)))], none⟩,
  ⟨(some 139), .bin .or (.t 133) (.t 138), none⟩,
  ⟨(some 140), .ia 6 1 (.t 21) (.t 130), none⟩,
  ⟨none, .st none (.t 140) (.t 139), none⟩]
def d4_27 : Option (List (List Nat)) := (some [[], [], [1], [2], [], [], [5], [4, 6], [7, 7], [3, 8], [0, 0, 1, 2, 3, 4, 5, 6, 7, 8, 9], [10, 9, 8, 0, 1, 2, 3, 4, 5, 6, 7, 8, 9]])
def g4_28 : List G := [⟨(some 128), .mv (.t 22), none⟩,
  ⟨(some 129), .bin .add (.t 128) (.c (.int .i64 (1))), none⟩,
  ⟨(some 22), .mv (.t 129), none⟩]
def d4_28 : Option (List (List Nat)) := none
def g4_29 : List G := [⟨(some 142), .ld (some 7) (.t 7), none⟩,
  ⟨(some 143), .ld (some 6) (.t 9), none⟩,
  ⟨(some 144), .ld (some 6) (.t 21), none⟩,
  ⟨(some 145), .mv (.t 11), none⟩,
  ⟨(some 146), .call 14 [(.t 142), (.t 143), (.t 144), (.t 145)], none⟩,
  ⟨(some 141), .mv (.t 146), none⟩,
  ⟨(some 147), .ext (.t 141) 0, none⟩,
  ⟨(some 148), .ext (.t 141) 1, none⟩,
  ⟨(some 23), .mv (.t 147), none⟩,
  ⟨(some 24), .mv (.t 148), none⟩]
def d4_29 : Option (List (List Nat)) := none
def g4_30 : List G := [⟨(some 149), .mv (.t 18), none⟩,
  ⟨(some 150), .bin .neq (.t 149) (.c (.int .i64 (0))), none⟩,
  ⟨(some 151), .mv (.t 150), none⟩,
  ⟨(some 152), .mv (.t 20), some (151, false)⟩,
  ⟨(some 153), .bin .neq (.t 152) (.c (.int .i64 (0))), some (151, false)⟩,
  ⟨(some 154), .pick (.t 151) (.c (.bool true)) (.t 153), none⟩,
  ⟨(some 155), .mv (.t 154), none⟩,
  ⟨(some 156), .mv (.t 24), some (155, false)⟩,
  ⟨(some 157), .bin .neq (.t 156) (.c (.int .i64 (0))), some (155, false)⟩,
  ⟨(some 158), .pick (.t 155) (.c (.bool true)) (.t 157), none⟩,
  ⟨(some 159), .mv (.t 158), none⟩,
  ⟨(some 160), .mv (.t 23), some (159, false)⟩,
  ⟨(some 161), .fa 0 0 (.t 8), some (159, false)⟩,
  ⟨(some 162), .ld none (.t 161), some (159, false)⟩,
  ⟨(some 163), .call 27 [(.t 160), (.t 162)], some (159, false)⟩,
  ⟨(some 164), .un .not (.t 163), some (159, false)⟩,
  ⟨(some 165), .pick (.t 159) (.c (.bool true)) (.t 164), none⟩]
def d4_30 : Option (List (List Nat)) := none
def g4_31 : List G := [⟨(some 6), .mv (.c (.bool false)), none⟩]
def d4_31 : Option (List (List Nat)) := none
def g4_32 : List G := [⟨(some 166), .mv (.t 17), none⟩,
  ⟨(some 167), .len (.t 166), none⟩,
  ⟨(some 168), .bin .gtr (.t 167) (.c (.int .i64 (1))), none⟩]
def d4_32 : Option (List (List Nat)) := none
def g4_33 : List G := [⟨(some 169), .mv (.t 19), none⟩,
  ⟨(some 170), .fa 0 0 (.t 8), none⟩,
  ⟨(some 171), .ld none (.t 170), none⟩,
  ⟨(some 172), .bs 1 [(.t 171)], none⟩,
  ⟨(some 173), .call 16 [(.t 169), (.t 172)], none⟩,
  ⟨(some 174), .mv (.t 173), none⟩,
  ⟨(some 175), .call 21 [], some (174, true)⟩,
  ⟨(some 176), .pick (.t 174) (.t 175) (.c (.bool false)), none⟩,
  ⟨(some 6), .mv (.t 176), none⟩]
def d4_33 : Option (List (List Nat)) := none
def g4_34 : List G := [⟨(some 177), .mv (.t 19), none⟩,
  ⟨(some 178), .mv (.t 17), none⟩,
  ⟨(some 179), .call 16 [(.t 177), (.t 178)], none⟩,
  ⟨(some 180), .mv (.t 179), none⟩,
  ⟨(some 181), .call 21 [], some (180, true)⟩,
  ⟨(some 182), .pick (.t 180) (.t 181) (.c (.bool false)), none⟩,
  ⟨(some 6), .mv (.t 182), none⟩]
def d4_34 : Option (List (List Nat)) := none
def c4 : AC := (.seq (.reg d4_0 g4_0) (.seq (.reg d4_1 g4_1) (.seq (.seq (.reg d4_2 g4_2) (.cond (.t 30) (.seq (.reg d4_3 g4_3) .ret) .skip)) (.seq (.reg d4_4 g4_4) (.seq (.reg d4_5 g4_5) (.seq (.seq (.reg d4_6 g4_6) (.block 0 (.loop (.seq (.seq (.reg d4_7 g4_7) (.cond (.t 48) .skip (.exit 0))) (.seq (.block 1 (.reg d4_8 g4_8)) (.reg d4_9 g4_9)))))) (.seq (.reg d4_10 g4_10) (.seq (.reg d4_11 g4_11) (.seq (.seq (.reg d4_12 g4_12) (.cond (.t 83) (.seq (.reg d4_13 g4_13) .ret) .skip)) (.seq (.reg d4_14 g4_14) (.seq (.seq (.reg d4_15 g4_15) (.block 2 (.loop (.seq (.seq (.reg d4_16 g4_16) (.cond (.t 85) .skip (.exit 2))) (.seq (.block 3 (.seq (.reg d4_17 g4_17) (.cond (.t 94) (.reg d4_18 g4_18) .skip))) (.reg d4_19 g4_19)))))) (.seq (.seq (.reg d4_20 g4_20) (.cond (.t 110) (.seq (.reg d4_21 g4_21) .ret) .skip)) (.seq (.reg d4_22 g4_22) (.seq (.reg d4_23 g4_23) (.seq (.reg d4_24 g4_24) (.seq (.seq (.reg d4_25 g4_25) (.block 4 (.loop (.seq (.seq (.reg d4_26 g4_26) (.cond (.t 127) .skip (.exit 4))) (.seq (.block 5 (.reg d4_27 g4_27)) (.reg d4_28 g4_28)))))) (.seq (.reg d4_29 g4_29) (.seq (.seq (.reg d4_30 g4_30) (.cond (.t 165) (.seq (.reg d4_31 g4_31) .ret) .skip)) (.seq (.seq (.reg d4_32 g4_32) (.cond (.t 168) (.seq (.reg d4_33 g4_33) .ret) .skip)) (.seq (.reg d4_34 g4_34) .ret))))))))))))))))))))
def g5_0 : List G := [⟨(some 3), .box (.t 0), none⟩,
  ⟨(some 4), .box (.t 1), none⟩,
  ⟨(some 6), .mv (.c (.bool false)), none⟩]
def d5_0 : Option (List (List Nat)) := none
def g5_1 : List G := [⟨(some 20), .ld (some 7) (.t 3), none⟩,
  ⟨(some 21), .ld (some 6) (.t 4), none⟩,
  ⟨(some 22), .call 26 [(.t 20), (.t 21)], none⟩,
  ⟨(some 19), .mv (.t 22), none⟩,
  ⟨(some 23), .ext (.t 19) 0, none⟩,
  ⟨(some 24), .ext (.t 19) 1, none⟩,
  ⟨(some 7), .mv (.t 23), none⟩,
  ⟨(some 8), .mv (.t 24), none⟩]
def d5_1 : Option (List (List Nat)) := none
def g5_2 : List G := [⟨(some 26), .ld (some 7) (.t 3), none⟩,
  ⟨(some 27), .ld (some 6) (.t 4), none⟩,
  ⟨(some 28), .call 28 [(.t 26), (.t 27)], none⟩,
  ⟨(some 25), .mv (.t 28), none⟩,
  ⟨(some 29), .ext (.t 25) 0, none⟩,
  ⟨(some 30), .ext (.t 25) 1, none⟩,
  ⟨(some 9), .mv (.t 29), none⟩,
  ⟨(some 10), .mv (.t 30), none⟩]
def d5_2 : Option (List (List Nat)) := none
def g5_3 : List G := [⟨(some 32), .ld (some 7) (.t 3), none⟩,
  ⟨(some 33), .ld (some 6) (.t 4), none⟩,
  ⟨(some 34), .call 29 [(.t 32), (.t 33)], none⟩,
  ⟨(some 31), .mv (.t 34), none⟩,
  ⟨(some 35), .ext (.t 31) 0, none⟩,
  ⟨(some 36), .ext (.t 31) 1, none⟩,
  ⟨(some 11), .mv (.t 35), none⟩,
  ⟨(some 12), .mv (.t 36), none⟩]
def d5_3 : Option (List (List Nat)) := none
def g5_4 : List G := [⟨(some 38), .ld (some 7) (.t 3), none⟩,
  ⟨(some 39), .ld (some 6) (.t 4), none⟩,
  ⟨(some 40), .call 30 [(.t 38), (.t 39)], none⟩,
  ⟨(some 37), .mv (.t 40), none⟩,
  ⟨(some 41), .ext (.t 37) 0, none⟩,
  ⟨(some 42), .ext (.t 37) 1, none⟩,
  ⟨(some 13), .mv (.t 41), none⟩,
  ⟨(some 14), .mv (.t 42), none⟩]
def d5_4 : Option (List (List Nat)) := none
def g5_5 : List G := [⟨(some 44), .ld (some 7) (.t 3), none⟩,
  ⟨(some 45), .mv (.t 2), none⟩,
  ⟨(some 46), .call 31 [(.t 44), (.t 45)], none⟩,
  ⟨(some 43), .mv (.t 46), none⟩,
  ⟨(some 47), .ext (.t 43) 0, none⟩,
  ⟨(some 48), .ext (.t 43) 1, none⟩,
  ⟨(some 15), .mv (.t 47), none⟩,
  ⟨(some 16), .mv (.t 48), none⟩]
def d5_5 : Option (List (List Nat)) := none
def g5_6 : List G := [⟨(some 50), .ld (some 7) (.t 3), none⟩,
  ⟨(some 51), .mv (.t 2), none⟩,
  ⟨(some 52), .call 32 [(.t 50), (.t 51)], none⟩,
  ⟨(some 49), .mv (.t 52), none⟩,
  ⟨(some 53), .ext (.t 49) 0, none⟩,
  ⟨(some 54), .ext (.t 49) 1, none⟩,
  ⟨(some 17), .mv (.t 53), none⟩,
  ⟨(some 18), .mv (.t 54), none⟩]
def d5_6 : Option (List (List Nat)) := none
def g5_7 : List G := [⟨(some 55), .mv (.t 7), none⟩,
  ⟨(some 56), .mv (.t 9), none⟩,
  ⟨(some 57), .call 16 [(.t 55), (.t 56)], none⟩,
  ⟨(some 58), .mv (.t 57), none⟩,
  ⟨(some 59), .mv (.t 8), some (58, true)⟩,
  ⟨(some 60), .mv (.t 10), some (58, true)⟩,
  ⟨(some 61), .bin .eql (.t 59) (.t 60), some (58, true)⟩,
  ⟨(some 62), .pick (.t 58) (.t 61) (.c (.bool false)), none⟩,
  ⟨(some 63), .mv (.t 62), none⟩,
  ⟨(some 64), .mv (.t 11), some (63, true)⟩,
  ⟨(some 65), .mv (.t 13), some (63, true)⟩,
  ⟨(some 66), .bin .eql (.t 64) (.t 65), some (63, true)⟩,
  ⟨(some 67), .pick (.t 63) (.t 66) (.c (.bool false)), none⟩,
  ⟨(some 68), .mv (.t 67), none⟩,
  ⟨(some 69), .mv (.t 12), some (68, true)⟩,
  ⟨(some 70), .mv (.t 14), some (68, true)⟩,
  ⟨(some 71), .bin .eql (.t 69) (.t 70), some (68, true)⟩,
  ⟨(some 72), .pick (.t 68) (.t 71) (.c (.bool false)), none⟩,
  ⟨(some 73), .mv (.t 72), none⟩,
  ⟨(some 74), .mv (.t 15), some (73, true)⟩,
  ⟨(some 75), .mv (.t 17), some (73, true)⟩,
  ⟨(some 76), .call 16 [(.t 74), (.t 75)], some (73, true)⟩,
  ⟨(some 77), .pick (.t 73) (.t 76) (.c (.bool false)), none⟩,
  ⟨(some 78), .mv (.t 77), none⟩,
  ⟨(some 79), .mv (.t 16), some (78, true)⟩,
  ⟨(some 80), .mv (.t 18), some (78, true)⟩,
  ⟨(some 81), .bin .eql (.t 79) (.t 80), some (78, true)⟩,
  ⟨(some 82), .pick (.t 78) (.t 81) (.c (.bool false)), none⟩,
  ⟨(some 83), .mv (.t 82), none⟩,
  ⟨(some 84), .call 21 [], some (83, true)⟩,
  ⟨(some 85), .pick (.t 83) (.t 84) (.c (.bool false)), none⟩,
  ⟨(some 6), .mv (.t 85), none⟩]
def d5_7 : Option (List (List Nat)) := none
def c5 : AC := (.seq (.reg d5_0 g5_0) (.seq (.reg d5_1 g5_1) (.seq (.reg d5_2 g5_2) (.seq (.reg d5_3 g5_3) (.seq (.reg d5_4 g5_4) (.seq (.reg d5_5 g5_5) (.seq (.reg d5_6 g5_6) (.seq (.reg d5_7 g5_7) .ret))))))))
def g12_0 : List G := [⟨(some 2), .box (.t 0), none⟩,
  ⟨(some 3), .box (.t 1), none⟩,
  ⟨(some 4), .mv (.c (.nils 1)), none⟩,
  ⟨(some 5), .mv (.c (.int .i64 (0))), none⟩]
def d12_0 : Option (List (List Nat)) := none
def l12_0 : List Nat := []
theorem cd12_0 : dOk d12_0 g12_0 l12_0 = true := by kernel_rfl
def g12_1 : List G := [⟨(some 14), .ld (some 7) (.t 2), none⟩,
  ⟨(some 15), .call 47 [(.t 14)], none⟩,
  ⟨(some 16), .ld (some 6) (.t 3), none⟩,
  ⟨(some 17), .call 45 [(.t 16)], none⟩,
  ⟨(some 18), .bs 1 [(.t 15), (.t 17)], none⟩,
  ⟨(some 19), .call 64 [(.t 18)], none⟩,
  ⟨(some 6), .mv (.t 19), none⟩]
def d12_1 : Option (List (List Nat)) := (some [[], [0], [], [2, 1], [1, 3], [4, 3], [5, 5, 0, 1, 2, 3, 4, 5]])
def l12_1 : List Nat := [0, 1, 0, 7, 15, 31, 63]
theorem cd12_1 : dOk d12_1 g12_1 l12_1 = true := by kernel_rfl
def g12_2 : List G := [⟨(some 20), .mv (.t 6), none⟩,
  ⟨(some 21), .bin .neq (.t 20) (.c (.int .i64 (0))), none⟩]
def d12_2 : Option (List (List Nat)) := none
def l12_2 : List Nat := []
theorem cd12_2 : dOk d12_2 g12_2 l12_2 = true := by kernel_rfl
def g12_3 : List G := [⟨(some 22), .mv (.t 6), none⟩,
  ⟨(some 4), .mv (.c (.nils 1)), none⟩,
  ⟨(some 5), .mv (.t 22), none⟩]
def d12_3 : Option (List (List Nat)) := none
def l12_3 : List Nat := []
theorem cd12_3 : dOk d12_3 g12_3 l12_3 = true := by kernel_rfl
def g12_4 : List G := [⟨(some 23), .ld (some 7) (.t 2), none⟩,
  ⟨(some 24), .ld (some 6) (.t 3), none⟩,
  ⟨(some 25), .call 65 [(.t 23), (.t 24)], none⟩,
  ⟨(some 7), .mv (.t 25), none⟩]
def d12_4 : Option (List (List Nat)) := none
def l12_4 : List Nat := []
theorem cd12_4 : dOk d12_4 g12_4 l12_4 = true := by kernel_rfl
def g12_5 : List G := [⟨(some 8), .mv (.c (.nils 1)), none⟩]
def d12_5 : Option (List (List Nat)) := none
def l12_5 : List Nat := []
theorem cd12_5 : dOk d12_5 g12_5 l12_5 = true := by kernel_rfl
def g12_6 : List G := [⟨(some 9), .mv (.c (.bool false)), none⟩]
def d12_6 : Option (List (List Nat)) := none
def l12_6 : List Nat := []
theorem cd12_6 : dOk d12_6 g12_6 l12_6 = true := by kernel_rfl
def g12_7 : List G := [⟨(some 26), .mv (.c (.int .i64 (0))), none⟩]
def d12_7 : Option (List (List Nat)) := none
def l12_7 : List Nat := []
theorem cd12_7 : dOk d12_7 g12_7 l12_7 = true := by kernel_rfl
def g12_8 : List G := [⟨(some 27), .bin .lss (.t 26) (.c (.int .i64 (64))), none⟩]
def d12_8 : Option (List (List Nat)) := none
def l12_8 : List Nat := []
theorem cd12_8 : dOk d12_8 g12_8 l12_8 = true := by kernel_rfl
def g12_9 : List G := [⟨(some 28), .mv (.t 26), none⟩,
  ⟨(some 10), .mv (.t 28), none⟩]
def d12_9 : Option (List (List Nat)) := none
def l12_9 : List Nat := []
theorem cd12_9 : dOk d12_9 g12_9 l12_9 = true := by kernel_rfl
def g12_10 : List G := [⟨(some 11), .mv (.c (.nils 1)), none⟩]
def d12_10 : Option (List (List Nat)) := none
def l12_10 : List Nat := []
theorem cd12_10 : dOk d12_10 g12_10 l12_10 = true := by kernel_rfl
def g12_11 : List G := [⟨(some 29), .mv (.c (.int .i64 (0))), none⟩]
def d12_11 : Option (List (List Nat)) := none
def l12_11 : List Nat := []
theorem cd12_11 : dOk d12_11 g12_11 l12_11 = true := by kernel_rfl
def g12_12 : List G := [⟨(some 30), .bin .lss (.t 29) (.c (.int .i64 (6))), none⟩]
def d12_12 : Option (List (List Nat)) := none
def l12_12 : List Nat := []
theorem cd12_12 : dOk d12_12 g12_12 l12_12 = true := by kernel_rfl
def g12_13 : List G := [⟨(some 31), .mv (.t 29), none⟩,
  ⟨(some 12), .mv (.t 31), none⟩]
def d12_13 : Option (List (List Nat)) := none
def l12_13 : List Nat := []
theorem cd12_13 : dOk d12_13 g12_13 l12_13 = true := by kernel_rfl
def g12_14 : List G := [⟨(some 32), .mv (.t 10), none⟩,
  ⟨(some 33), .mv (.t 12), none⟩,
  ⟨(some 34), .bin .shr (.t 32) (.t 33), none⟩,
  ⟨(some 35), .bin .and (.t 34) (.c (.int .i64 (1))), none⟩,
  ⟨(some 36), .bin .eql (.t 35) (.c (.int .i64 (1))), none⟩]
def d12_14 : Option (List (List Nat)) := none
def l12_14 : List Nat := []
theorem cd12_14 : dOk d12_14 g12_14 l12_14 = true := by kernel_rfl
def g12_15 : List G := [⟨(some 37), .mv (.t 11), none⟩,
  ⟨(some 38), .mv (.t 12), none⟩,
  ⟨(some 39), .bs 1 [(.t 38)], none⟩,
  ⟨(some 40), .app 3 1 8 (.int .i64 (0)) (.t 37) (.t 39), none⟩,
  ⟨(some 11), .mv (.t 40), none⟩]
def d12_15 : Option (List (List Nat)) := none
def l12_15 : List Nat := []
theorem cd12_15 : dOk d12_15 g12_15 l12_15 = true := by kernel_rfl
def g12_16 : List G := [⟨(some 41), .bin .add (.t 29) (.c (.int .i64 (1))), none⟩,
  ⟨(some 29), .mv (.t 41), none⟩]
def d12_16 : Option (List (List Nat)) := none
def l12_16 : List Nat := []
theorem cd12_16 : dOk d12_16 g12_16 l12_16 = true := by kernel_rfl
def g12_17 : List G := [⟨(some 42), .mv (.t 9), none⟩,
  ⟨(some 43), .un .not (.t 42), none⟩,
  ⟨(some 44), .mv (.t 43), none⟩,
  ⟨(some 45), .mv (.t 11), some (44, false)⟩,
  ⟨(some 46), .len (.t 45), some (44, false)⟩,
  ⟨(some 47), .mv (.t 8), some (44, false)⟩,
  ⟨(some 48), .len (.t 47), some (44, false)⟩,
  ⟨(some 49), .bin .lss (.t 46) (.t 48), some (44, false)⟩,
  ⟨(some 50), .pick (.t 44) (.c (.bool true)) (.t 49), none⟩,
  ⟨(some 51), .mv (.t 50), none⟩,
  ⟨(some 52), .mv (.t 11), some (51, false)⟩,
  ⟨(some 53), .len (.t 52), some (51, false)⟩,
  ⟨(some 54), .mv (.t 8), some (51, false)⟩,
  ⟨(some 55), .len (.t 54), some (51, false)⟩,
  ⟨(some 56), .bin .eql (.t 53) (.t 55), some (51, false)⟩,
  ⟨(some 57), .mv (.t 56), some (51, false)⟩,
  ⟨(some 58), .mv (.t 11), some (57, true)⟩,
  ⟨(some 59), .mv (.t 8), some (57, true)⟩,
  ⟨(some 60), .call 66 [(.t 58), (.t 59)], some (57, true)⟩,
  ⟨(some 61), .bin .lss (.t 60) (.c (.int .i64 (0))), some (57, true)⟩,
  ⟨(some 62), .pick (.t 57) (.t 61) (.c (.bool false)), some (51, false)⟩,
  ⟨(some 63), .pick (.t 51) (.c (.bool true)) (.t 62), none⟩,
  ⟨(some 13), .mv (.t 63), none⟩]
def d12_17 : Option (List (List Nat)) := none
def l12_17 : List Nat := []
theorem cd12_17 : dOk d12_17 g12_17 l12_17 = true := by kernel_rfl
def g12_18 : List G := [⟨(some 64), .mv (.t 13), none⟩,
  ⟨(some 65), .mv (.t 64), none⟩,
  ⟨(some 66), .fa 0 0 (.t 2), some (65, true)⟩,
  ⟨(some 67), .ld (some 5) (.t 66), some (65, true)⟩,
  ⟨(some 68), .mv (.t 7), some (65, true)⟩,
  ⟨(some 69), .mv (.t 11), some (65, true)⟩,
  ⟨(some 70), .call 67 [(.t 67), (.t 68), (.t 69)], some (65, true)⟩,
  ⟨(some 71), .pick (.t 65) (.t 70) (.c (.bool false)), none⟩]
def d12_18 : Option (List (List Nat)) := none
def l12_18 : List Nat := []
theorem cd12_18 : dOk d12_18 g12_18 l12_18 = true := by kernel_rfl
def g12_19 : List G := [⟨(some 72), .mv (.t 11), none⟩,
  ⟨(some 8), .mv (.t 72), none⟩,
  ⟨(some 9), .mv (.c (.bool true)), none⟩]
def d12_19 : Option (List (List Nat)) := none
def l12_19 : List Nat := []
theorem cd12_19 : dOk d12_19 g12_19 l12_19 = true := by kernel_rfl
def g12_20 : List G := [⟨(some 73), .bin .add (.t 26) (.c (.int .i64 (1))), none⟩,
  ⟨(some 26), .mv (.t 73), none⟩]
def d12_20 : Option (List (List Nat)) := none
def l12_20 : List Nat := []
theorem cd12_20 : dOk d12_20 g12_20 l12_20 = true := by kernel_rfl
def g12_21 : List G := [⟨(some 74), .mv (.t 8), none⟩,
  ⟨(some 4), .mv (.t 74), none⟩,
  ⟨(some 5), .mv (.c (.int .i64 (0))), none⟩]
def d12_21 : Option (List (List Nat)) := none
def l12_21 : List Nat := []
theorem cd12_21 : dOk d12_21 g12_21 l12_21 = true := by kernel_rfl
def c12 : AC := (.seq (.reg d12_0 g12_0) (.seq (.seq (.reg d12_1 g12_1) (.seq (.reg d12_2 g12_2) (.cond (.t 21) (.seq (.reg d12_3 g12_3) .ret) .skip))) (.seq (.reg d12_4 g12_4) (.seq (.reg d12_5 g12_5) (.seq (.reg d12_6 g12_6) (.seq (.seq (.reg d12_7 g12_7) (.block 0 (.loop (.seq (.reg d12_8 g12_8) (.seq (.cond (.t 27) .skip (.exit 0)) (.seq (.block 1 (.seq (.reg d12_9 g12_9) (.seq (.reg d12_10 g12_10) (.seq (.seq (.reg d12_11 g12_11) (.block 2 (.loop (.seq (.reg d12_12 g12_12) (.seq (.cond (.t 30) .skip (.exit 2)) (.seq (.block 3 (.seq (.reg d12_13 g12_13) (.seq (.reg d12_14 g12_14) (.cond (.t 36) (.reg d12_15 g12_15) .skip)))) (.reg d12_16 g12_16))))))) (.seq (.reg d12_17 g12_17) (.seq (.reg d12_18 g12_18) (.cond (.t 71) (.reg d12_19 g12_19) .skip))))))) (.reg d12_20 g12_20))))))) (.seq (.reg d12_21 g12_21) .ret)))))))
def r12 : List RV := [.tmp 4, .tmp 5]
theorem cc12 : (Try.f12.body.bind (cCode Try.prog Try.f12.ntmps)) = some c12 := by kernel_rfl
theorem cr12 : cRes Try.prog Try.f12.results.toList = some r12 := by kernel_rfl
theorem ca12 : callable Try.prog 12 = true := by kernel_rfl
def g13_0 : List G := [⟨(some 2), .box (.t 0), none⟩,
  ⟨(some 3), .box (.t 1), none⟩,
  ⟨(some 4), .mv (.c (.nils 1)), none⟩,
  ⟨(some 5), .mv (.c (.int .i64 (0))), none⟩]
def d13_0 : Option (List (List Nat)) := none
def l13_0 : List Nat := []
theorem cd13_0 : dOk d13_0 g13_0 l13_0 = true := by kernel_rfl
def g13_1 : List G := [⟨(some 13), .ld (some 7) (.t 2), none⟩,
  ⟨(some 14), .ld (some 6) (.t 3), none⟩,
  ⟨(some 15), .call 28 [(.t 13), (.t 14)], none⟩,
  ⟨(some 12), .mv (.t 15), none⟩,
  ⟨(some 16), .ext (.t 12) 0, none⟩,
  ⟨(some 17), .ext (.t 12) 1, none⟩,
  ⟨(some 6), .mv (.t 16), none⟩,
  ⟨(some 7), .mv (.t 17), none⟩]
def d13_1 : Option (List (List Nat)) := none
def l13_1 : List Nat := []
theorem cd13_1 : dOk d13_1 g13_1 l13_1 = true := by kernel_rfl
def g13_2 : List G := [⟨(some 18), .mv (.t 7), none⟩,
  ⟨(some 19), .bin .neq (.t 18) (.c (.int .i64 (0))), none⟩]
def d13_2 : Option (List (List Nat)) := none
def l13_2 : List Nat := []
theorem cd13_2 : dOk d13_2 g13_2 l13_2 = true := by kernel_rfl
def g13_3 : List G := [⟨(some 20), .mv (.t 7), none⟩,
  ⟨(some 4), .mv (.c (.nils 1)), none⟩,
  ⟨(some 5), .mv (.t 20), none⟩]
def d13_3 : Option (List (List Nat)) := none
def l13_3 : List Nat := []
theorem cd13_3 : dOk d13_3 g13_3 l13_3 = true := by kernel_rfl
def g13_4 : List G := [⟨(some 8), .mv (.c (.nils 1)), none⟩]
def d13_4 : Option (List (List Nat)) := none
def l13_4 : List Nat := []
theorem cd13_4 : dOk d13_4 g13_4 l13_4 = true := by kernel_rfl
def g13_5 : List G := [⟨(some 9), .mv (.c (.bool false)), none⟩]
def d13_5 : Option (List (List Nat)) := none
def l13_5 : List Nat := []
theorem cd13_5 : dOk d13_5 g13_5 l13_5 = true := by kernel_rfl
def g13_6 : List G := [⟨(some 10), .mv (.c (.int .i64 (0))), none⟩]
def d13_6 : Option (List (List Nat)) := none
def l13_6 : List Nat := []
theorem cd13_6 : dOk d13_6 g13_6 l13_6 = true := by kernel_rfl
def g13_7 : List G := [⟨(some 21), .mv (.t 10), none⟩,
  ⟨(some 22), .bin .lss (.t 21) (.c (.int .i64 (64))), none⟩]
def d13_7 : Option (List (List Nat)) := none
def l13_7 : List Nat := []
theorem cd13_7 : dOk d13_7 g13_7 l13_7 = true := by kernel_rfl
def g13_8 : List G := [⟨(some 25), .mv (.t 10), none⟩,
  ⟨(some 26), .call 68 [(.t 25)], none⟩,
  ⟨(some 11), .mv (.t 26), none⟩]
def d13_8 : Option (List (List Nat)) := none
def l13_8 : List Nat := []
theorem cd13_8 : dOk d13_8 g13_8 l13_8 = true := by kernel_rfl
def g13_9 : List G := [⟨(some 27), .ld (some 7) (.t 2), none⟩,
  ⟨(some 28), .ld (some 6) (.t 3), none⟩,
  ⟨(some 29), .mv (.t 11), none⟩,
  ⟨(some 30), .call 69 [(.t 27), (.t 28), (.t 29)], none⟩,
  ⟨(some 31), .un .not (.t 30), none⟩]
def d13_9 : Option (List (List Nat)) := none
def l13_9 : List Nat := []
theorem cd13_9 : dOk d13_9 g13_9 l13_9 = true := by kernel_rfl
def g13_10 : List G := [⟨(some 32), .mv (.t 9), none⟩,
  ⟨(some 33), .un .not (.t 32), none⟩,
  ⟨(some 34), .mv (.t 33), none⟩,
  ⟨(some 35), .mv (.t 11), some (34, false)⟩,
  ⟨(some 36), .len (.t 35), some (34, false)⟩,
  ⟨(some 37), .mv (.t 8), some (34, false)⟩,
  ⟨(some 38), .len (.t 37), some (34, false)⟩,
  ⟨(some 39), .bin .lss (.t 36) (.t 38), some (34, false)⟩,
  ⟨(some 40), .pick (.t 34) (.c (.bool true)) (.t 39), none⟩,
  ⟨(some 41), .mv (.t 40), none⟩,
  ⟨(some 42), .mv (.t 11), some (41, false)⟩,
  ⟨(some 43), .len (.t 42), some (41, false)⟩,
  ⟨(some 44), .mv (.t 8), some (41, false)⟩,
  ⟨(some 45), .len (.t 44), some (41, false)⟩,
  ⟨(some 46), .bin .eql (.t 43) (.t 45), some (41, false)⟩,
  ⟨(some 47), .mv (.t 46), some (41, false)⟩,
  ⟨(some 48), .mv (.t 11), some (47, true)⟩,
  ⟨(some 49), .mv (.t 8), some (47, true)⟩,
  ⟨(some 50), .call 70 [(.t 48), (.t 49)], some (47, true)⟩,
  ⟨(some 51), .pick (.t 47) (.t 50) (.c (.bool false)), some (41, false)⟩,
  ⟨(some 52), .pick (.t 41) (.c (.bool true)) (.t 51), none⟩]
def d13_10 : Option (List (List Nat)) := none
def l13_10 : List Nat := []
theorem cd13_10 : dOk d13_10 g13_10 l13_10 = true := by kernel_rfl
def g13_11 : List G := [⟨(some 53), .mv (.t 11), none⟩,
  ⟨(some 8), .mv (.t 53), none⟩]
def d13_11 : Option (List (List Nat)) := none
def l13_11 : List Nat := []
theorem cd13_11 : dOk d13_11 g13_11 l13_11 = true := by kernel_rfl
def g13_12 : List G := [⟨(some 9), .mv (.c (.bool true)), none⟩]
def d13_12 : Option (List (List Nat)) := none
def l13_12 : List Nat := []
theorem cd13_12 : dOk d13_12 g13_12 l13_12 = true := by kernel_rfl
def g13_13 : List G := [⟨(some 23), .mv (.t 10), none⟩,
  ⟨(some 24), .bin .add (.t 23) (.c (.int .i64 (1))), none⟩,
  ⟨(some 10), .mv (.t 24), none⟩]
def d13_13 : Option (List (List Nat)) := none
def l13_13 : List Nat := []
theorem cd13_13 : dOk d13_13 g13_13 l13_13 = true := by kernel_rfl
def g13_14 : List G := [⟨(some 54), .mv (.t 8), none⟩,
  ⟨(some 4), .mv (.t 54), none⟩,
  ⟨(some 5), .mv (.c (.int .i64 (0))), none⟩]
def d13_14 : Option (List (List Nat)) := none
def l13_14 : List Nat := []
theorem cd13_14 : dOk d13_14 g13_14 l13_14 = true := by kernel_rfl
def c13 : AC := (.seq (.reg d13_0 g13_0) (.seq (.reg d13_1 g13_1) (.seq (.seq (.reg d13_2 g13_2) (.cond (.t 19) (.seq (.reg d13_3 g13_3) .ret) .skip)) (.seq (.reg d13_4 g13_4) (.seq (.reg d13_5 g13_5) (.seq (.seq (.reg d13_6 g13_6) (.block 0 (.loop (.seq (.seq (.reg d13_7 g13_7) (.cond (.t 22) .skip (.exit 0))) (.seq (.block 1 (.seq (.reg d13_8 g13_8) (.seq (.seq (.reg d13_9 g13_9) (.cond (.t 31) (.exit 1) .skip)) (.seq (.reg d13_10 g13_10) (.cond (.t 52) (.seq (.reg d13_11 g13_11) (.reg d13_12 g13_12)) .skip))))) (.reg d13_13 g13_13)))))) (.seq (.reg d13_14 g13_14) .ret)))))))
def r13 : List RV := [.tmp 4, .tmp 5]
theorem cc13 : (Try.f13.body.bind (cCode Try.prog Try.f13.ntmps)) = some c13 := by kernel_rfl
theorem cr13 : cRes Try.prog Try.f13.results.toList = some r13 := by kernel_rfl
theorem ca13 : callable Try.prog 13 = true := by kernel_rfl
def g14_0 : List G := [⟨(some 4), .box (.t 0), none⟩,
  ⟨(some 5), .box (.t 1), none⟩,
  ⟨(some 6), .box (.t 2), none⟩,
  ⟨(some 7), .box (.t 3), none⟩,
  ⟨(some 8), .mv (.c (.nils 1)), none⟩,
  ⟨(some 9), .mv (.c (.int .i64 (0))), none⟩]
def d14_0 : Option (List (List Nat)) := none
def l14_0 : List Nat := []
theorem cd14_0 : dOk d14_0 g14_0 l14_0 = true := by kernel_rfl
def g14_1 : List G := [⟨(some 11), .ld (some 7) (.t 4), none⟩,
  ⟨(some 12), .call 47 [(.t 11)], none⟩,
  ⟨(some 13), .ld (some 6) (.t 5), none⟩,
  ⟨(some 14), .call 45 [(.t 13)], none⟩,
  ⟨(some 15), .ld (some 6) (.t 6), none⟩,
  ⟨(some 16), .call 45 [(.t 15)], none⟩,
  ⟨(some 17), .bs 1 [(.t 12), (.t 14), (.t 16)], none⟩,
  ⟨(some 18), .call 64 [(.t 17)], none⟩,
  ⟨(some 10), .mv (.t 18), none⟩]
def d14_1 : Option (List (List Nat)) := (some [[], [0], [], [2, 1], [], [4, 3], [1, 3, 5], [6, 5], [7, 7, 0, 1, 2, 3, 4, 5, 6, 7]])
def l14_1 : List Nat := [0, 1, 0, 7, 0, 31, 63, 127, 255]
theorem cd14_1 : dOk d14_1 g14_1 l14_1 = true := by kernel_rfl
def g14_2 : List G := [⟨(some 19), .mv (.t 10), none⟩,
  ⟨(some 20), .bin .neq (.t 19) (.c (.int .i64 (0))), none⟩]
def d14_2 : Option (List (List Nat)) := none
def l14_2 : List Nat := []
theorem cd14_2 : dOk d14_2 g14_2 l14_2 = true := by kernel_rfl
def g14_3 : List G := [⟨(some 21), .mv (.t 10), none⟩,
  ⟨(some 8), .mv (.c (.nils 1)), none⟩,
  ⟨(some 9), .mv (.t 21), none⟩]
def d14_3 : Option (List (List Nat)) := none
def l14_3 : List Nat := []
theorem cd14_3 : dOk d14_3 g14_3 l14_3 = true := by kernel_rfl
def g14_4 : List G := [⟨(some 22), .ld none (.t 7), none⟩,
  ⟨(some 23), .call 71 [(.t 22)], none⟩,
  ⟨(some 24), .un .not (.t 23), none⟩]
def d14_4 : Option (List (List Nat)) := none
def l14_4 : List Nat := []
theorem cd14_4 : dOk d14_4 g14_4 l14_4 = true := by kernel_rfl
def g14_5 : List G := [⟨(some 8), .mv (.c (.nils 1)), none⟩,
  ⟨(some 9), .mv (.c (.int .i64 (18))), none⟩]
def d14_5 : Option (List (List Nat)) := none
def l14_5 : List Nat := []
theorem cd14_5 : dOk d14_5 g14_5 l14_5 = true := by kernel_rfl
def g14_6 : List G := [⟨(some 25), .ld (some 7) (.t 4), none⟩,
  ⟨(some 26), .ld (some 6) (.t 5), none⟩,
  ⟨(some 27), .call 65 [(.t 25), (.t 26)], none⟩,
  ⟨(some 28), .mk 74 [(.t 7), (.t 4), (.t 6)], none⟩,
  ⟨(some 29), .call 73 [(.t 27), (.t 28)], none⟩,
  ⟨(some 30), .call 72 [(.t 29)], none⟩,
  ⟨(some 8), .mv (.t 30), none⟩,
  ⟨(some 9), .mv (.c (.int .i64 (0))), none⟩]
def d14_6 : Option (List (List Nat)) := none
def l14_6 : List Nat := []
theorem cd14_6 : dOk d14_6 g14_6 l14_6 = true := by kernel_rfl
def c14 : AC := (.seq (.reg d14_0 g14_0) (.seq (.seq (.reg d14_1 g14_1) (.seq (.reg d14_2 g14_2) (.cond (.t 20) (.seq (.reg d14_3 g14_3) .ret) .skip))) (.seq (.seq (.reg d14_4 g14_4) (.cond (.t 24) (.seq (.reg d14_5 g14_5) .ret) .skip)) (.seq (.reg d14_6 g14_6) .ret))))
def r14 : List RV := [.tmp 8, .tmp 9]
theorem cc14 : (Try.f14.body.bind (cCode Try.prog Try.f14.ntmps)) = some c14 := by kernel_rfl
theorem cr14 : cRes Try.prog Try.f14.results.toList = some r14 := by kernel_rfl
theorem ca14 : callable Try.prog 14 = true := by kernel_rfl
def g15_0 : List G := [⟨(some 2), .box (.t 0), none⟩,
  ⟨(some 3), .box (.t 1), none⟩,
  ⟨(some 4), .mv (.c (.nils 1)), none⟩,
  ⟨(some 5), .mv (.c (.int .i64 (0))), none⟩]
def d15_0 : Option (List (List Nat)) := none
def l15_0 : List Nat := []
theorem cd15_0 : dOk d15_0 g15_0 l15_0 = true := by kernel_rfl
def g15_1 : List G := [⟨(some 14), .ld (some 7) (.t 2), none⟩,
  ⟨(some 15), .fa 0 0 (.t 3), none⟩,
  ⟨(some 16), .ld (some 6) (.t 15), none⟩,
  ⟨(some 17), .call 28 [(.t 14), (.t 16)], none⟩,
  ⟨(some 13), .mv (.t 17), none⟩,
  ⟨(some 18), .ext (.t 13) 0, none⟩,
  ⟨(some 19), .ext (.t 13) 1, none⟩,
  ⟨(some 6), .mv (.t 18), none⟩,
  ⟨(some 7), .mv (.t 19), none⟩]
def d15_1 : Option (List (List Nat)) := none
def l15_1 : List Nat := []
theorem cd15_1 : dOk d15_1 g15_1 l15_1 = true := by kernel_rfl
def g15_2 : List G := [⟨(some 20), .mv (.t 7), none⟩,
  ⟨(some 21), .bin .neq (.t 20) (.c (.int .i64 (0))), none⟩]
def d15_2 : Option (List (List Nat)) := none
def l15_2 : List Nat := []
theorem cd15_2 : dOk d15_2 g15_2 l15_2 = true := by kernel_rfl
def g15_3 : List G := [⟨(some 22), .mv (.t 7), none⟩,
  ⟨(some 4), .mv (.c (.nils 1)), none⟩,
  ⟨(some 5), .mv (.t 22), none⟩]
def d15_3 : Option (List (List Nat)) := none
def l15_3 : List Nat := []
theorem cd15_3 : dOk d15_3 g15_3 l15_3 = true := by kernel_rfl
def g15_4 : List G := [⟨(some 23), .fa 1 6 (.t 3), none⟩,
  ⟨(some 24), .ld (some 6) (.t 23), none⟩,
  ⟨(some 25), .call 46 [(.t 24)], none⟩,
  ⟨(some 26), .bin .neq (.t 25) (.c (.int .i64 (0))), none⟩]
def d15_4 : Option (List (List Nat)) := none
def l15_4 : List Nat := []
theorem cd15_4 : dOk d15_4 g15_4 l15_4 = true := by kernel_rfl
def g15_5 : List G := [⟨(some 4), .mv (.c (.nils 1)), none⟩,
  ⟨(some 5), .mv (.c (.int .i64 (12))), none⟩]
def d15_5 : Option (List (List Nat)) := none
def l15_5 : List Nat := []
theorem cd15_5 : dOk d15_5 g15_5 l15_5 = true := by kernel_rfl
def g15_6 : List G := [⟨(some 27), .fa 2 12 (.t 3), none⟩,
  ⟨(some 28), .ld none (.t 27), none⟩,
  ⟨(some 29), .call 79 [(.t 28)], none⟩,
  ⟨(some 30), .un .not (.t 29), none⟩]
def d15_6 : Option (List (List Nat)) := none
def l15_6 : List Nat := []
theorem cd15_6 : dOk d15_6 g15_6 l15_6 = true := by kernel_rfl
def g15_7 : List G := [⟨(some 4), .mv (.c (.nils 1)), none⟩,
  ⟨(some 5), .mv (.c (.int .i64 (18))), none⟩]
def d15_7 : Option (List (List Nat)) := none
def l15_7 : List Nat := []
theorem cd15_7 : dOk d15_7 g15_7 l15_7 = true := by kernel_rfl
def g15_8 : List G := [⟨(some 8), .mv (.c (.nils 1)), none⟩]
def d15_8 : Option (List (List Nat)) := none
def l15_8 : List Nat := []
theorem cd15_8 : dOk d15_8 g15_8 l15_8 = true := by kernel_rfl
def g15_9 : List G := [⟨(some 9), .mv (.c (.int .i64 (0))), none⟩]
def d15_9 : Option (List (List Nat)) := none
def l15_9 : List Nat := []
theorem cd15_9 : dOk d15_9 g15_9 l15_9 = true := by kernel_rfl
def g15_10 : List G := [⟨(some 31), .mv (.t 9), none⟩,
  ⟨(some 32), .mv (.t 6), none⟩,
  ⟨(some 33), .len (.t 32), none⟩,
  ⟨(some 34), .bin .lss (.t 31) (.t 33), none⟩]
def d15_10 : Option (List (List Nat)) := none
def l15_10 : List Nat := []
theorem cd15_10 : dOk d15_10 g15_10 l15_10 = true := by kernel_rfl
def g15_11 : List G := [⟨(some 37), .fa 2 6 (.t 2), none⟩,
  ⟨(some 38), .ld none (.t 37), none⟩,
  ⟨(some 39), .ld (some 7) (.t 2), none⟩,
  ⟨(some 40), .mv (.t 6), none⟩,
  ⟨(some 41), .mv (.t 9), none⟩,
  ⟨(some 42), .is 1 (.t 40) (.t 41), none⟩,
  ⟨(some 43), .ld none (.t 42), none⟩,
  ⟨(some 44), .call 80 [(.t 39), (.t 43)], none⟩,
  ⟨(some 45), .is 7 (.t 38) (.t 44), none⟩,
  ⟨(some 46), .fa 1 1 (.t 45), none⟩,
  ⟨(some 47), .ld (some 6) (.t 46), none⟩,
  ⟨(some 10), .alloc (.agg [.int .i64 (0), .int .i64 (0), .int .i64 (0), .int .i64 (0), .int .i64 (0), .int .i64 (0)]), none⟩,
  ⟨none, .st (some 6) (.t 10) (.t 47), none⟩]
def d15_11 : Option (List (List Nat)) := (some [[], [0], [], [], [], [3, 4], [5], [2, 6], [1, 7], [8], [9], [], [11, 10, 7, 0, 1, 2, 3, 4, 5, 6, 7, 8, 9, 10, 11]])
def l15_11 : List Nat := [0, 1, 0, 0, 0, 24, 56, 124, 255, 511, 1023, 0, 4095]
theorem cd15_11 : dOk d15_11 g15_11 l15_11 = true := by kernel_rfl
def g15_12 : List G := [⟨(some 11), .mv (.c (.bool true)), none⟩]
def d15_12 : Option (List (List Nat)) := none
def l15_12 : List Nat := []
theorem cd15_12 : dOk d15_12 g15_12 l15_12 = true := by kernel_rfl
def g15_13 : List G := [⟨(some 12), .mv (.c (.int .i64 (0))), none⟩]
def d15_13 : Option (List (List Nat)) := none
def l15_13 : List Nat := []
theorem cd15_13 : dOk d15_13 g15_13 l15_13 = true := by kernel_rfl
def g15_14 : List G := [⟨(some 48), .mv (.t 12), none⟩,
  ⟨(some 49), .fa 2 12 (.t 3), none⟩,
  ⟨(some 50), .ld none (.t 49), none⟩,
  ⟨(some 51), .len (.t 50), none⟩,
  ⟨(some 52), .bin .lss (.t 48) (.t 51), none⟩]
def d15_14 : Option (List (List Nat)) := none
def l15_14 : List Nat := []
theorem cd15_14 : dOk d15_14 g15_14 l15_14 = true := by kernel_rfl
def g15_15 : List G := [⟨(some 55), .mv (.t 11), none⟩,
  ⟨(some 56), .mv (.t 55), none⟩,
  ⟨(some 57), .fa 2 12 (.t 3), some (56, true)⟩,
  ⟨(some 58), .ld none (.t 57), some (56, true)⟩,
  ⟨(some 59), .mv (.t 12), some (56, true)⟩,
  ⟨(some 60), .is 1 (.t 58) (.t 59), some (56, true)⟩,
  ⟨(some 61), .ld none (.t 60), some (56, true)⟩,
  ⟨(some 62), .ia 6 1 (.t 10) (.t 61), some (56, true)⟩,
  ⟨(some 63), .ld none (.t 62), some (56, true)⟩,
  ⟨(some 64), .fa 0 0 (.t 2), some (56, true)⟩,
  ⟨(some 65), .ia 5 1 (.t 64) (.t 63), some (56, true)⟩,
  ⟨(some 66), .ld none (.t 65), some (56, true)⟩,
  ⟨(some 67), .fa 2 12 (.t 3), some (56, true)⟩,
  ⟨(some 68), .ld none (.t 67), some (56, true)⟩,
  ⟨(some 69), .mv (.t 12), some (56, true)⟩,
  ⟨(some 70), .is 1 (.t 68) (.t 69), some (56, true)⟩,
  ⟨(some 71), .ld none (.t 70), some (56, true)⟩,
  ⟨(some 72), .fa 1 6 (.t 3), some (56, true)⟩,
  ⟨(some 73), .ia 6 1 (.t 72) (.t 71), some (56, true)⟩,
  ⟨(some 74), .ld none (.t 73), some (56, true)⟩,
  ⟨(some 75), .bin .and (.t 66) (.t 74), some (56, true)⟩,
  ⟨(some 76), .bin .neq (.t 75) (.c (.int .i64 (0))), some (56, true)⟩,
  ⟨(some 77), .pick (.t 56) (.t 76) (.c (.bool false)), none⟩,
  ⟨(some 11), .mv (.t 77), none⟩]
def d15_15 : Option (List (List Nat)) := (some [[], [0], [1], [2, 1], [1], [3, 4, 1], [5, 1], [6, 1], [7, 1], [1], [9, 8, 1], [10, 1], [1], [12, 1], [1], [13, 14, 1], [15, 1], [1], [17, 16, 1], [18, 1], [11, 19, 1], [20, 1], [1, 21], [22, 1, 0, 1, 2, 3, 4, 5, 6, 7, 8, 9, 10, 11, 12, 13, 14, 15, 16, 17, 18, 19, 20, 21, 22]])
def l15_15 : List Nat := [0, 1, 3, 7, 3, 31, 63, 127, 255, 3, 1023, 2047, 3, 4099, 3, 28675, 61443, 3, 258051, 520195, 1048575, 2097151, 4194303, 8388607]
theorem cd15_15 : dOk d15_15 g15_15 l15_15 = true := by kernel_rfl
def g15_16 : List G := [⟨(some 53), .mv (.t 12), none⟩,
  ⟨(some 54), .bin .add (.t 53) (.c (.int .i64 (1))), none⟩,
  ⟨(some 12), .mv (.t 54), none⟩]
def d15_16 : Option (List (List Nat)) := none
def l15_16 : List Nat := []
theorem cd15_16 : dOk d15_16 g15_16 l15_16 = true := by kernel_rfl
def g15_17 : List G := [⟨(some 78), .mv (.t 11), none⟩]
def d15_17 : Option (List (List Nat)) := none
def l15_17 : List Nat := []
theorem cd15_17 : dOk d15_17 g15_17 l15_17 = true := by kernel_rfl
def g15_18 : List G := [⟨(some 79), .mv (.t 8), none⟩,
  ⟨(some 80), .mv (.t 6), none⟩,
  ⟨(some 81), .mv (.t 9), none⟩,
  ⟨(some 82), .is 1 (.t 80) (.t 81), none⟩,
  ⟨(some 83), .ld none (.t 82), none⟩,
  ⟨(some 84), .bs 1 [(.t 83)], none⟩,
  ⟨(some 85), .app 3 1 8 (.int .i64 (0)) (.t 79) (.t 84), none⟩,
  ⟨(some 8), .mv (.t 85), none⟩]
def d15_18 : Option (List (List Nat)) := none
def l15_18 : List Nat := []
theorem cd15_18 : dOk d15_18 g15_18 l15_18 = true := by kernel_rfl
def g15_19 : List G := [⟨(some 35), .mv (.t 9), none⟩,
  ⟨(some 36), .bin .add (.t 35) (.c (.int .i64 (1))), none⟩,
  ⟨(some 9), .mv (.t 36), none⟩]
def d15_19 : Option (List (List Nat)) := none
def l15_19 : List Nat := []
theorem cd15_19 : dOk d15_19 g15_19 l15_19 = true := by kernel_rfl
def g15_20 : List G := [⟨(some 86), .mv (.t 8), none⟩,
  ⟨(some 4), .mv (.t 86), none⟩,
  ⟨(some 5), .mv (.c (.int .i64 (0))), none⟩]
def d15_20 : Option (List (List Nat)) := none
def l15_20 : List Nat := []
theorem cd15_20 : dOk d15_20 g15_20 l15_20 = true := by kernel_rfl
def c15 : AC := (.seq (.reg d15_0 g15_0) (.seq (.reg d15_1 g15_1) (.seq (.seq (.reg d15_2 g15_2) (.cond (.t 21) (.seq (.reg d15_3 g15_3) .ret) .skip)) (.seq (.seq (.reg d15_4 g15_4) (.cond (.t 26) (.seq (.reg d15_5 g15_5) .ret) .skip)) (.seq (.seq (.reg d15_6 g15_6) (.cond (.t 30) (.seq (.reg d15_7 g15_7) .ret) .skip)) (.seq (.reg d15_8 g15_8) (.seq (.seq (.reg d15_9 g15_9) (.block 0 (.loop (.seq (.seq (.reg d15_10 g15_10) (.cond (.t 34) .skip (.exit 0))) (.seq (.block 1 (.seq (.reg d15_11 g15_11) (.seq (.reg d15_12 g15_12) (.seq (.seq (.reg d15_13 g15_13) (.block 2 (.loop (.seq (.seq (.reg d15_14 g15_14) (.cond (.t 52) .skip (.exit 2))) (.seq (.block 3 (.reg d15_15 g15_15)) (.reg d15_16 g15_16)))))) (.seq (.reg d15_17 g15_17) (.cond (.t 78) (.reg d15_18 g15_18) .skip)))))) (.reg d15_19 g15_19)))))) (.seq (.reg d15_20 g15_20) .ret))))))))
def r15 : List RV := [.tmp 4, .tmp 5]
theorem cc15 : (Try.f15.body.bind (cCode Try.prog Try.f15.ntmps)) = some c15 := by kernel_rfl
theorem cr15 : cRes Try.prog Try.f15.results.toList = some r15 := by kernel_rfl
theorem ca15 : callable Try.prog 15 = true := by kernel_rfl
def g16_0 : List G := [⟨(some 4), .mv (.c (.bool false)), none⟩]
def d16_0 : Option (List (List Nat)) := none
def l16_0 : List Nat := []
theorem cd16_0 : dOk d16_0 g16_0 l16_0 = true := by kernel_rfl
def g16_1 : List G := [⟨(some 6), .mv (.t 0), none⟩,
  ⟨(some 7), .len (.t 6), none⟩,
  ⟨(some 8), .mv (.t 1), none⟩,
  ⟨(some 9), .len (.t 8), none⟩,
  ⟨(some 10), .bin .neq (.t 7) (.t 9), none⟩]
def d16_1 : Option (List (List Nat)) := none
def l16_1 : List Nat := []
theorem cd16_1 : dOk d16_1 g16_1 l16_1 = true := by kernel_rfl
def g16_2 : List G := [⟨(some 4), .mv (.c (.bool false)), none⟩]
def d16_2 : Option (List (List Nat)) := none
def l16_2 : List Nat := []
theorem cd16_2 : dOk d16_2 g16_2 l16_2 = true := by kernel_rfl
def g16_3 : List G := [⟨(some 5), .mv (.c (.int .i64 (0))), none⟩]
def d16_3 : Option (List (List Nat)) := none
def l16_3 : List Nat := []
theorem cd16_3 : dOk d16_3 g16_3 l16_3 = true := by kernel_rfl
def g16_4 : List G := [⟨(some 11), .mv (.t 5), none⟩,
  ⟨(some 12), .mv (.t 0), none⟩,
  ⟨(some 13), .len (.t 12), none⟩,
  ⟨(some 14), .bin .lss (.t 11) (.t 13), none⟩]
def d16_4 : Option (List (List Nat)) := none
def l16_4 : List Nat := []
theorem cd16_4 : dOk d16_4 g16_4 l16_4 = true := by kernel_rfl
def g16_5 : List G := [⟨(some 17), .mv (.t 0), none⟩,
  ⟨(some 18), .mv (.t 5), none⟩,
  ⟨(some 19), .is 1 (.t 17) (.t 18), none⟩,
  ⟨(some 20), .ld none (.t 19), none⟩,
  ⟨(some 21), .mv (.t 1), none⟩,
  ⟨(some 22), .mv (.t 5), none⟩,
  ⟨(some 23), .is 1 (.t 21) (.t 22), none⟩,
  ⟨(some 24), .ld none (.t 23), none⟩,
  ⟨(some 25), .bin .neq (.t 20) (.t 24), none⟩]
def d16_5 : Option (List (List Nat)) := (some [[], [], [0, 1], [2], [], [], [4, 5], [6], [3, 7]])
def l16_5 : List Nat := [0, 0, 3, 7, 0, 0, 48, 112, 255]
theorem cd16_5 : dOk d16_5 g16_5 l16_5 = true := by kernel_rfl
def g16_6 : List G := [⟨(some 4), .mv (.c (.bool false)), none⟩]
def d16_6 : Option (List (List Nat)) := none
def l16_6 : List Nat := []
theorem cd16_6 : dOk d16_6 g16_6 l16_6 = true := by kernel_rfl
def g16_7 : List G := [⟨(some 15), .mv (.t 5), none⟩,
  ⟨(some 16), .bin .add (.t 15) (.c (.int .i64 (1))), none⟩,
  ⟨(some 5), .mv (.t 16), none⟩]
def d16_7 : Option (List (List Nat)) := none
def l16_7 : List Nat := []
theorem cd16_7 : dOk d16_7 g16_7 l16_7 = true := by kernel_rfl
def g16_8 : List G := [⟨(some 4), .mv (.c (.bool true)), none⟩]
def d16_8 : Option (List (List Nat)) := none
def l16_8 : List Nat := []
theorem cd16_8 : dOk d16_8 g16_8 l16_8 = true := by kernel_rfl
def c16 : AC := (.seq (.reg d16_0 g16_0) (.seq (.seq (.reg d16_1 g16_1) (.cond (.t 10) (.seq (.reg d16_2 g16_2) .ret) .skip)) (.seq (.seq (.reg d16_3 g16_3) (.block 0 (.loop (.seq (.seq (.reg d16_4 g16_4) (.cond (.t 14) .skip (.exit 0))) (.seq (.block 1 (.seq (.reg d16_5 g16_5) (.cond (.t 25) (.seq (.reg d16_6 g16_6) .ret) .skip))) (.reg d16_7 g16_7)))))) (.seq (.reg d16_8 g16_8) .ret))))
def r16 : List RV := [.tmp 4]
theorem cc16 : (Try.f16.body.bind (cCode Try.prog Try.f16.ntmps)) = some c16 := by kernel_rfl
theorem cr16 : cRes Try.prog Try.f16.results.toList = some r16 := by kernel_rfl
theorem ca16 : callable Try.prog 16 = true := by kernel_rfl
def g17_0 : List G := [⟨(some 3), .box (.t 0), none⟩,
  ⟨(some 4), .box (.t 1), none⟩,
  ⟨(some 6), .mv (.c (.int .i64 (0))), none⟩]
def d17_0 : Option (List (List Nat)) := none
def l17_0 : List Nat := []
theorem cd17_0 : dOk d17_0 g17_0 l17_0 = true := by kernel_rfl
def g17_1 : List G := [⟨(some 8), .ld (some 7) (.t 3), none⟩,
  ⟨(some 9), .call 47 [(.t 8)], none⟩,
  ⟨(some 10), .ld (some 6) (.t 4), none⟩,
  ⟨(some 11), .call 45 [(.t 10)], none⟩,
  ⟨(some 12), .bs 1 [(.t 9), (.t 11)], none⟩,
  ⟨(some 13), .call 64 [(.t 12)], none⟩,
  ⟨(some 7), .mv (.t 13), none⟩]
def d17_1 : Option (List (List Nat)) := (some [[], [0], [], [2, 1], [1, 3], [4, 3], [5, 5, 0, 1, 2, 3, 4, 5]])
def l17_1 : List Nat := [0, 1, 0, 7, 15, 31, 63]
theorem cd17_1 : dOk d17_1 g17_1 l17_1 = true := by kernel_rfl
def g17_2 : List G := [⟨(some 14), .mv (.t 7), none⟩,
  ⟨(some 15), .bin .neq (.t 14) (.c (.int .i64 (0))), none⟩]
def d17_2 : Option (List (List Nat)) := none
def l17_2 : List Nat := []
theorem cd17_2 : dOk d17_2 g17_2 l17_2 = true := by kernel_rfl
def g17_3 : List G := [⟨(some 16), .mv (.t 7), none⟩,
  ⟨(some 6), .mv (.t 16), none⟩]
def d17_3 : Option (List (List Nat)) := none
def l17_3 : List Nat := []
theorem cd17_3 : dOk d17_3 g17_3 l17_3 = true := by kernel_rfl
def g17_4 : List G := [⟨(some 17), .mv (.t 2), none⟩,
  ⟨(some 18), .call 71 [(.t 17)], none⟩,
  ⟨(some 19), .un .not (.t 18), none⟩,
  ⟨(some 20), .mv (.t 19), none⟩,
  ⟨(some 21), .fa 0 0 (.t 3), some (20, false)⟩,
  ⟨(some 22), .ld (some 5) (.t 21), some (20, false)⟩,
  ⟨(some 23), .ld (some 7) (.t 3), some (20, false)⟩,
  ⟨(some 24), .ld (some 6) (.t 4), some (20, false)⟩,
  ⟨(some 25), .call 65 [(.t 23), (.t 24)], some (20, false)⟩,
  ⟨(some 26), .mv (.t 2), some (20, false)⟩,
  ⟨(some 27), .call 67 [(.t 22), (.t 25), (.t 26)], some (20, false)⟩,
  ⟨(some 28), .un .not (.t 27), some (20, false)⟩,
  ⟨(some 29), .pick (.t 20) (.c (.bool true)) (.t 28), none⟩]
def d17_4 : Option (List (List Nat)) := (some [[], [0], [1], [2, 1], [3], [4, 3], [3], [3], [6, 7, 3, 3], [3], [5, 8, 9, 8, 3], [10, 3], [3, 11]])
def l17_4 : List Nat := [0, 1, 3, 7, 15, 31, 15, 15, 207, 15, 1023, 2047, 4095]
theorem cd17_4 : dOk d17_4 g17_4 l17_4 = true := by kernel_rfl
def g17_5 : List G := [⟨(some 6), .mv (.c (.int .i64 (18))), none⟩]
def d17_5 : Option (List (List Nat)) := none
def l17_5 : List Nat := []
theorem cd17_5 : dOk d17_5 g17_5 l17_5 = true := by kernel_rfl
def g17_6 : List G := [⟨(some 6), .mv (.c (.int .i64 (0))), none⟩]
def d17_6 : Option (List (List Nat)) := none
def l17_6 : List Nat := []
theorem cd17_6 : dOk d17_6 g17_6 l17_6 = true := by kernel_rfl
def c17 : AC := (.seq (.reg d17_0 g17_0) (.seq (.seq (.reg d17_1 g17_1) (.seq (.reg d17_2 g17_2) (.cond (.t 15) (.seq (.reg d17_3 g17_3) .ret) .skip))) (.seq (.seq (.reg d17_4 g17_4) (.cond (.t 29) (.seq (.reg d17_5 g17_5) .ret) .skip)) (.seq (.reg d17_6 g17_6) .ret))))
def r17 : List RV := [.tmp 6]
theorem cc17 : (Try.f17.body.bind (cCode Try.prog Try.f17.ntmps)) = some c17 := by kernel_rfl
theorem cr17 : cRes Try.prog Try.f17.results.toList = some r17 := by kernel_rfl
theorem ca17 : callable Try.prog 17 = true := by kernel_rfl
def g18_0 : List G := [⟨(some 3), .box (.t 0), none⟩,
  ⟨(some 4), .box (.t 1), none⟩,
  ⟨(some 6), .mv (.c (.int .i64 (0))), none⟩]
def d18_0 : Option (List (List Nat)) := none
def l18_0 : List Nat := []
theorem cd18_0 : dOk d18_0 g18_0 l18_0 = true := by kernel_rfl
def g18_1 : List G := [⟨(some 10), .ld (some 7) (.t 3), none⟩,
  ⟨(some 11), .ld (some 6) (.t 4), none⟩,
  ⟨(some 12), .call 28 [(.t 10), (.t 11)], none⟩,
  ⟨(some 9), .mv (.t 12), none⟩,
  ⟨(some 13), .ext (.t 9) 0, none⟩,
  ⟨(some 14), .ext (.t 9) 1, none⟩,
  ⟨(some 7), .mv (.t 13), none⟩,
  ⟨(some 8), .mv (.t 14), none⟩]
def d18_1 : Option (List (List Nat)) := none
def l18_1 : List Nat := []
theorem cd18_1 : dOk d18_1 g18_1 l18_1 = true := by kernel_rfl
def g18_2 : List G := [⟨(some 15), .mv (.t 8), none⟩,
  ⟨(some 16), .bin .neq (.t 15) (.c (.int .i64 (0))), none⟩]
def d18_2 : Option (List (List Nat)) := none
def l18_2 : List Nat := []
theorem cd18_2 : dOk d18_2 g18_2 l18_2 = true := by kernel_rfl
def g18_3 : List G := [⟨(some 17), .mv (.t 8), none⟩,
  ⟨(some 6), .mv (.t 17), none⟩]
def d18_3 : Option (List (List Nat)) := none
def l18_3 : List Nat := []
theorem cd18_3 : dOk d18_3 g18_3 l18_3 = true := by kernel_rfl
def g18_4 : List G := [⟨(some 18), .mv (.t 2), none⟩,
  ⟨(some 19), .call 79 [(.t 18)], none⟩,
  ⟨(some 20), .un .not (.t 19), none⟩,
  ⟨(some 21), .mv (.t 20), none⟩,
  ⟨(some 22), .ld (some 7) (.t 3), some (21, false)⟩,
  ⟨(some 23), .ld (some 6) (.t 4), some (21, false)⟩,
  ⟨(some 24), .mv (.t 2), some (21, false)⟩,
  ⟨(some 25), .call 69 [(.t 22), (.t 23), (.t 24)], some (21, false)⟩,
  ⟨(some 26), .un .not (.t 25), some (21, false)⟩,
  ⟨(some 27), .pick (.t 21) (.c (.bool true)) (.t 26), none⟩]
def d18_4 : Option (List (List Nat)) := none
def l18_4 : List Nat := []
theorem cd18_4 : dOk d18_4 g18_4 l18_4 = true := by kernel_rfl
def g18_5 : List G := [⟨(some 6), .mv (.c (.int .i64 (18))), none⟩]
def d18_5 : Option (List (List Nat)) := none
def l18_5 : List Nat := []
theorem cd18_5 : dOk d18_5 g18_5 l18_5 = true := by kernel_rfl
def g18_6 : List G := [⟨(some 6), .mv (.c (.int .i64 (0))), none⟩]
def d18_6 : Option (List (List Nat)) := none
def l18_6 : List Nat := []
theorem cd18_6 : dOk d18_6 g18_6 l18_6 = true := by kernel_rfl
def c18 : AC := (.seq (.reg d18_0 g18_0) (.seq (.reg d18_1 g18_1) (.seq (.seq (.reg d18_2 g18_2) (.cond (.t 16) (.seq (.reg d18_3 g18_3) .ret) .skip)) (.seq (.seq (.reg d18_4 g18_4) (.cond (.t 27) (.seq (.reg d18_5 g18_5) .ret) .skip)) (.seq (.reg d18_6 g18_6) .ret)))))
def r18 : List RV := [.tmp 6]
theorem cc18 : (Try.f18.body.bind (cCode Try.prog Try.f18.ntmps)) = some c18 := by kernel_rfl
theorem cr18 : cRes Try.prog Try.f18.results.toList = some r18 := by kernel_rfl
theorem ca18 : callable Try.prog 18 = true := by kernel_rfl
def g19_0 : List G := [⟨(some 3), .box (.t 0), none⟩,
  ⟨(some 4), .box (.t 1), none⟩,
  ⟨(some 6), .alloc (.agg [.int .i64 (0), .int .i64 (0), .int .i64 (0), .int .i64 (0), .int .i64 (0), .int .i64 (0)]), none⟩,
  ⟨(some 7), .mv (.c (.int .i64 (0))), none⟩]
def d19_0 : Option (List (List Nat)) := none
def l19_0 : List Nat := []
theorem cd19_0 : dOk d19_0 g19_0 l19_0 = true := by kernel_rfl
def g19_1 : List G := [⟨(some 13), .ld (some 5) (.t 3), none⟩,
  ⟨(some 14), .call 43 [(.t 13)], none⟩,
  ⟨(some 15), .ld (some 6) (.t 4), none⟩,
  ⟨(some 16), .call 41 [(.t 15)], none⟩,
  ⟨(some 17), .bs 1 [(.t 14), (.t 16)], none⟩,
  ⟨(some 18), .call 64 [(.t 17)], none⟩,
  ⟨(some 8), .mv (.t 18), none⟩]
def d19_1 : Option (List (List Nat)) := (some [[], [0], [], [2, 1], [1, 3], [4, 3], [5, 5, 0, 1, 2, 3, 4, 5]])
def l19_1 : List Nat := [0, 1, 0, 7, 15, 31, 63]
theorem cd19_1 : dOk d19_1 g19_1 l19_1 = true := by kernel_rfl
def g19_2 : List G := [⟨(some 19), .mv (.t 8), none⟩,
  ⟨(some 20), .bin .neq (.t 19) (.c (.int .i64 (0))), none⟩]
def d19_2 : Option (List (List Nat)) := none
def l19_2 : List Nat := []
theorem cd19_2 : dOk d19_2 g19_2 l19_2 = true := by kernel_rfl
def g19_3 : List G := [⟨(some 21), .bld [.int .i64 (0), .int .i64 (0), .int .i64 (0), .int .i64 (0), .int .i64 (0), .int .i64 (0)] [], none⟩,
  ⟨(some 22), .mv (.t 8), none⟩,
  ⟨none, .st (some 6) (.t 6) (.t 21), none⟩,
  ⟨(some 7), .mv (.t 22), none⟩]
def d19_3 : Option (List (List Nat)) := none
def l19_3 : List Nat := []
theorem cd19_3 : dOk d19_3 g19_3 l19_3 = true := by kernel_rfl
def g19_4 : List G := [⟨(some 9), .alloc (.agg [.int .i64 (0), .int .i64 (0), .int .i64 (0), .int .i64 (0), .int .i64 (0), .int .i64 (0)]), none⟩]
def d19_4 : Option (List (List Nat)) := none
def l19_4 : List Nat := []
theorem cd19_4 : dOk d19_4 g19_4 l19_4 = true := by kernel_rfl
def g19_5 : List G := [⟨(some 23), .mv (.c (.int .i64 (0))), none⟩]
def d19_5 : Option (List (List Nat)) := none
def l19_5 : List Nat := []
theorem cd19_5 : dOk d19_5 g19_5 l19_5 = true := by kernel_rfl
def g19_6 : List G := [⟨(some 24), .bin .lss (.t 23) (.c (.int .i64 (6))), none⟩]
def d19_6 : Option (List (List Nat)) := none
def l19_6 : List Nat := []
theorem cd19_6 : dOk d19_6 g19_6 l19_6 = true := by kernel_rfl
def g19_7 : List G := [⟨(some 25), .mv (.t 23), none⟩,
  ⟨(some 10), .mv (.t 25), none⟩]
def d19_7 : Option (List (List Nat)) := none
def l19_7 : List Nat := []
theorem cd19_7 : dOk d19_7 g19_7 l19_7 = true := by kernel_rfl
def g19_8 : List G := [⟨(some 26), .ld (some 5) (.t 3), none⟩,
  ⟨(some 27), .ld (some 6) (.t 4), none⟩,
  ⟨(some 28), .mv (.t 10), none⟩,
  ⟨(some 29), .call 77 [(.t 26), (.t 27), (.t 28)], none⟩,
  ⟨(some 30), .call 81 [(.t 29)], none⟩,
  ⟨(some 11), .mv (.t 30), none⟩]
def d19_8 : Option (List (List Nat)) := none
def l19_8 : List Nat := []
theorem cd19_8 : dOk d19_8 g19_8 l19_8 = true := by kernel_rfl
def g19_9 : List G := [⟨(some 12), .mv (.c (.int .i64 (0))), none⟩]
def d19_9 : Option (List (List Nat)) := none
def l19_9 : List Nat := []
theorem cd19_9 : dOk d19_9 g19_9 l19_9 = true := by kernel_rfl
def g19_10 : List G := [⟨(some 31), .mv (.t 2), none⟩,
  ⟨(some 32), .len (.t 31), none⟩,
  ⟨(some 33), .bin .gtr (.t 32) (.c (.int .i64 (0))), none⟩]
def d19_10 : Option (List (List Nat)) := none
def l19_10 : List Nat := []
theorem cd19_10 : dOk d19_10 g19_10 l19_10 = true := by kernel_rfl
def g19_11 : List G := [⟨(some 34), .mv (.t 2), none⟩,
  ⟨(some 35), .mv (.t 10), none⟩,
  ⟨(some 36), .mv (.t 2), none⟩,
  ⟨(some 37), .len (.t 36), none⟩,
  ⟨(some 38), .bin .rem (.t 35) (.t 37), none⟩,
  ⟨(some 39), .is 1 (.t 34) (.t 38), none⟩,
  ⟨(some 40), .ld none (.t 39), none⟩,
  ⟨(some 41), .mv (.t 11), none⟩,
  ⟨(some 42), .len (.t 41), none⟩,
  ⟨(some 43), .bin .rem (.t 40) (.t 42), none⟩,
  ⟨(some 44), .mv (.t 11), none⟩,
  ⟨(some 45), .len (.t 44), none⟩,
  ⟨(some 46), .bin .add (.t 43) (.t 45), none⟩,
  ⟨(some 47), .mv (.t 11), none⟩,
  ⟨(some 48), .len (.t 47), none⟩,
  ⟨(some 49), .bin .rem (.t 46) (.t 48), none⟩,
  ⟨(some 12), .mv (.t 49), none⟩]
def d19_11 : Option (List (List Nat)) := none
def l19_11 : List Nat := []
theorem cd19_11 : dOk d19_11 g19_11 l19_11 = true := by kernel_rfl
def g19_12 : List G := [⟨(some 50), .mv (.t 10), none⟩,
  ⟨(some 51), .mv (.t 11), none⟩,
  ⟨(some 52), .mv (.t 12), none⟩,
  ⟨(some 53), .is 1 (.t 51) (.t 52), none⟩,
  ⟨(some 54), .ld none (.t 53), none⟩,
  ⟨(some 55), .bin .shl (.c (.int .i64 (1))) (.t 54), none⟩,
  ⟨(some 56), .ia 6 1 (.t 9) (.t 50), none⟩,
  ⟨none, .st none (.t 56) (.t 55), none⟩]
def d19_12 : Option (List (List Nat)) := none
def l19_12 : List Nat := []
theorem cd19_12 : dOk d19_12 g19_12 l19_12 = true := by kernel_rfl
def g19_13 : List G := [⟨(some 57), .bin .add (.t 23) (.c (.int .i64 (1))), none⟩,
  ⟨(some 23), .mv (.t 57), none⟩]
def d19_13 : Option (List (List Nat)) := none
def l19_13 : List Nat := []
theorem cd19_13 : dOk d19_13 g19_13 l19_13 = true := by kernel_rfl
def g19_14 : List G := [⟨(some 58), .ld (some 6) (.t 9), none⟩,
  ⟨none, .st (some 6) (.t 6) (.t 58), none⟩,
  ⟨(some 7), .mv (.c (.int .i64 (0))), none⟩]
def d19_14 : Option (List (List Nat)) := none
def l19_14 : List Nat := []
theorem cd19_14 : dOk d19_14 g19_14 l19_14 = true := by kernel_rfl
def c19 : AC := (.seq (.reg d19_0 g19_0) (.seq (.seq (.reg d19_1 g19_1) (.seq (.reg d19_2 g19_2) (.cond (.t 20) (.seq (.reg d19_3 g19_3) .ret) .skip))) (.seq (.reg d19_4 g19_4) (.seq (.seq (.reg d19_5 g19_5) (.block 0 (.loop (.seq (.reg d19_6 g19_6) (.seq (.cond (.t 24) .skip (.exit 0)) (.seq (.block 1 (.seq (.reg d19_7 g19_7) (.seq (.reg d19_8 g19_8) (.seq (.reg d19_9 g19_9) (.seq (.seq (.reg d19_10 g19_10) (.cond (.t 33) (.reg d19_11 g19_11) .skip)) (.reg d19_12 g19_12)))))) (.reg d19_13 g19_13))))))) (.seq (.reg d19_14 g19_14) .ret)))))
def r19 : List RV := [.cell 6 (some 6), .tmp 7]
theorem cc19 : (Try.f19.body.bind (cCode Try.prog Try.f19.ntmps)) = some c19 := by kernel_rfl
theorem cr19 : cRes Try.prog Try.f19.results.toList = some r19 := by kernel_rfl
theorem ca19 : callable Try.prog 19 = true := by kernel_rfl
def g20_0 : List G := [⟨(some 3), .box (.t 0), none⟩,
  ⟨(some 4), .box (.t 1), none⟩,
  ⟨(some 6), .alloc (.agg [.int .i64 (0), .int .i64 (0), .int .i64 (0), .int .i64 (0), .int .i64 (0), .int .i64 (0)]), none⟩,
  ⟨(some 7), .mv (.c (.int .i64 (0))), none⟩]
def d20_0 : Option (List (List Nat)) := none
def l20_0 : List Nat := []
theorem cd20_0 : dOk d20_0 g20_0 l20_0 = true := by kernel_rfl
def g20_1 : List G := [⟨(some 11), .ld (some 5) (.t 3), none⟩,
  ⟨(some 12), .call 44 [(.t 11)], none⟩,
  ⟨(some 13), .bin .neq (.t 12) (.c (.int .i64 (0))), none⟩]
def d20_1 : Option (List (List Nat)) := none
def l20_1 : List Nat := []
theorem cd20_1 : dOk d20_1 g20_1 l20_1 = true := by kernel_rfl
def g20_2 : List G := [⟨(some 14), .bld [.int .i64 (0), .int .i64 (0), .int .i64 (0), .int .i64 (0), .int .i64 (0), .int .i64 (0)] [], none⟩,
  ⟨none, .st (some 6) (.t 6) (.t 14), none⟩,
  ⟨(some 7), .mv (.c (.int .i64 (11))), none⟩]
def d20_2 : Option (List (List Nat)) := none
def l20_2 : List Nat := []
theorem cd20_2 : dOk d20_2 g20_2 l20_2 = true := by kernel_rfl
def g20_3 : List G := [⟨(some 15), .ld (some 6) (.t 4), none⟩,
  ⟨(some 16), .call 42 [(.t 15)], none⟩,
  ⟨(some 17), .bin .neq (.t 16) (.c (.int .i64 (0))), none⟩]
def d20_3 : Option (List (List Nat)) := none
def l20_3 : List Nat := []
theorem cd20_3 : dOk d20_3 g20_3 l20_3 = true := by kernel_rfl
def g20_4 : List G := [⟨(some 18), .bld [.int .i64 (0), .int .i64 (0), .int .i64 (0), .int .i64 (0), .int .i64 (0), .int .i64 (0)] [], none⟩,
  ⟨none, .st (some 6) (.t 6) (.t 18), none⟩,
  ⟨(some 7), .mv (.c (.int .i64 (10))), none⟩]
def d20_4 : Option (List (List Nat)) := none
def l20_4 : List Nat := []
theorem cd20_4 : dOk d20_4 g20_4 l20_4 = true := by kernel_rfl
def g20_5 : List G := [⟨(some 8), .alloc (.agg [.int .i64 (0), .int .i64 (0), .int .i64 (0), .int .i64 (0), .int .i64 (0), .int .i64 (0)]), none⟩]
def d20_5 : Option (List (List Nat)) := none
def l20_5 : List Nat := []
theorem cd20_5 : dOk d20_5 g20_5 l20_5 = true := by kernel_rfl
def g20_6 : List G := [⟨(some 9), .mv (.c (.int .i64 (0))), none⟩]
def d20_6 : Option (List (List Nat)) := none
def l20_6 : List Nat := []
theorem cd20_6 : dOk d20_6 g20_6 l20_6 = true := by kernel_rfl
def g20_7 : List G := [⟨(some 19), .mv (.t 9), none⟩,
  ⟨(some 20), .bin .lss (.t 19) (.c (.int .i64 (6))), none⟩]
def d20_7 : Option (List (List Nat)) := none
def l20_7 : List Nat := []
theorem cd20_7 : dOk d20_7 g20_7 l20_7 = true := by kernel_rfl
def g20_8 : List G := [⟨(some 23), .mv (.t 9), none⟩,
  ⟨(some 24), .ia 6 1 (.t 4) (.t 23), none⟩,
  ⟨(some 25), .ld none (.t 24), none⟩,
  ⟨(some 26), .ia 5 1 (.t 3) (.t 25), none⟩,
  ⟨(some 27), .ld none (.t 26), none⟩,
  ⟨(some 28), .call 33 [(.t 27)], none⟩,
  ⟨(some 10), .mv (.t 28), none⟩]
def d20_8 : Option (List (List Nat)) := none
def l20_8 : List Nat := []
theorem cd20_8 : dOk d20_8 g20_8 l20_8 = true := by kernel_rfl
def g20_9 : List G := [⟨(some 29), .mv (.t 9), none⟩,
  ⟨(some 30), .mv (.t 10), none⟩,
  ⟨(some 31), .mv (.t 2), none⟩,
  ⟨(some 32), .mv (.t 9), none⟩,
  ⟨(some 33), .call 25 [(.t 31), (.t 32)], none⟩,
  ⟨(some 34), .mv (.t 10), none⟩,
  ⟨(some 35), .len (.t 34), none⟩,
  ⟨(some 36), .call 23 [(.t 33), (.t 35)], none⟩,
  ⟨(some 37), .is 1 (.t 30) (.t 36), none⟩,
  ⟨(some 38), .ld none (.t 37), none⟩,
  ⟨(some 39), .bin .shl (.c (.int .i64 (1))) (.t 38), none⟩,
  ⟨(some 40), .ia 6 1 (.t 8) (.t 29), none⟩,
  ⟨none, .st none (.t 40) (.t 39), none⟩]
def d20_9 : Option (List (List Nat)) := none
def l20_9 : List Nat := []
theorem cd20_9 : dOk d20_9 g20_9 l20_9 = true := by kernel_rfl
def g20_10 : List G := [⟨(some 21), .mv (.t 9), none⟩,
  ⟨(some 22), .bin .add (.t 21) (.c (.int .i64 (1))), none⟩,
  ⟨(some 9), .mv (.t 22), none⟩]
def d20_10 : Option (List (List Nat)) := none
def l20_10 : List Nat := []
theorem cd20_10 : dOk d20_10 g20_10 l20_10 = true := by kernel_rfl
def g20_11 : List G := [⟨(some 41), .ld (some 6) (.t 8), none⟩,
  ⟨none, .st (some 6) (.t 6) (.t 41), none⟩,
  ⟨(some 7), .mv (.c (.int .i64 (0))), none⟩]
def d20_11 : Option (List (List Nat)) := none
def l20_11 : List Nat := []
theorem cd20_11 : dOk d20_11 g20_11 l20_11 = true := by kernel_rfl
def c20 : AC := (.seq (.reg d20_0 g20_0) (.seq (.seq (.reg d20_1 g20_1) (.cond (.t 13) (.seq (.reg d20_2 g20_2) .ret) .skip)) (.seq (.seq (.reg d20_3 g20_3) (.cond (.t 17) (.seq (.reg d20_4 g20_4) .ret) .skip)) (.seq (.reg d20_5 g20_5) (.seq (.seq (.reg d20_6 g20_6) (.block 0 (.loop (.seq (.seq (.reg d20_7 g20_7) (.cond (.t 20) .skip (.exit 0))) (.seq (.block 1 (.seq (.reg d20_8 g20_8) (.reg d20_9 g20_9))) (.reg d20_10 g20_10)))))) (.seq (.reg d20_11 g20_11) .ret))))))
def r20 : List RV := [.cell 6 (some 6), .tmp 7]
theorem cc20 : (Try.f20.body.bind (cCode Try.prog Try.f20.ntmps)) = some c20 := by kernel_rfl
theorem cr20 : cRes Try.prog Try.f20.results.toList = some r20 := by kernel_rfl
theorem ca20 : callable Try.prog 20 = true := by kernel_rfl
def g21_0 : List G := [⟨(some 0), .mv (.c (.bool false)), none⟩]
def d21_0 : Option (List (List Nat)) := none
def l21_0 : List Nat := []
theorem cd21_0 : dOk d21_0 g21_0 l21_0 = true := by kernel_rfl
def g21_1 : List G := [⟨(some 16), .call 82 [], none⟩,
  ⟨(some 1), .alloc (.agg [.agg [.int .i64 (0), .int .i64 (0), .int .i64 (0), .int .i64 (0), .int .i64 (0)], .int .i64 (0), .nils 7]), none⟩,
  ⟨none, .st (some 7) (.t 1) (.t 16), none⟩]
def d21_1 : Option (List (List Nat)) := none
def l21_1 : List Nat := []
theorem cd21_1 : dOk d21_1 g21_1 l21_1 = true := by kernel_rfl
def g21_2 : List G := [⟨(some 17), .bld [.int .i64 (0), .int .i64 (0), .int .i64 (0), .int .i64 (0), .int .i64 (0), .int .i64 (0)] [(0, (.c (.int .i64 (31)))), (1, (.c (.int .i64 (1)))), (2, (.c (.int .i64 (1)))), (3, (.c (.int .i64 (1)))), (4, (.c (.int .i64 (1)))), (5, (.c (.int .i64 (31))))], none⟩,
  ⟨(some 2), .alloc (.agg [.int .i64 (0), .int .i64 (0), .int .i64 (0), .int .i64 (0), .int .i64 (0), .int .i64 (0)]), none⟩,
  ⟨none, .st (some 6) (.t 2) (.t 17), none⟩]
def d21_2 : Option (List (List Nat)) := none
def l21_2 : List Nat := []
theorem cd21_2 : dOk d21_2 g21_2 l21_2 = true := by kernel_rfl
def g21_3 : List G := [⟨(some 19), .ld (some 7) (.t 1), none⟩,
  ⟨(some 20), .ld (some 6) (.t 2), none⟩,
  ⟨(some 21), .call 26 [(.t 19), (.t 20)], none⟩,
  ⟨(some 18), .mv (.t 21), none⟩,
  ⟨(some 22), .ext (.t 18) 0, none⟩,
  ⟨(some 23), .ext (.t 18) 1, none⟩,
  ⟨(some 3), .mv (.t 22), none⟩,
  ⟨(some 4), .mv (.t 23), none⟩]
def d21_3 : Option (List (List Nat)) := none
def l21_3 : List Nat := []
theorem cd21_3 : dOk d21_3 g21_3 l21_3 = true := by kernel_rfl
def g21_4 : List G := [⟨(some 25), .ld (some 7) (.t 1), none⟩,
  ⟨(some 26), .ld (some 6) (.t 2), none⟩,
  ⟨(some 27), .call 12 [(.t 25), (.t 26)], none⟩,
  ⟨(some 24), .mv (.t 27), none⟩,
  ⟨(some 28), .ext (.t 24) 0, none⟩,
  ⟨(some 29), .ext (.t 24) 1, none⟩,
  ⟨(some 5), .mv (.t 28), none⟩,
  ⟨(some 6), .mv (.t 29), none⟩]
def d21_4 : Option (List (List Nat)) := none
def l21_4 : List Nat := []
theorem cd21_4 : dOk d21_4 g21_4 l21_4 = true := by kernel_rfl
def g21_5 : List G := [⟨(some 31), .ld (some 7) (.t 1), none⟩,
  ⟨(some 32), .ld (some 6) (.t 2), none⟩,
  ⟨(some 33), .bld [.int .i64 (0), .int .i64 (0), .int .i64 (0), .int .i64 (0), .int .i64 (0), .int .i64 (0)] [(0, (.c (.int .i64 (16)))), (1, (.c (.int .i64 (1)))), (2, (.c (.int .i64 (1)))), (3, (.c (.int .i64 (1)))), (4, (.c (.int .i64 (1)))), (5, (.c (.int .i64 (1))))], none⟩,
  ⟨(some 34), .bs 1 [(.c (.int .i64 (0)))], none⟩,
  ⟨(some 35), .call 14 [(.t 31), (.t 32), (.t 33), (.t 34)], none⟩,
  ⟨(some 30), .mv (.t 35), none⟩,
  ⟨(some 36), .ext (.t 30) 0, none⟩,
  ⟨(some 37), .ext (.t 30) 1, none⟩,
  ⟨(some 7), .mv (.t 36), none⟩,
  ⟨(some 8), .mv (.t 37), none⟩]
def d21_5 : Option (List (List Nat)) := none
def l21_5 : List Nat := []
theorem cd21_5 : dOk d21_5 g21_5 l21_5 = true := by kernel_rfl
def g21_6 : List G := [⟨(some 39), .ld (some 7) (.t 1), none⟩,
  ⟨(some 40), .call 55 [(.t 39)], none⟩,
  ⟨(some 38), .mv (.t 40), none⟩,
  ⟨(some 41), .ext (.t 38) 0, none⟩,
  ⟨(some 42), .ext (.t 38) 1, none⟩,
  ⟨(some 9), .alloc (.agg [.int .i64 (0), .int .i64 (0), .int .i64 (0), .int .i64 (0), .int .i64 (0), .int .i64 (0)]), none⟩,
  ⟨none, .st (some 6) (.t 9) (.t 41), none⟩,
  ⟨(some 10), .mv (.t 42), none⟩]
def d21_6 : Option (List (List Nat)) := none
def l21_6 : List Nat := []
theorem cd21_6 : dOk d21_6 g21_6 l21_6 = true := by kernel_rfl
def g21_7 : List G := [⟨(some 44), .fa 0 0 (.t 1), none⟩,
  ⟨(some 45), .ld (some 5) (.t 44), none⟩,
  ⟨(some 46), .bld [.int .i64 (0), .int .i64 (0), .int .i64 (0), .int .i64 (0), .int .i64 (0), .int .i64 (0)] [(0, (.c (.int .i64 (2)))), (1, (.c (.int .i64 (1)))), (2, (.c (.int .i64 (0)))), (3, (.c (.int .i64 (0)))), (4, (.c (.int .i64 (0)))), (5, (.c (.int .i64 (0))))], none⟩,
  ⟨(some 47), .bld [.int .i64 (0), .int .i64 (0), .int .i64 (0), .int .i64 (0), .int .i64 (0), .int .i64 (0)] [(0, (.c (.int .i64 (3)))), (1, (.c (.int .i64 (2)))), (2, (.c (.int .i64 (0)))), (3, (.c (.int .i64 (0)))), (4, (.c (.int .i64 (0)))), (5, (.c (.int .i64 (0))))], none⟩,
  ⟨(some 48), .call 36 [(.t 45), (.t 46), (.t 47)], none⟩,
  ⟨(some 43), .mv (.t 48), none⟩,
  ⟨(some 49), .ext (.t 43) 0, none⟩,
  ⟨(some 50), .ext (.t 43) 1, none⟩,
  ⟨(some 11), .mv (.t 49), none⟩,
  ⟨(some 12), .mv (.t 50), none⟩]
def d21_7 : Option (List (List Nat)) := none
def l21_7 : List Nat := []
theorem cd21_7 : dOk d21_7 g21_7 l21_7 = true := by kernel_rfl
def g21_8 : List G := [⟨(some 52), .fa 0 0 (.t 1), none⟩,
  ⟨(some 53), .ld (some 5) (.t 52), none⟩,
  ⟨(some 54), .bld [.int .i64 (0), .int .i64 (0), .int .i64 (0), .int .i64 (0), .int .i64 (0), .int .i64 (0)] [(0, (.c (.int .i64 (3)))), (1, (.c (.int .i64 (1)))), (2, (.c (.int .i64 (0)))), (3, (.c (.int .i64 (0)))), (4, (.c (.int .i64 (0)))), (5, (.c (.int .i64 (0))))], none⟩,
  ⟨(some 55), .bs 1 [(.c (.int .i64 (1))), (.c (.int .i64 (0)))], none⟩,
  ⟨(some 56), .call 19 [(.t 53), (.t 54), (.t 55)], none⟩,
  ⟨(some 51), .mv (.t 56), none⟩,
  ⟨(some 57), .ext (.t 51) 0, none⟩,
  ⟨(some 58), .ext (.t 51) 1, none⟩,
  ⟨(some 13), .alloc (.agg [.int .i64 (0), .int .i64 (0), .int .i64 (0), .int .i64 (0), .int .i64 (0), .int .i64 (0)]), none⟩,
  ⟨none, .st (some 6) (.t 13) (.t 57), none⟩,
  ⟨(some 14), .mv (.t 58), none⟩]
def d21_8 : Option (List (List Nat)) := none
def l21_8 : List Nat := []
theorem cd21_8 : dOk d21_8 g21_8 l21_8 = true := by kernel_rfl
def g21_9 : List G := [⟨(some 59), .mv (.t 4), none⟩,
  ⟨(some 60), .bin .eql (.t 59) (.c (.int .i64 (0))), none⟩,
  ⟨(some 61), .mv (.t 60), none⟩,
  ⟨(some 62), .mv (.t 6), some (61, true)⟩,
  ⟨(some 63), .bin .eql (.t 62) (.c (.int .i64 (0))), some (61, true)⟩,
  ⟨(some 64), .pick (.t 61) (.t 63) (.c (.bool false)), none⟩,
  ⟨(some 65), .mv (.t 64), none⟩,
  ⟨(some 66), .mv (.t 8), some (65, true)⟩,
  ⟨(some 67), .bin .eql (.t 66) (.c (.int .i64 (0))), some (65, true)⟩,
  ⟨(some 68), .pick (.t 65) (.t 67) (.c (.bool false)), none⟩,
  ⟨(some 69), .mv (.t 68), none⟩,
  ⟨(some 70), .mv (.t 10), some (69, true)⟩,
  ⟨(some 71), .bin .eql (.t 70) (.c (.int .i64 (0))), some (69, true)⟩,
  ⟨(some 72), .pick (.t 69) (.t 71) (.c (.bool false)), none⟩,
  ⟨(some 73), .mv (.t 72), none⟩,
  ⟨(some 74), .mv (.t 12), some (73, true)⟩,
  ⟨(some 75), .bin .eql (.t 74) (.c (.int .i64 (0))), some (73, true)⟩,
  ⟨(some 76), .pick (.t 73) (.t 75) (.c (.bool false)), none⟩,
  ⟨(some 77), .mv (.t 76), none⟩,
  ⟨(some 78), .mv (.t 14), some (77, true)⟩,
  ⟨(some 79), .bin .eql (.t 78) (.c (.int .i64 (0))), some (77, true)⟩,
  ⟨(some 80), .pick (.t 77) (.t 79) (.c (.bool false)), none⟩,
  ⟨(some 15), .mv (.t 80), none⟩]
def d21_9 : Option (List (List Nat)) := none
def l21_9 : List Nat := []
theorem cd21_9 : dOk d21_9 g21_9 l21_9 = true := by kernel_rfl
def g21_10 : List G := [⟨(some 81), .mv (.t 15), none⟩,
  ⟨(some 82), .mv (.t 81), none⟩,
  ⟨(some 83), .mv (.t 3), some (82, true)⟩,
  ⟨(some 84), .bs 1 [(.c (.int .i64 (1))), (.c (.int .i64 (2))), (.c (.int .i64 (3)))], some (82, true)⟩,
  ⟨(some 85), .call 16 [(.t 83), (.t 84)], some (82, true)⟩,
  ⟨(some 86), .pick (.t 82) (.t 85) (.c (.bool false)), none⟩,
  ⟨(some 87), .mv (.t 86), none⟩,
  ⟨(some 88), .mv (.t 5), some (87, true)⟩,
  ⟨(some 89), .bs 1 [(.c (.int .i64 (0)))], some (87, true)⟩,
  ⟨(some 90), .call 16 [(.t 88), (.t 89)], some (87, true)⟩,
  ⟨(some 91), .pick (.t 87) (.t 90) (.c (.bool false)), none⟩,
  ⟨(some 92), .mv (.t 91), none⟩,
  ⟨(some 93), .mv (.t 7), some (92, true)⟩,
  ⟨(some 94), .bs 1 [(.c (.int .i64 (3)))], some (92, true)⟩,
  ⟨(some 95), .call 16 [(.t 93), (.t 94)], some (92, true)⟩,
  ⟨(some 96), .pick (.t 92) (.t 95) (.c (.bool false)), none⟩,
  ⟨(some 97), .mv (.t 96), none⟩,
  ⟨(some 98), .ld (some 6) (.t 9), some (97, true)⟩,
  ⟨(some 99), .bld [.int .i64 (0), .int .i64 (0), .int .i64 (0), .int .i64 (0), .int .i64 (0), .int .i64 (0)] [(0, (.c (.int .i64 (0)))), (1, (.c (.int .i64 (0)))), (2, (.c (.int .i64 (0)))), (3, (.c (.int .i64 (0)))), (4, (.c (.int .i64 (0)))), (5, (.c (.int .i64 (2))))], some (97, true)⟩,
  ⟨(some 100), .eqv (.ar 6 (.i .i64)) false (.t 98) (.t 99), some (97, true)⟩,
  ⟨(some 101), .pick (.t 97) (.t 100) (.c (.bool false)), none⟩,
  ⟨(some 102), .mv (.t 101), none⟩,
  ⟨(some 103), .mv (.t 11), some (102, true)⟩,
  ⟨(some 104), .bin .eql (.t 103) (.c (.int .i64 (2))), some (102, true)⟩,
  ⟨(some 105), .pick (.t 102) (.t 104) (.c (.bool false)), none⟩,
  ⟨(some 106), .mv (.t 105), none⟩,
  ⟨(some 107), .ld (some 6) (.t 13), some (106, true)⟩,
  ⟨(some 108), .bld [.int .i64 (0), .int .i64 (0), .int .i64 (0), .int .i64 (0), .int .i64 (0), .int .i64 (0)] [(0, (.c (.int .i64 (16)))), (1, (.c (.int .i64 (1)))), (2, (.c (.int .i64 (1)))), (3, (.c (.int .i64 (1)))), (4, (.c (.int .i64 (1)))), (5, (.c (.int .i64 (1))))], some (106, true)⟩,
  ⟨(some 109), .eqv (.ar 6 (.i .i64)) false (.t 107) (.t 108), some (106, true)⟩,
  ⟨(some 110), .pick (.t 106) (.t 109) (.c (.bool false)), none⟩,
  ⟨(some 0), .mv (.t 110), none⟩]
def d21_10 : Option (List (List Nat)) := none
def l21_10 : List Nat := []
theorem cd21_10 : dOk d21_10 g21_10 l21_10 = true := by kernel_rfl
def c21 : AC := (.seq (.reg d21_0 g21_0) (.seq (.reg d21_1 g21_1) (.seq (.reg d21_2 g21_2) (.seq (.reg d21_3 g21_3) (.seq (.reg d21_4 g21_4) (.seq (.reg d21_5 g21_5) (.seq (.reg d21_6 g21_6) (.seq (.reg d21_7 g21_7) (.seq (.reg d21_8 g21_8) (.seq (.reg d21_9 g21_9) (.seq (.reg d21_10 g21_10) .ret)))))))))))
def r21 : List RV := [.tmp 0]
theorem cc21 : (Try.f21.body.bind (cCode Try.prog Try.f21.ntmps)) = some c21 := by kernel_rfl
theorem cr21 : cRes Try.prog Try.f21.results.toList = some r21 := by kernel_rfl
theorem ca21 : callable Try.prog 21 = true := by kernel_rfl
def g23_0 : List G := [⟨(some 4), .mv (.c (.int .i64 (0))), none⟩]
def d23_0 : Option (List (List Nat)) := none
def l23_0 : List Nat := []
theorem cd23_0 : dOk d23_0 g23_0 l23_0 = true := by kernel_rfl
def g23_1 : List G := [⟨(some 5), .mv (.t 0), none⟩,
  ⟨(some 6), .mv (.t 1), none⟩,
  ⟨(some 7), .bin .rem (.t 5) (.t 6), none⟩,
  ⟨(some 8), .mv (.t 1), none⟩,
  ⟨(some 9), .bin .add (.t 7) (.t 8), none⟩,
  ⟨(some 10), .mv (.t 1), none⟩,
  ⟨(some 11), .bin .rem (.t 9) (.t 10), none⟩,
  ⟨(some 4), .mv (.t 11), none⟩]
def d23_1 : Option (List (List Nat)) := none
def l23_1 : List Nat := []
theorem cd23_1 : dOk d23_1 g23_1 l23_1 = true := by kernel_rfl
def c23 : AC := (.seq (.reg d23_0 g23_0) (.seq (.reg d23_1 g23_1) .ret))
def r23 : List RV := [.tmp 4]
theorem cc23 : (Try.f23.body.bind (cCode Try.prog Try.f23.ntmps)) = some c23 := by kernel_rfl
theorem cr23 : cRes Try.prog Try.f23.results.toList = some r23 := by kernel_rfl
theorem ca23 : callable Try.prog 23 = true := by kernel_rfl
def g25_0 : List G := [⟨(some 4), .mv (.c (.int .i64 (0))), none⟩]
def d25_0 : Option (List (List Nat)) := none
def l25_0 : List Nat := []
theorem cd25_0 : dOk d25_0 g25_0 l25_0 = true := by kernel_rfl
def g25_1 : List G := [⟨(some 5), .mv (.t 0), none⟩,
  ⟨(some 6), .len (.t 5), none⟩,
  ⟨(some 7), .bin .eql (.t 6) (.c (.int .i64 (0))), none⟩]
def d25_1 : Option (List (List Nat)) := none
def l25_1 : List Nat := []
theorem cd25_1 : dOk d25_1 g25_1 l25_1 = true := by kernel_rfl
def g25_2 : List G := [⟨(some 4), .mv (.c (.int .i64 (0))), none⟩]
def d25_2 : Option (List (List Nat)) := none
def l25_2 : List Nat := []
theorem cd25_2 : dOk d25_2 g25_2 l25_2 = true := by kernel_rfl
def g25_3 : List G := [⟨(some 8), .mv (.t 0), none⟩,
  ⟨(some 9), .mv (.t 1), none⟩,
  ⟨(some 10), .mv (.t 0), none⟩,
  ⟨(some 11), .len (.t 10), none⟩,
  ⟨(some 12), .call 23 [(.t 9), (.t 11)], none⟩,
  ⟨(some 13), .is 1 (.t 8) (.t 12), none⟩,
  ⟨(some 14), .ld none (.t 13), none⟩,
  ⟨(some 4), .mv (.t 14), none⟩]
def d25_3 : Option (List (List Nat)) := none
def l25_3 : List Nat := []
theorem cd25_3 : dOk d25_3 g25_3 l25_3 = true := by kernel_rfl
def c25 : AC := (.seq (.reg d25_0 g25_0) (.seq (.seq (.reg d25_1 g25_1) (.cond (.t 7) (.seq (.reg d25_2 g25_2) .ret) .skip)) (.seq (.reg d25_3 g25_3) .ret)))
def r25 : List RV := [.tmp 4]
theorem cc25 : (Try.f25.body.bind (cCode Try.prog Try.f25.ntmps)) = some c25 := by kernel_rfl
theorem cr25 : cRes Try.prog Try.f25.results.toList = some r25 := by kernel_rfl
theorem ca25 : callable Try.prog 25 = true := by kernel_rfl
def g26_0 : List G := [⟨(some 2), .box (.t 0), none⟩,
  ⟨(some 3), .box (.t 1), none⟩,
  ⟨(some 4), .mv (.c (.nils 1)), none⟩,
  ⟨(some 5), .mv (.c (.int .i64 (0))), none⟩]
def d26_0 : Option (List (List Nat)) := none
def l26_0 : List Nat := []
theorem cd26_0 : dOk d26_0 g26_0 l26_0 = true := by kernel_rfl
def g26_1 : List G := [⟨(some 7), .ld (some 7) (.t 2), none⟩,
  ⟨(some 8), .call 47 [(.t 7)], none⟩,
  ⟨(some 9), .ld (some 6) (.t 3), none⟩,
  ⟨(some 10), .call 45 [(.t 9)], none⟩,
  ⟨(some 11), .bs 1 [(.t 8), (.t 10)], none⟩,
  ⟨(some 12), .call 64 [(.t 11)], none⟩,
  ⟨(some 6), .mv (.t 12), none⟩]
def d26_1 : Option (List (List Nat)) := (some [[], [0], [], [2, 1], [1, 3], [4, 3], [5, 5, 0, 1, 2, 3, 4, 5]])
def l26_1 : List Nat := [0, 1, 0, 7, 15, 31, 63]
theorem cd26_1 : dOk d26_1 g26_1 l26_1 = true := by kernel_rfl
def g26_2 : List G := [⟨(some 13), .mv (.t 6), none⟩,
  ⟨(some 14), .bin .neq (.t 13) (.c (.int .i64 (0))), none⟩]
def d26_2 : Option (List (List Nat)) := none
def l26_2 : List Nat := []
theorem cd26_2 : dOk d26_2 g26_2 l26_2 = true := by kernel_rfl
def g26_3 : List G := [⟨(some 15), .mv (.t 6), none⟩,
  ⟨(some 4), .mv (.c (.nils 1)), none⟩,
  ⟨(some 5), .mv (.t 15), none⟩]
def d26_3 : Option (List (List Nat)) := none
def l26_3 : List Nat := []
theorem cd26_3 : dOk d26_3 g26_3 l26_3 = true := by kernel_rfl
def g26_4 : List G := [⟨(some 16), .ld (some 7) (.t 2), none⟩,
  ⟨(some 17), .ld (some 6) (.t 3), none⟩,
  ⟨(some 18), .call 65 [(.t 16), (.t 17)], none⟩,
  ⟨(some 19), .call 72 [(.t 18)], none⟩,
  ⟨(some 4), .mv (.t 19), none⟩,
  ⟨(some 5), .mv (.c (.int .i64 (0))), none⟩]
def d26_4 : Option (List (List Nat)) := none
def l26_4 : List Nat := []
theorem cd26_4 : dOk d26_4 g26_4 l26_4 = true := by kernel_rfl
def c26 : AC := (.seq (.reg d26_0 g26_0) (.seq (.seq (.reg d26_1 g26_1) (.seq (.reg d26_2 g26_2) (.cond (.t 14) (.seq (.reg d26_3 g26_3) .ret) .skip))) (.seq (.reg d26_4 g26_4) .ret)))
def r26 : List RV := [.tmp 4, .tmp 5]
theorem cc26 : (Try.f26.body.bind (cCode Try.prog Try.f26.ntmps)) = some c26 := by kernel_rfl
theorem cr26 : cRes Try.prog Try.f26.results.toList = some r26 := by kernel_rfl
theorem ca26 : callable Try.prog 26 = true := by kernel_rfl
end Go.Proofs.Ytkjkbpgdpnapfaa

/-
  SMALL FUNCTIONS, EACH BY ITS CONTRACT: In, Has, Mod, At, IndexFunc and ContainsFunc over whole numbers.
-/
namespace Go.Proofs.Ytkjkbpgdpnapfaa
open Go Go.Abs
open Go.Abs.Enc (enc)
theorem F94 (n lo hi : Int) : Ctr Try.prog 94 [enc n, enc lo, enc hi] (enc (decide (lo ≤ n) && decide (n ≤ hi))) := by
  refine Ctr.mk' Try.func94 ca94 cc94 cr94 (Nat.le_of_ble_eq_true rfl) (fun hwf W0 D0 E1 => ?_)
  simp only [c94, r94, idx, Nat.zero_add, Nat.reduceAdd]
  refine AW.seq (AW.reg cd94_0 fun K hK => ?_)
  simp only [g94_0, bR, Nat.reduceEqDiff, reduceIte, Int.reduceBNe, Int.reduceBEq]
  refine .done (hK _ ?_); clear hK K; simp only [thenQ, blockQ]
  refine AW.seq (AW.reg cd94_1 fun K hK => ?_)
  simp only [g94_1, bR, Nat.reduceEqDiff, reduceIte, Int.reduceBNe, Int.reduceBEq]
  refine .guard (fun h => ?_) (fun h => ?_)
  · simp only [bR, Nat.reduceEqDiff, reduceIte, Int.reduceBNe, Int.reduceBEq, h]
    refine .done (hK _ ?_); clear hK K; simp only [thenQ, blockQ]
    refine AW.ret ?_
    simp only [blockQ, thenQ, bR, Nat.reduceEqDiff, reduceIte, Int.reduceBNe, Int.reduceBEq]
    simp_all
  · simp only [bR, Nat.reduceEqDiff, reduceIte, Int.reduceBNe, Int.reduceBEq, h]
    refine .done (hK _ ?_); clear hK K; simp only [thenQ, blockQ]
    refine AW.ret ?_
    simp only [blockQ, thenQ, bR, Nat.reduceEqDiff, reduceIte, Int.reduceBNe, Int.reduceBEq]
    simp at h
    simp; omega
theorem tmod_wrap (n d : Int) (h0 : 0 < d) (h1 : d ≤ 4611686018427387904) : IntKind.i64.wrap (n.tmod d + d) = n.tmod d + d ∧ (n.tmod d + d).tmod d = n % d := by
  have a1 : n.tmod d < d := Int.tmod_lt_of_pos n h0
  have a2 : -d < n.tmod d := by
    have := Int.tmod_lt_of_pos (-n) h0
    rw [Int.neg_tmod] at this
    omega
  refine ⟨wrap_id _ (by omega) (by omega), ?_⟩
  rw [Int.tmod_eq_emod_of_nonneg (by omega), Int.add_emod_right]
  rw [Int.tmod_def, Int.sub_mul_emod_self_left]
theorem F23 (n d : Int) (h0 : 0 < d) (h1 : d ≤ 4611686018427387904) : Ctr Try.prog 23 [enc n, enc d] (enc (n % d)) := by
  refine Ctr.mk' Try.func23 ca23 cc23 cr23 (Nat.le_of_ble_eq_true rfl) (fun hwf W0 D0 E1 => ?_)
  simp only [c23, r23, idx, Nat.zero_add, Nat.reduceAdd]
  have hd : ¬ d = 0 := by omega
  refine AW.seq (AW.reg cd23_0 fun K hK => ?_)
  simp only [g23_0, bR, Nat.reduceEqDiff, reduceIte, Int.reduceBNe, Int.reduceBEq]
  refine .done (hK _ ?_); clear hK K; simp only [thenQ, blockQ]
  refine AW.seq (AW.reg cd23_1 fun K hK => ?_)
  simp only [g23_1, bR, Nat.reduceEqDiff, reduceIte, Int.reduceBNe, Int.reduceBEq]
  simp only [hd, bR, Nat.reduceEqDiff, reduceIte, Int.reduceBNe, Int.reduceBEq]
  refine .done (hK _ ?_); clear hK K; simp only [thenQ, blockQ]
  refine AW.ret ?_
  simp only [blockQ, thenQ, bR, Nat.reduceEqDiff, reduceIte, Int.reduceBNe, Int.reduceBEq]
  rw [(tmod_wrap n d h0 h1).1, (tmod_wrap n d h0 h1).2]
/-- The text's number at a place, the text going round. -/
def at' (c : List Int) (i : Int) : Int := if c = [] then 0 else c.getD (i % c.length).toNat 0
theorem F25 (c : List Int) (i : Int) (hc : c.length ≤ 4611686018427387904) : Ctr Try.prog 25 [enc c, enc i] (enc (at' c i)) := by
  refine Ctr.mk' Try.func25 ca25 cc25 cr25 (Nat.le_of_ble_eq_true rfl) (fun hwf W0 D0 E1 => ?_)
  simp only [c25, r25, idx, Nat.zero_add, Nat.reduceAdd]
  refine AW.seq (AW.reg cd25_0 fun K hK => ?_)
  simp only [g25_0, bR, Nat.reduceEqDiff, reduceIte, Int.reduceBNe, Int.reduceBEq]
  refine .done (hK _ ?_); clear hK K; simp only [thenQ, blockQ]
  refine AW.seq (AW.seq ?_)
  refine AW.reg cd25_1 fun K hK => ?_
  simp only [g25_1, bR, Nat.reduceEqDiff, reduceIte, Int.reduceBNe, Int.reduceBEq]
  simp only [useR, bR, Nat.reduceEqDiff, reduceIte, Int.reduceBNe, Int.reduceBEq]
  refine .done (hK _ ?_); clear hK K; simp only [thenQ, blockQ]
  refine AW.ite ?_
  simp only [condQ, bR, Nat.reduceEqDiff, reduceIte, Int.reduceBNe, Int.reduceBEq]
  refine ⟨fun h => ?_, fun h => ?_⟩
  · refine AW.seq (AW.reg cd25_2 fun K hK => ?_)
    simp only [g25_2, bR, Nat.reduceEqDiff, reduceIte, Int.reduceBNe, Int.reduceBEq]
    refine .done (hK _ ?_); clear hK K; simp only [thenQ, blockQ]
    refine AW.ret ?_
    simp only [blockQ, thenQ, bR, Nat.reduceEqDiff, reduceIte, Int.reduceBNe, Int.reduceBEq]
    simp at h
    simp [at', h]
  · simp at h
    have hpos : 0 < c.length := List.length_pos_iff.2 h
    have k1 : 0 ≤ i % (c.length : Int) := Int.emod_nonneg _ (by omega)
    have k2 : i % (c.length : Int) < c.length := Int.emod_lt_of_pos _ (by omega)
    have k3 : (i % (c.length : Int)).toNat < c.length := by omega
    refine AW.skip ?_; simp only [thenQ, blockQ, reduceIte, Nat.reduceEqDiff]
    refine AW.seq (AW.reg cd25_3 fun K hK => ?_)
    simp only [g25_3, bR, Nat.reduceEqDiff, reduceIte, Int.reduceBNe, Int.reduceBEq]
    simp only [useR, List.map_cons, List.map_nil, e_fin, bR, Nat.reduceEqDiff, reduceIte, Int.reduceBNe, Int.reduceBEq]
    refine .flat _ (F23 i c.length (by omega) (by omega)) rfl ?_
    simp only [bR, Nat.reduceEqDiff, reduceIte, Int.reduceBNe, Int.reduceBEq]
    simp only [isE_enc 1 ⟨k1, k3⟩ rfl, okR, bR, Nat.reduceEqDiff, reduceIte, Int.reduceBNe, Int.reduceBEq]
    refine .done (hK _ ?_); clear hK K; simp only [thenQ, blockQ]
    refine AW.ret ?_
    simp only [blockQ, thenQ, bR, Nat.reduceEqDiff, reduceIte, Int.reduceBNe, Int.reduceBEq]
    simp [at', h, List.getD_eq_getElem?_getD, k3]
end Go.Proofs.Ytkjkbpgdpnapfaa

/-
  CHECKS OF THE REFERENCE THAT LOOK AT AN ARRAY'S NUMBERS ONE BY ONE, EACH BY ITS CONTRACT: CheckMark, CheckReading, CheckWear, Sharp.
-/
namespace Go.Proofs.Ytkjkbpgdpnapfaa
open Go Go.Abs
open Go.Abs.Enc (enc)
def inR (lo hi n : Int) : Bool := decide (lo ≤ n) && decide (n ≤ hi)
def band (a b : Int) : Int := IntKind.i64.wrap ((BitVec.ofInt IntKind.i64.bits a &&& BitVec.ofInt IntKind.i64.bits b).toNat : Int)
def shl (a : Int) (k : Nat) : Int := IntKind.i64.wrap (a * 2 ^ min k IntKind.i64.bits)
theorem F42 (m : Arr 6 Int) : Ctr Try.prog 42 [enc m] (enc (if (List.range 6).all (fun i => inR 0 4 (m.g i)) then (0 : Int) else 10)) := by
  refine Ctr.mk' Try.func42 ca42 cc42 cr42 (Nat.le_of_ble_eq_true rfl) (fun hwf W0 D0 E1 => ?_)
  simp only [c42, r42, idx, Nat.zero_add, Nat.reduceAdd]
  refine AW.seq (AW.reg cd42_0 fun K hK => ?_)
  simp only [g42_0, bR, Nat.reduceEqDiff, reduceIte, Int.reduceBNe, Int.reduceBEq]
  refine .done (hK _ ?_); clear hK K; simp only [thenQ, blockQ]
  refine AW.seq ?_
  refine AW.seq (AW.reg cd42_1 fun K hK => ?_)
  simp only [g42_1, bR, Nat.reduceEqDiff, reduceIte, Int.reduceBNe, Int.reduceBEq]
  refine .done (hK _ ?_); clear hK K; simp only [thenQ, blockQ]
  refine AW.block (AW.loop (fun i : Nat => mkA [(1, .ptr 1 []), (2, .int .i64 0), (3, .int .i64 i)] [(1, .box (enc m))]) (fun j => j ≤ 6 ∧ ∀ i, i < j → inR 0 4 (m.g i) = true) (fun i => 6 - i) 0 ⟨by omega, fun k h => by omega⟩ ?_ (fun i hi => ?_))
  · refine Sub.of_lists ?_ ?_ ?_ ?_ <;> simp [subT, subO, onlyT, onlyO, isIn, look_cons, lookO_cons, lookO_nil, AV.only, AV.onlys, AO.only, onlys_map, onlys_append, e_only, e_int, e_bool]
  · refine AW.seq (AW.seq ?_)
    refine AW.reg cd42_2 fun K hK => ?_
    simp only [g42_2, bR, Nat.reduceEqDiff, reduceIte, Int.reduceBNe, Int.reduceBEq]
    refine .done (hK _ ?_); clear hK K; simp only [thenQ, blockQ]
    refine AW.ite ?_
    simp only [condQ, bR, Nat.reduceEqDiff, reduceIte, Int.reduceBNe, Int.reduceBEq]
    refine ⟨fun h => ?_, fun h => ?_⟩
    · have hlt : i < 6 := by simp at h; omega
      refine AW.skip ?_; simp only [thenQ, blockQ, reduceIte, Nat.reduceEqDiff]
      refine AW.seq (AW.block ?_)
      refine AW.seq (AW.reg cd42_3 fun K hK => ?_)
      simp only [g42_3, bR, Nat.reduceEqDiff, reduceIte, Int.reduceBNe, Int.reduceBEq]
      simp only [useR, inB_nat 1 m hlt rfl, atL_g m hlt, okR, bR, Nat.reduceEqDiff, reduceIte, Int.reduceBNe, Int.reduceBEq]
      refine .flat _ (F94 _ 0 4) rfl ?_
      simp only [bR, Nat.reduceEqDiff, reduceIte, Int.reduceBNe, Int.reduceBEq]
      refine .done (hK _ ?_); clear hK K; simp only [thenQ, blockQ]
      refine AW.ite ?_
      simp only [condQ, bR, Nat.reduceEqDiff, reduceIte, Int.reduceBNe, Int.reduceBEq]
      refine ⟨fun h => ?_, fun h => ?_⟩
      · refine AW.seq (AW.reg cd42_4 fun K hK => ?_)
        simp only [g42_4, bR, Nat.reduceEqDiff, reduceIte, Int.reduceBNe, Int.reduceBEq]
        refine .done (hK _ ?_); clear hK K; simp only [thenQ, blockQ]
        refine AW.ret ?_
        simp only [blockQ, thenQ, bR, Nat.reduceEqDiff, reduceIte, Int.reduceBNe, Int.reduceBEq]
        rw [all_false i hlt]
        · simp
        · simp at h; simp [inR]; omega
      · refine AW.skip ?_; simp only [thenQ, blockQ, reduceIte, Nat.reduceEqDiff]
        refine AW.reg cd42_5 fun K hK => ?_
        simp only [g42_5, bR, Nat.reduceEqDiff, reduceIte, Int.reduceBNe, Int.reduceBEq]
        refine .done (hK _ ?_); clear hK K; simp only [thenQ, blockQ]
        refine ⟨i + 1, ⟨by omega, fun k hk => ?_⟩, by omega, ?_⟩
        · by_cases hk' : k = i
          · subst hk'
            simpa [inR] using h
          · exact hi.2 k (by omega)
        · rw [wrap_id _ (by omega) (by omega)]
          refine Sub.of_lists ?_ ?_ ?_ ?_ <;> simp [subT, subO, onlyT, onlyO, isIn, look_cons, lookO_cons, lookO_nil, AV.only, AV.onlys, AO.only, onlys_map, onlys_append, e_only, e_int, e_bool]
    · have hge : i = 6 := by simp at h; omega
      subst hge
      refine AW.exit ?_; simp only [thenQ, blockQ, reduceIte, Nat.reduceEqDiff]
      refine AW.seq (AW.reg cd42_6 fun K hK => ?_)
      simp only [g42_6, bR, Nat.reduceEqDiff, reduceIte, Int.reduceBNe, Int.reduceBEq]
      refine .done (hK _ ?_); clear hK K; simp only [thenQ, blockQ]
      refine AW.ret ?_
      simp only [blockQ, thenQ, bR, Nat.reduceEqDiff, reduceIte, Int.reduceBNe, Int.reduceBEq]
      rw [all_true hi.2]
      simp
theorem F46 (m : Arr 6 Int) : Ctr Try.prog 46 [enc m] (enc (if (List.range 6).all (fun i => inR 1 31 (m.g i)) then (0 : Int) else 12)) := by
  refine Ctr.mk' Try.func46 ca46 cc46 cr46 (Nat.le_of_ble_eq_true rfl) (fun hwf W0 D0 E1 => ?_)
  simp only [c46, r46, idx, Nat.zero_add, Nat.reduceAdd]
  refine AW.seq (AW.reg cd46_0 fun K hK => ?_)
  simp only [g46_0, bR, Nat.reduceEqDiff, reduceIte, Int.reduceBNe, Int.reduceBEq]
  refine .done (hK _ ?_); clear hK K; simp only [thenQ, blockQ]
  refine AW.seq ?_
  refine AW.seq (AW.reg cd46_1 fun K hK => ?_)
  simp only [g46_1, bR, Nat.reduceEqDiff, reduceIte, Int.reduceBNe, Int.reduceBEq]
  refine .done (hK _ ?_); clear hK K; simp only [thenQ, blockQ]
  refine AW.block (AW.loop (fun i : Nat => mkA [(1, .ptr 1 []), (2, .int .i64 0), (3, .int .i64 i)] [(1, .box (enc m))]) (fun j => j ≤ 6 ∧ ∀ i, i < j → inR 1 31 (m.g i) = true) (fun i => 6 - i) 0 ⟨by omega, fun k h => by omega⟩ ?_ (fun i hi => ?_))
  · refine Sub.of_lists ?_ ?_ ?_ ?_ <;> simp [subT, subO, onlyT, onlyO, isIn, look_cons, lookO_cons, lookO_nil, AV.only, AV.onlys, AO.only, onlys_map, onlys_append, e_only, e_int, e_bool]
  · refine AW.seq (AW.seq ?_)
    refine AW.reg cd46_2 fun K hK => ?_
    simp only [g46_2, bR, Nat.reduceEqDiff, reduceIte, Int.reduceBNe, Int.reduceBEq]
    refine .done (hK _ ?_); clear hK K; simp only [thenQ, blockQ]
    refine AW.ite ?_
    simp only [condQ, bR, Nat.reduceEqDiff, reduceIte, Int.reduceBNe, Int.reduceBEq]
    refine ⟨fun h => ?_, fun h => ?_⟩
    · have hlt : i < 6 := by simp at h; omega
      refine AW.skip ?_; simp only [thenQ, blockQ, reduceIte, Nat.reduceEqDiff]
      refine AW.seq (AW.block ?_)
      refine AW.seq (AW.reg cd46_3 fun K hK => ?_)
      simp only [g46_3, bR, Nat.reduceEqDiff, reduceIte, Int.reduceBNe, Int.reduceBEq]
      simp only [useR, inB_nat 1 m hlt rfl, atL_g m hlt, okR, bR, Nat.reduceEqDiff, reduceIte, Int.reduceBNe, Int.reduceBEq]
      refine .flat _ (F94 _ 1 31) rfl ?_
      simp only [bR, Nat.reduceEqDiff, reduceIte, Int.reduceBNe, Int.reduceBEq]
      refine .done (hK _ ?_); clear hK K; simp only [thenQ, blockQ]
      refine AW.ite ?_
      simp only [condQ, bR, Nat.reduceEqDiff, reduceIte, Int.reduceBNe, Int.reduceBEq]
      refine ⟨fun h => ?_, fun h => ?_⟩
      · refine AW.seq (AW.reg cd46_4 fun K hK => ?_)
        simp only [g46_4, bR, Nat.reduceEqDiff, reduceIte, Int.reduceBNe, Int.reduceBEq]
        refine .done (hK _ ?_); clear hK K; simp only [thenQ, blockQ]
        refine AW.ret ?_
        simp only [blockQ, thenQ, bR, Nat.reduceEqDiff, reduceIte, Int.reduceBNe, Int.reduceBEq]
        rw [all_false i hlt]
        · simp
        · simp at h; simp [inR]; omega
      · refine AW.skip ?_; simp only [thenQ, blockQ, reduceIte, Nat.reduceEqDiff]
        refine AW.reg cd46_5 fun K hK => ?_
        simp only [g46_5, bR, Nat.reduceEqDiff, reduceIte, Int.reduceBNe, Int.reduceBEq]
        refine .done (hK _ ?_); clear hK K; simp only [thenQ, blockQ]
        refine ⟨i + 1, ⟨by omega, fun k hk => ?_⟩, by omega, ?_⟩
        · by_cases hk' : k = i
          · subst hk'
            simpa [inR] using h
          · exact hi.2 k (by omega)
        · rw [wrap_id _ (by omega) (by omega)]
          refine Sub.of_lists ?_ ?_ ?_ ?_ <;> simp [subT, subO, onlyT, onlyO, isIn, look_cons, lookO_cons, lookO_nil, AV.only, AV.onlys, AO.only, onlys_map, onlys_append, e_only, e_int, e_bool]
    · have hge : i = 6 := by simp at h; omega
      subst hge
      refine AW.exit ?_; simp only [thenQ, blockQ, reduceIte, Nat.reduceEqDiff]
      refine AW.seq (AW.reg cd46_6 fun K hK => ?_)
      simp only [g46_6, bR, Nat.reduceEqDiff, reduceIte, Int.reduceBNe, Int.reduceBEq]
      refine .done (hK _ ?_); clear hK K; simp only [thenQ, blockQ]
      refine AW.ret ?_
      simp only [blockQ, thenQ, bR, Nat.reduceEqDiff, reduceIte, Int.reduceBNe, Int.reduceBEq]
      rw [all_true hi.2]
      simp
end Go.Proofs.Ytkjkbpgdpnapfaa

/-
  THE PROGRAM'S DATA AS ABSTRACT VALUES: a given mark, a book of marks. And small functions by contract: index, worn, meets, within, has, isSet.
-/
namespace Go.Proofs.Ytkjkbpgdpnapfaa
open Go Go.Abs
open Go.Abs.Enc (enc)
structure Given where
  owner : Int
  mark : Arr 6 Int
instance : Enc Given where
  enc g := .agg [.int .i64 g.owner, enc g.mark]
  sz := 7
  sh := .many [.one, .many (List.replicate 6 .one)]
  isA := true
  done g := by simp only [AV.done, AV.dones, Enc.done, Bool.and_self]
  size g := by simp only [AV.size, AV.sizes, e_size, e_szArr, e_szInt]
  shp g := by simp only [AV.sh, AV.shs, e_sh, e_shArr, e_shInt]
  agg _ := rfl
structure Marks where
  wear : Arr 5 Int
  fls : Int
  given : List Given
instance : Enc Marks where
  enc m := .agg [enc m.wear, .int .i64 m.fls, enc m.given]
  sz := 7
  sh := .many [.many (List.replicate 5 .one), .one, .one]
  isA := true
  done m := by simp only [AV.done, AV.dones, Enc.done, Bool.and_self]
  size m := by simp only [AV.size, AV.sizes, e_size, e_szArr, e_szInt, e_szList]
  shp m := by simp only [AV.sh, AV.shs, e_sh, e_shArr, e_shInt, e_shList]
  agg _ := rfl
theorem offR_eq {fs : List AV} {f off : Nat} {v : AV} (h1 : f < fs.length) (h : AV.sizes (fs.take f) = off) : offR fs f off v = some v := by simp [offR, h, h1]
theorem typR :
    (∀ m : Marks, (enc m).flds = some [enc m.wear, .int .i64 m.fls, enc m.given]) ∧ (∀ g : Given, (enc g).flds = some [.int .i64 g.owner, enc g.mark]) ∧
    (∀ (w : Arr 5 Int) (n : Int) (g : List Given) v, offR [enc w, .int .i64 n, enc g] 0 0 v = some v) ∧ (∀ (w : Arr 5 Int) (n : Int) (g : List Given) v, offR [enc w, .int .i64 n, enc g] 1 5 v = some v) ∧ (∀ (w : Arr 5 Int) (n : Int) (g : List Given) v, offR [enc w, .int .i64 n, enc g] 2 6 v = some v) ∧
    (∀ (n : Int) (m : Arr 6 Int) v, offR [.int .i64 n, enc m] 0 0 v = some v) ∧ (∀ (n : Int) (m : Arr 6 Int) v, offR [.int .i64 n, enc m] 1 1 v = some v) ∧
    (∀ (g : List Given), okLd none (enc g) = true) ∧ (∀ (g : List Int), okLd none (enc g) = true) ∧ (∀ (g : Arr 5 Int), okLd (some 5) (enc g) = true) ∧ (∀ (g : Arr 6 Int), okLd (some 6) (enc g) = true) ∧ (∀ (g : Given), okLd (some 7) (enc g) = true) ∧ (∀ (g : Marks), okLd (some 7) (enc g) = true) ∧
    (∀ (fs : List AV) x, (x :: fs)[0]? = some x) ∧ (∀ (fs : List AV) x n, (x :: fs)[n + 1]? = fs[n]?) ∧ (∀ (fs : List AV) x, (x :: fs)[1]? = fs[0]?) ∧ (∀ (fs : List AV) x, (x :: fs)[2]? = fs[1]?) :=
  ⟨fun _ => rfl, fun _ => rfl, fun _ _ _ _ => offR_eq (Nat.le_of_ble_eq_true rfl) rfl, fun w n g v => offR_eq (Nat.le_of_ble_eq_true rfl) (by simp [AV.sizes, e_size, e_szArr, e_szInt]), fun w n g v => offR_eq (Nat.le_of_ble_eq_true rfl) (by simp [AV.sizes, AV.size, e_size, e_szArr, e_szInt]), fun _ _ _ => offR_eq (Nat.le_of_ble_eq_true rfl) rfl, fun _ _ _ => offR_eq (Nat.le_of_ble_eq_true rfl) (by simp [AV.sizes, AV.size]),
    fun _ => by simp [e_okN, e_isAList], fun _ => by simp [e_okN, e_isAList], fun _ => by simp [e_okS, e_isAArr, e_szArr, e_szInt], fun _ => by simp [e_okS, e_isAArr, e_szArr, e_szInt], fun _ => by rw [e_okS]; rfl, fun _ => by rw [e_okS]; rfl,
    fun _ _ => rfl, fun _ _ _ => rfl, fun _ _ => rfl, fun _ _ => rfl⟩
theorem F89 (n lo hi : Int) : Ctr Try.prog 89 [enc n, enc lo, enc hi] (enc (inR lo hi n)) := by
  refine Ctr.mk' Try.func89 ca89 cc89 cr89 (Nat.le_of_ble_eq_true rfl) (fun hwf W0 D0 E1 => ?_)
  simp only [c89, r89, idx, Nat.zero_add, Nat.reduceAdd]
  refine AW.seq (AW.reg cd89_0 fun K hK => ?_)
  simp only [g89_0, bR, Nat.reduceEqDiff, reduceIte, Int.reduceBNe, Int.reduceBEq]
  refine .done (hK _ ?_); clear hK K; simp only [thenQ, blockQ]
  refine AW.seq (AW.reg cd89_1 fun K hK => ?_)
  simp only [g89_1, bR, Nat.reduceEqDiff, reduceIte, Int.reduceBNe, Int.reduceBEq]
  refine .guard (fun h => ?_) (fun h => ?_)
  · simp only [bR, Nat.reduceEqDiff, reduceIte, Int.reduceBNe, Int.reduceBEq, h]
    refine .done (hK _ ?_); clear hK K; simp only [thenQ, blockQ]
    refine AW.ret ?_
    simp only [blockQ, thenQ, bR, Nat.reduceEqDiff, reduceIte, Int.reduceBNe, Int.reduceBEq]
    simp_all [inR]
  · simp only [bR, Nat.reduceEqDiff, reduceIte, Int.reduceBNe, Int.reduceBEq, h]
    refine .done (hK _ ?_); clear hK K; simp only [thenQ, blockQ]
    refine AW.ret ?_
    simp only [blockQ, thenQ, bR, Nat.reduceEqDiff, reduceIte, Int.reduceBNe, Int.reduceBEq]
    simp at h
    simp [inR]; omega
theorem F117 (n : Int) : Ctr Try.prog 117 [enc n] (enc (inR 0 31 n)) := by
  refine Ctr.mk' Try.func117 ca117 cc117 cr117 (Nat.le_of_ble_eq_true rfl) (fun hwf W0 D0 E1 => ?_)
  simp only [c117, r117, idx, Nat.zero_add, Nat.reduceAdd]
  refine AW.seq (AW.reg cd117_0 fun K hK => ?_)
  simp only [g117_0, bR, Nat.reduceEqDiff, reduceIte, Int.reduceBNe, Int.reduceBEq]
  refine .done (hK _ ?_); clear hK K; simp only [thenQ, blockQ]
  refine AW.seq (AW.reg cd117_1 fun K hK => ?_)
  simp only [g117_1, bR, Nat.reduceEqDiff, reduceIte, Int.reduceBNe, Int.reduceBEq]
  refine .flat _ (F89 n 0 31) rfl ?_
  simp only [bR, Nat.reduceEqDiff, reduceIte, Int.reduceBNe, Int.reduceBEq]
  refine .done (hK _ ?_); clear hK K; simp only [thenQ, blockQ]
  refine AW.ret ?_
  simp only [blockQ, thenQ, bR, Nat.reduceEqDiff, reduceIte, Int.reduceBNe, Int.reduceBEq]
theorem F78 (a b : Int) : Ctr Try.prog 78 [enc a, enc b] (enc (band a b != 0)) := by
  refine Ctr.mk' Try.func78 ca78 cc78 cr78 (Nat.le_of_ble_eq_true rfl) (fun hwf W0 D0 E1 => ?_)
  simp only [c78, r78, idx, Nat.zero_add, Nat.reduceAdd]
  refine AW.seq (AW.reg cd78_0 fun K hK => ?_)
  simp only [g78_0, bR, Nat.reduceEqDiff, reduceIte, Int.reduceBNe, Int.reduceBEq]
  refine .done (hK _ ?_); clear hK K; simp only [thenQ, blockQ]
  refine AW.seq (AW.reg cd78_1 fun K hK => ?_)
  simp only [g78_1, bR, Nat.reduceEqDiff, reduceIte, Int.reduceBNe, Int.reduceBEq]
  refine .done (hK _ ?_); clear hK K; simp only [thenQ, blockQ]
  refine AW.ret ?_
  simp only [blockQ, thenQ, bR, Nat.reduceEqDiff, reduceIte, Int.reduceBNe, Int.reduceBEq]
  rfl
theorem F77 (w : Arr 5 Int) (m : Arr 6 Int) (i : Nat) (hi : i < 6) (h0 : 0 ≤ m.g i) (h5 : m.g i < 5) : Ctr Try.prog 77 [enc w, enc m, enc (i : Int)] (enc (w.g (m.g i).toNat)) := by
  refine Ctr.mk' Try.func77 ca77 cc77 cr77 (Nat.le_of_ble_eq_true rfl) (fun hwf W0 D0 E1 => ?_)
  simp only [c77, r77, idx, Nat.zero_add, Nat.reduceAdd]
  refine AW.seq (AW.reg cd77_0 fun K hK => ?_)
  simp only [g77_0, bR, Nat.reduceEqDiff, reduceIte, Int.reduceBNe, Int.reduceBEq]
  refine .done (hK _ ?_); clear hK K; simp only [thenQ, blockQ]
  refine AW.seq (AW.reg cd77_1 fun K hK => ?_)
  simp only [g77_1, bR, Nat.reduceEqDiff, reduceIte, Int.reduceBNe, Int.reduceBEq]
  have hk : (m.g i).toNat < 5 := by omega
  simp only [useR, inB_nat 1 m hi rfl, atL_g m hi, okR, bR, Nat.reduceEqDiff, reduceIte, Int.reduceBNe, Int.reduceBEq]
  simp only [useR, inB_int 1 w ⟨h0, h5⟩ rfl, atL_g w hk, okR, bR, Nat.reduceEqDiff, reduceIte, Int.reduceBNe, Int.reduceBEq]
  refine .done (hK _ ?_); clear hK K; simp only [thenQ, blockQ]
  refine AW.ret ?_
  simp only [blockQ, thenQ, bR, Nat.reduceEqDiff, reduceIte, Int.reduceBNe, Int.reduceBEq]
end Go.Proofs.Ytkjkbpgdpnapfaa

/-
  FUNCTIONS OF THE REFERENCE BY CONTRACT: index, distance.
-/
namespace Go.Proofs.Ytkjkbpgdpnapfaa
open Go Go.Abs
open Go.Abs.Enc (enc)
def cnt (p : Nat → Bool) : Nat → Nat
  | 0 => 0
  | n + 1 => cnt p n + if p n then 1 else 0
theorem cnt_le (p : Nat → Bool) : ∀ n, cnt p n ≤ n
  | 0 => Nat.le_refl _
  | n + 1 => by have := cnt_le p n; simp only [cnt]; split <;> omega
/-- Where in the book an owner's mark lies; -1: nowhere. -/
def indexOf (l : List Given) (o : Int) : Int := match l.findIdx? fun g => g.owner == o with
  | some i => i
  | none => -1
theorem F80 (m : Marks) (o : Int) : Ctr Try.prog 80 [enc m, enc o] (enc (indexOf m.given o)) := by
  refine Ctr.mk' Try.func80 ca80 cc80 cr80 (Nat.le_of_ble_eq_true rfl) (fun hwf W0 D0 E1 => ?_)
  simp only [c80, r80, idx, Nat.zero_add, Nat.reduceAdd]
  have hlen : m.given.length ≤ maxLen := ((wf_list m.given).1 hwf.1.2.2.1).1
  simp only [maxLen] at hlen
  refine AW.seq (AW.reg cd80_0 fun K hK => ?_)
  simp only [g80_0, bR, Nat.reduceEqDiff, reduceIte, Int.reduceBNe, Int.reduceBEq]
  refine .done (hK _ ?_); clear hK K; simp only [thenQ, blockQ]
  refine AW.seq ?_
  refine AW.seq (AW.reg cd80_1 fun K hK => ?_)
  simp only [g80_1, bR, Nat.reduceEqDiff, reduceIte, Int.reduceBNe, Int.reduceBEq]
  refine .done (hK _ ?_); clear hK K; simp only [thenQ, blockQ]
  refine AW.block (AW.loop (fun i : Nat => mkA [(1, .int .i64 o), (2, .ptr 2 []), (5, .int .i64 i)] [(2, .box (enc m))]) (fun i => i ≤ m.given.length ∧ ∀ k (h : k < m.given.length), k < i → m.given[k].owner ≠ o) (fun i => m.given.length - i) 0 ⟨by omega, fun k _ h => by omega⟩ ?_ (fun i hi => ?_))
  · refine Sub.of_lists ?_ ?_ ?_ ?_ <;> simp [subT, subO, onlyT, onlyO, isIn, look_cons, lookO_cons, lookO_nil, AV.only, AV.onlys, AO.only, onlys_map, onlys_append, e_only, e_int, e_bool]
  · refine AW.seq (AW.seq ?_)
    refine AW.reg cd80_2 fun K hK => ?_
    simp only [g80_2, bR, Nat.reduceEqDiff, reduceIte, Int.reduceBNe, Int.reduceBEq]
    simp only [typR, useR, okR, bR, Nat.reduceEqDiff, reduceIte, Int.reduceBNe, Int.reduceBEq]
    refine .done (hK _ ?_); clear hK K; simp only [thenQ, blockQ]
    refine AW.ite ?_
    simp only [condQ, bR, Nat.reduceEqDiff, reduceIte, Int.reduceBNe, Int.reduceBEq]
    refine ⟨fun h => ?_, fun h => ?_⟩
    · have hlt : i < m.given.length := by simpa using h
      refine AW.skip ?_; simp only [thenQ, blockQ, reduceIte, Nat.reduceEqDiff]
      refine AW.seq (AW.block ?_)
      refine AW.seq (AW.reg cd80_3 fun K hK => ?_)
      simp only [g80_3, bR, Nat.reduceEqDiff, reduceIte, Int.reduceBNe, Int.reduceBEq]
      simp only [typR, useR, okR, isE_nat 7 hlt rfl, bR, Nat.reduceEqDiff, reduceIte, Int.reduceBNe, Int.reduceBEq]
      refine .done (hK _ ?_); clear hK K; simp only [thenQ, blockQ]
      refine AW.ite ?_
      simp only [condQ, bR, Nat.reduceEqDiff, reduceIte, Int.reduceBNe, Int.reduceBEq]
      refine ⟨fun h => ?_, fun h => ?_⟩
      · refine AW.seq (AW.reg cd80_4 fun K hK => ?_)
        simp only [g80_4, bR, Nat.reduceEqDiff, reduceIte, Int.reduceBNe, Int.reduceBEq]
        refine .done (hK _ ?_); clear hK K; simp only [thenQ, blockQ]
        refine AW.ret ?_
        simp only [blockQ, thenQ, bR, Nat.reduceEqDiff, reduceIte, Int.reduceBNe, Int.reduceBEq]
        have : m.given.findIdx? (fun g => g.owner == o) = some i := by
          rw [List.findIdx?_eq_some_iff_getElem]
          refine ⟨hlt, by simpa using h, fun j hj => ?_⟩
          have := hi.2 j (by omega) hj
          simpa using this
        simp [indexOf, this]
      · refine AW.skip ?_; simp only [thenQ, blockQ, reduceIte, Nat.reduceEqDiff]
        refine AW.reg cd80_5 fun K hK => ?_
        simp only [g80_5, bR, Nat.reduceEqDiff, reduceIte, Int.reduceBNe, Int.reduceBEq]
        refine .done (hK _ ?_); clear hK K; simp only [thenQ, blockQ]
        refine ⟨i + 1, ⟨by omega, fun k hk hki => ?_⟩, by omega, ?_⟩
        · by_cases hk' : k = i
          · subst hk'; simpa using h
          · exact hi.2 k hk (by omega)
        · rw [wrap_id _ (by omega) (by omega)]
          refine Sub.of_lists ?_ ?_ ?_ ?_ <;> simp [subT, subO, onlyT, onlyO, isIn, look_cons, lookO_cons, lookO_nil, AV.only, AV.onlys, AO.only, onlys_map, onlys_append, e_only, e_int, e_bool]
    · have hge : i = m.given.length := by simp at h; omega
      refine AW.exit ?_; simp only [thenQ, blockQ, reduceIte, Nat.reduceEqDiff]
      refine AW.seq (AW.reg cd80_6 fun K hK => ?_)
      simp only [g80_6, bR, Nat.reduceEqDiff, reduceIte, Int.reduceBNe, Int.reduceBEq]
      refine .done (hK _ ?_); clear hK K; simp only [thenQ, blockQ]
      refine AW.ret ?_
      simp only [blockQ, thenQ, bR, Nat.reduceEqDiff, reduceIte, Int.reduceBNe, Int.reduceBEq]
      have : m.given.findIdx? (fun g => g.owner == o) = none := by
        rw [List.findIdx?_eq_none_iff]
        intro x hx
        obtain ⟨k, hk, rfl⟩ := List.getElem_of_mem hx
        simpa using hi.2 k hk (by omega)
      simp [indexOf, this]
/-- Whether a place of two marks differs under a wear. -/
def apartAt (w : Arr 5 Int) (a b : Arr 6 Int) (i : Nat) : Bool := band (w.g (a.g i).toNat) (w.g (b.g i).toNat) == 0
def okMark (m : Arr 6 Int) : Bool := (List.range 6).all fun i => inR 0 4 (m.g i)
theorem okMark_at {m : Arr 6 Int} (h : okMark m = true) {i : Nat} (hi : i < 6) : 0 ≤ m.g i ∧ m.g i < 5 := by
  simp only [okMark, List.all_eq_true, List.mem_range] at h
  have := h i hi
  simp [inR] at this
  omega
theorem F99 (w : Arr 5 Int) (a b : Arr 6 Int) (ha : okMark a = true) (hb : okMark b = true) : Ctr Try.prog 99 [enc w, enc a, enc b] (enc (cnt (apartAt w a b) 6 : Int)) := by
  refine Ctr.mk' Try.func99 ca99 cc99 cr99 (Nat.le_of_ble_eq_true rfl) (fun hwf W0 D0 E1 => ?_)
  simp only [c99, r99, idx, Nat.zero_add, Nat.reduceAdd]
  refine AW.seq (AW.reg cd99_0 fun K hK => ?_)
  simp only [g99_0, bR, Nat.reduceEqDiff, reduceIte, Int.reduceBNe, Int.reduceBEq]
  refine .done (hK _ ?_); clear hK K; simp only [thenQ, blockQ]
  refine AW.seq (AW.reg cd99_1 fun K hK => ?_)
  simp only [g99_1, bR, Nat.reduceEqDiff, reduceIte, Int.reduceBNe, Int.reduceBEq]
  refine .done (hK _ ?_); clear hK K; simp only [thenQ, blockQ]
  refine AW.seq (AW.seq ?_)
  refine AW.reg cd99_2 fun K hK => ?_
  simp only [g99_2, bR, Nat.reduceEqDiff, reduceIte, Int.reduceBNe, Int.reduceBEq]
  refine .done (hK _ ?_); clear hK K; simp only [thenQ, blockQ]
  refine AW.block (AW.loop (fun i : Nat => mkA [(3, .ptr 3 []), (4, .ptr 4 []), (5, .ptr 5 []), (7, .int .i64 (cnt (apartAt w a b) i)), (8, .int .i64 i)] [(3, .box (enc w)), (4, .box (enc a)), (5, .box (enc b))]) (fun i => i ≤ 6) (fun i => 6 - i) 0 (by omega) ?_ (fun i hi => ?_))
  · simp only [cnt]
    refine Sub.of_lists ?_ ?_ ?_ ?_ <;> simp [subT, subO, onlyT, onlyO, isIn, look_cons, lookO_cons, lookO_nil, AV.only, AV.onlys, AO.only, onlys_map, onlys_append, e_only, e_int, e_bool]
  · have hc := cnt_le (apartAt w a b) i
    refine AW.seq (AW.seq ?_)
    refine AW.reg cd99_3 fun K hK => ?_
    simp only [g99_3, bR, Nat.reduceEqDiff, reduceIte, Int.reduceBNe, Int.reduceBEq]
    refine .done (hK _ ?_); clear hK K; simp only [thenQ, blockQ]
    refine AW.ite ?_
    simp only [condQ, bR, Nat.reduceEqDiff, reduceIte, Int.reduceBNe, Int.reduceBEq]
    refine ⟨fun h => ?_, fun h => ?_⟩
    · have hlt : i < 6 := by simp at h; omega
      have h1 := okMark_at ha hlt
      have h2 := okMark_at hb hlt
      refine AW.skip ?_; simp only [thenQ, blockQ, reduceIte, Nat.reduceEqDiff]
      refine AW.seq (AW.block ?_)
      refine AW.seq (AW.reg cd99_4 fun K hK => ?_)
      simp only [g99_4, bR, Nat.reduceEqDiff, reduceIte, Int.reduceBNe, Int.reduceBEq]
      have k1 : (a.g i).toNat < 5 := by omega
      have k2 : (b.g i).toNat < 5 := by omega
      simp only [useR, inB_nat 1 a hlt rfl, atL_g a hlt, okR, bR, Nat.reduceEqDiff, reduceIte, Int.reduceBNe, Int.reduceBEq]
      simp only [useR, inB_int 1 w h1 rfl, atL_g w k1, okR, bR, Nat.reduceEqDiff, reduceIte, Int.reduceBNe, Int.reduceBEq]
      simp only [useR, inB_nat 1 b hlt rfl, atL_g b hlt, okR, bR, Nat.reduceEqDiff, reduceIte, Int.reduceBNe, Int.reduceBEq]
      simp only [useR, inB_int 1 w h2 rfl, atL_g w k2, okR, bR, Nat.reduceEqDiff, reduceIte, Int.reduceBNe, Int.reduceBEq]
      refine .done (hK _ ?_); clear hK K; simp only [thenQ, blockQ]
      refine AW.ite ?_
      simp only [condQ, bR, Nat.reduceEqDiff, reduceIte, Int.reduceBNe, Int.reduceBEq]
      refine ⟨fun h => ?_, fun h => ?_⟩
      · have hap : apartAt w a b i = true := h
        refine AW.reg cd99_5 fun K hK => ?_
        simp only [g99_5, bR, Nat.reduceEqDiff, reduceIte, Int.reduceBNe, Int.reduceBEq]
        refine .done (hK _ ?_); clear hK K; simp only [thenQ, blockQ]
        refine AW.reg cd99_6 fun K hK => ?_
        simp only [g99_6, bR, Nat.reduceEqDiff, reduceIte, Int.reduceBNe, Int.reduceBEq]
        refine .done (hK _ ?_); clear hK K; simp only [thenQ, blockQ]
        refine ⟨i + 1, by omega, by omega, ?_⟩
        rw [wrap_id _ (by omega) (by omega), wrap_id _ (by omega) (by omega)]
        simp only [cnt, hap, if_true]
        refine Sub.of_lists ?_ ?_ ?_ ?_ <;> simp [subT, subO, onlyT, onlyO, isIn, look_cons, lookO_cons, lookO_nil, AV.only, AV.onlys, AO.only, onlys_map, onlys_append, e_only, e_int, e_bool]
      · have hap : apartAt w a b i = false := h
        refine AW.skip ?_; simp only [thenQ, blockQ, reduceIte, Nat.reduceEqDiff]
        refine AW.reg cd99_6 fun K hK => ?_
        simp only [g99_6, bR, Nat.reduceEqDiff, reduceIte, Int.reduceBNe, Int.reduceBEq]
        refine .done (hK _ ?_); clear hK K; simp only [thenQ, blockQ]
        refine ⟨i + 1, by omega, by omega, ?_⟩
        rw [wrap_id _ (by omega) (by omega)]
        simp only [cnt, hap, Bool.false_eq_true, if_false]
        refine Sub.of_lists ?_ ?_ ?_ ?_ <;> simp [subT, subO, onlyT, onlyO, isIn, look_cons, lookO_cons, lookO_nil, AV.only, AV.onlys, AO.only, onlys_map, onlys_append, e_only, e_int, e_bool]
    · have hge : i = 6 := by simp at h; omega
      subst hge
      refine AW.exit ?_; simp only [thenQ, blockQ, reduceIte, Nat.reduceEqDiff]
      refine AW.seq (AW.reg cd99_7 fun K hK => ?_)
      simp only [g99_7, bR, Nat.reduceEqDiff, reduceIte, Int.reduceBNe, Int.reduceBEq]
      refine .done (hK _ ?_); clear hK K; simp only [thenQ, blockQ]
      refine AW.ret ?_
      simp only [blockQ, thenQ, bR, Nat.reduceEqDiff, reduceIte, Int.reduceBNe, Int.reduceBEq]
end Go.Proofs.Ytkjkbpgdpnapfaa

/-
  SMALL FUNCTIONS OF THE REFERENCE, EACH BY ITS CONTRACT: Members, CheckWear, Same.
-/
namespace Go.Proofs.Ytkjkbpgdpnapfaa
open Go Go.Abs
open Go.Abs.Enc (enc)
/-- Whether a bit is set. -/
def bit (w : Int) (k : Nat) : Bool := band w (shl 1 k) != 0
def members (w : Int) : Nat → List Int
  | 0 => []
  | k + 1 => members w k ++ if bit w k then [(k : Int)] else []
theorem members_le (w : Int) : ∀ k, (members w k).length ≤ k
  | 0 => Nat.le_refl _
  | k + 1 => by
    have := members_le w k
    simp only [members, List.length_append]
    split <;> simp <;> omega
theorem F33 (w : Int) : Ctr Try.prog 33 [enc w] (enc (members w 5)) := by
  refine Ctr.mk' Try.func33 ca33 cc33 cr33 (Nat.le_of_ble_eq_true rfl) (fun hwf W0 D0 E1 => ?_)
  simp only [c33, r33, idx, Nat.zero_add, Nat.reduceAdd]
  refine AW.seq (AW.reg cd33_0 fun K hK => ?_)
  simp only [g33_0, bR, Nat.reduceEqDiff, reduceIte, Int.reduceBNe, Int.reduceBEq]
  refine .done (hK _ ?_); clear hK K; simp only [thenQ, blockQ]
  refine AW.seq (AW.reg cd33_1 fun K hK => ?_)
  simp only [g33_1, bR, Nat.reduceEqDiff, reduceIte, Int.reduceBNe, Int.reduceBEq]
  refine .done (hK _ ?_); clear hK K; simp only [thenQ, blockQ]
  refine AW.seq (AW.seq ?_)
  refine AW.reg cd33_2 fun K hK => ?_
  simp only [g33_2, bR, Nat.reduceEqDiff, reduceIte, Int.reduceBNe, Int.reduceBEq]
  refine .done (hK _ ?_); clear hK K; simp only [thenQ, blockQ]
  refine AW.block (AW.loop (fun i : Nat => mkA [(0, .int .i64 w), (2, .nils 1), (3, .own 3 (members w i).length), (4, .int .i64 i)] [(3, .row 3 1 ((members w i).map enc))]) (fun i => i ≤ 5) (fun i => 5 - i) 0 (by omega) ?_ (fun i hi => ?_))
  · refine Sub.adoptL 3 3 3 1 1 ?_ ?_ ?_
    · simp only [absR, Nat.reduceEqDiff, reduceIte]
    · simp only [absR]
    · simp only [members, List.map_nil, List.length_nil]
      refine Sub.of_lists ?_ ?_ ?_ ?_ <;> simp [subT, subO, onlyT, onlyO, isIn, look_cons, lookO_cons, lookO_nil, AV.only, AV.onlys, AO.only, onlys_map, onlys_append, e_only, e_int, e_bool]
  · refine AW.seq (AW.seq ?_)
    refine AW.reg cd33_3 fun K hK => ?_
    simp only [g33_3, bR, Nat.reduceEqDiff, reduceIte, Int.reduceBNe, Int.reduceBEq]
    refine .done (hK _ ?_); clear hK K; simp only [thenQ, blockQ]
    refine AW.ite ?_
    simp only [condQ, bR, Nat.reduceEqDiff, reduceIte, Int.reduceBNe, Int.reduceBEq]
    refine ⟨fun h => ?_, fun h => ?_⟩
    · have hlt : i < 5 := by simp at h; omega
      have hml := members_le w i
      refine AW.skip ?_; simp only [thenQ, blockQ, reduceIte, Nat.reduceEqDiff]
      refine AW.seq (AW.block ?_)
      refine AW.seq (AW.reg cd33_4 fun K hK => ?_)
      simp only [g33_4, bR, Nat.reduceEqDiff, reduceIte, Int.reduceBNe, Int.reduceBEq]
      refine .done (hK _ ?_); clear hK K; simp only [thenQ, blockQ]
      refine AW.ite ?_
      simp only [condQ, bR, Nat.reduceEqDiff, reduceIte, Int.reduceBNe, Int.reduceBEq]
      refine ⟨fun h => ?_, fun h => ?_⟩
      · have hb : bit w i = true := h
        refine AW.reg cd33_5 fun K hK => ?_
        simp only [g33_5, bR, Nat.reduceEqDiff, reduceIte, Int.reduceBNe, Int.reduceBEq]
        rw [appR3_enc 3 1 8 3 rfl rfl (by simp) (by simp [maxLen]; omega) (by simp; omega)]
        simp only [bR, Nat.reduceEqDiff, reduceIte, Int.reduceBNe, Int.reduceBEq]
        refine .done (hK _ ?_); clear hK K; simp only [thenQ, blockQ]
        refine AW.reg cd33_6 fun K hK => ?_
        simp only [g33_6, bR, Nat.reduceEqDiff, reduceIte, Int.reduceBNe, Int.reduceBEq]
        refine .done (hK _ ?_); clear hK K; simp only [thenQ, blockQ]
        refine ⟨i + 1, by omega, by omega, ?_⟩
        rw [wrap_id _ (by omega) (by omega)]
        simp only [members, hb, reduceIte]
        refine Sub.of_lists ?_ ?_ ?_ ?_ <;> simp [subT, subO, onlyT, onlyO, isIn, look_cons, lookO_cons, lookO_nil, AV.only, AV.onlys, AO.only, onlys_map, onlys_append, e_only, e_int, e_bool]
      · have hb : bit w i = false := h
        refine AW.skip ?_; simp only [thenQ, blockQ, reduceIte, Nat.reduceEqDiff]
        refine AW.reg cd33_6 fun K hK => ?_
        simp only [g33_6, bR, Nat.reduceEqDiff, reduceIte, Int.reduceBNe, Int.reduceBEq]
        refine .done (hK _ ?_); clear hK K; simp only [thenQ, blockQ]
        refine ⟨i + 1, by omega, by omega, ?_⟩
        rw [wrap_id _ (by omega) (by omega)]
        simp only [members, hb, reduceIte, Bool.false_eq_true, List.append_nil]
        refine Sub.of_lists ?_ ?_ ?_ ?_ <;> simp [subT, subO, onlyT, onlyO, isIn, look_cons, lookO_cons, lookO_nil, AV.only, AV.onlys, AO.only, onlys_map, onlys_append, e_only, e_int, e_bool]
    · have hge : i = 5 := by simp at h; omega
      subst hge
      refine AW.exit ?_; simp only [thenQ, blockQ, reduceIte, Nat.reduceEqDiff]
      refine AW.seq (AW.reg cd33_7 fun K hK => ?_)
      simp only [g33_7, bR, Nat.reduceEqDiff, reduceIte, Int.reduceBNe, Int.reduceBEq]
      refine .done (hK _ ?_); clear hK K; simp only [thenQ, blockQ]
      refine AW.ret ?_
      simp only [blockQ, thenQ, bR, Nat.reduceEqDiff, reduceIte, Int.reduceBNe, Int.reduceBEq]
theorem F44 (m : Arr 5 Int) : Ctr Try.prog 44 [enc m] (enc (if (List.range 5).all (fun i => inR 0 31 (m.g i) && bit (m.g i) i) then (0 : Int) else 11)) := by
  refine Ctr.mk' Try.func44 ca44 cc44 cr44 (Nat.le_of_ble_eq_true rfl) (fun hwf W0 D0 E1 => ?_)
  simp only [c44, r44, idx, Nat.zero_add, Nat.reduceAdd]
  refine AW.seq (AW.reg cd44_0 fun K hK => ?_)
  simp only [g44_0, bR, Nat.reduceEqDiff, reduceIte, Int.reduceBNe, Int.reduceBEq]
  refine .done (hK _ ?_); clear hK K; simp only [thenQ, blockQ]
  refine AW.seq ?_
  refine AW.seq (AW.reg cd44_1 fun K hK => ?_)
  simp only [g44_1, bR, Nat.reduceEqDiff, reduceIte, Int.reduceBNe, Int.reduceBEq]
  refine .done (hK _ ?_); clear hK K; simp only [thenQ, blockQ]
  refine AW.block (AW.loop (fun i : Nat => mkA [(1, .ptr 1 []), (2, .int .i64 0), (3, .int .i64 i)] [(1, .box (enc m))]) (fun j => j ≤ 5 ∧ ∀ i, i < j → (inR 0 31 (m.g i) && bit (m.g i) i) = true) (fun i => 5 - i) 0 ⟨by omega, fun k h => by omega⟩ ?_ (fun i hi => ?_))
  · refine Sub.of_lists ?_ ?_ ?_ ?_ <;> simp [subT, subO, onlyT, onlyO, isIn, look_cons, lookO_cons, lookO_nil, AV.only, AV.onlys, AO.only, onlys_map, onlys_append, e_only, e_int, e_bool]
  · refine AW.seq (AW.seq ?_)
    refine AW.reg cd44_2 fun K hK => ?_
    simp only [g44_2, bR, Nat.reduceEqDiff, reduceIte, Int.reduceBNe, Int.reduceBEq]
    refine .done (hK _ ?_); clear hK K; simp only [thenQ, blockQ]
    refine AW.ite ?_
    simp only [condQ, bR, Nat.reduceEqDiff, reduceIte, Int.reduceBNe, Int.reduceBEq]
    refine ⟨fun h => ?_, fun h => ?_⟩
    · have hlt : i < 5 := by simp at h; omega
      refine AW.skip ?_; simp only [thenQ, blockQ, reduceIte, Nat.reduceEqDiff]
      refine AW.seq (AW.block ?_)
      refine AW.seq (AW.reg cd44_3 fun K hK => ?_)
      simp only [g44_3, bR, Nat.reduceEqDiff, reduceIte, Int.reduceBNe, Int.reduceBEq]
      simp only [useR, inB_nat 1 m hlt rfl, atL_g m hlt, okR, bR, Nat.reduceEqDiff, reduceIte, Int.reduceBNe, Int.reduceBEq]
      refine .flat _ (F94 _ 0 31) rfl ?_
      generalize hb : (decide (0 ≤ m.g i) && decide (m.g i ≤ 31)) = b
      cases b
      · simp only [bR, Nat.reduceEqDiff, reduceIte, Int.reduceBNe, Int.reduceBEq]
        refine .done (hK _ ?_); clear hK K; simp only [thenQ, blockQ]
        refine AW.ite ?_
        simp only [condQ, bR, Nat.reduceEqDiff, reduceIte, Int.reduceBNe, Int.reduceBEq]
        refine ⟨fun h => ?_, fun h => ?_⟩
        · refine AW.seq (AW.reg cd44_4 fun K hK => ?_)
          simp only [g44_4, bR, Nat.reduceEqDiff, reduceIte, Int.reduceBNe, Int.reduceBEq]
          refine .done (hK _ ?_); clear hK K; simp only [thenQ, blockQ]
          refine AW.ret ?_
          simp only [blockQ, thenQ, bR, Nat.reduceEqDiff, reduceIte, Int.reduceBNe, Int.reduceBEq]
          rw [all_false i hlt]
          · simp
          · simp only [inR, hb, Bool.false_and]
        · cases h
      · simp only [useR, inB_nat 1 m hlt rfl, atL_g m hlt, okR, bR, Nat.reduceEqDiff, reduceIte, Int.reduceBNe, Int.reduceBEq]
        refine .done (hK _ ?_); clear hK K; simp only [thenQ, blockQ]
        refine AW.ite ?_
        simp only [condQ, bR, Nat.reduceEqDiff, reduceIte, Int.reduceBNe, Int.reduceBEq]
        refine ⟨fun h => ?_, fun h => ?_⟩
        · refine AW.seq (AW.reg cd44_4 fun K hK => ?_)
          simp only [g44_4, bR, Nat.reduceEqDiff, reduceIte, Int.reduceBNe, Int.reduceBEq]
          refine .done (hK _ ?_); clear hK K; simp only [thenQ, blockQ]
          refine AW.ret ?_
          simp only [blockQ, thenQ, bR, Nat.reduceEqDiff, reduceIte, Int.reduceBNe, Int.reduceBEq]
          rw [all_false i hlt]
          · simp
          · simp only [inR, hb, Bool.true_and, bit, band, shl]
            simpa using h
        · refine AW.skip ?_; simp only [thenQ, blockQ, reduceIte, Nat.reduceEqDiff]
          refine AW.reg cd44_5 fun K hK => ?_
          simp only [g44_5, bR, Nat.reduceEqDiff, reduceIte, Int.reduceBNe, Int.reduceBEq]
          refine .done (hK _ ?_); clear hK K; simp only [thenQ, blockQ]
          refine ⟨i + 1, ⟨by omega, fun k hk => ?_⟩, by omega, ?_⟩
          · by_cases hk' : k = i
            · subst hk'
              simp only [inR, hb, Bool.true_and, bit, band, shl]
              simpa using h
            · exact hi.2 k (by omega)
          · rw [wrap_id _ (by omega) (by omega)]
            refine Sub.of_lists ?_ ?_ ?_ ?_ <;> simp [subT, subO, onlyT, onlyO, isIn, look_cons, lookO_cons, lookO_nil, AV.only, AV.onlys, AO.only, onlys_map, onlys_append, e_only, e_int, e_bool]
    · have hge : i = 5 := by simp at h; omega
      subst hge
      refine AW.exit ?_; simp only [thenQ, blockQ, reduceIte, Nat.reduceEqDiff]
      refine AW.seq (AW.reg cd44_6 fun K hK => ?_)
      simp only [g44_6, bR, Nat.reduceEqDiff, reduceIte, Int.reduceBNe, Int.reduceBEq]
      refine .done (hK _ ?_); clear hK K; simp only [thenQ, blockQ]
      refine AW.ret ?_
      simp only [blockQ, thenQ, bR, Nat.reduceEqDiff, reduceIte, Int.reduceBNe, Int.reduceBEq]
      rw [all_true hi.2]
      simp
theorem F16 (a b : List Int) : Ctr Try.prog 16 [enc a, enc b] (enc (decide (a = b))) := by
  refine Ctr.mk' Try.func16 ca16 cc16 cr16 (Nat.le_of_ble_eq_true rfl) (fun hwf W0 D0 E1 => ?_)
  simp only [c16, r16, idx, Nat.zero_add, Nat.reduceAdd]
  have hlen : a.length ≤ maxLen := ((wf_list a).1 hwf.1).1
  simp only [maxLen] at hlen
  refine AW.seq (AW.reg cd16_0 fun K hK => ?_)
  simp only [g16_0, bR, Nat.reduceEqDiff, reduceIte, Int.reduceBNe, Int.reduceBEq]
  refine .done (hK _ ?_); clear hK K; simp only [thenQ, blockQ]
  refine AW.seq (AW.seq ?_)
  refine AW.reg cd16_1 fun K hK => ?_
  simp only [g16_1, bR, Nat.reduceEqDiff, reduceIte, Int.reduceBNe, Int.reduceBEq]
  simp only [useR, bR, Nat.reduceEqDiff, reduceIte, Int.reduceBNe, Int.reduceBEq]
  refine .done (hK _ ?_); clear hK K; simp only [thenQ, blockQ]
  refine AW.ite ?_
  simp only [condQ, bR, Nat.reduceEqDiff, reduceIte, Int.reduceBNe, Int.reduceBEq]
  refine ⟨fun h => ?_, fun h => ?_⟩
  · refine AW.seq (AW.reg cd16_2 fun K hK => ?_)
    simp only [g16_2, bR, Nat.reduceEqDiff, reduceIte, Int.reduceBNe, Int.reduceBEq]
    refine .done (hK _ ?_); clear hK K; simp only [thenQ, blockQ]
    refine AW.ret ?_
    simp only [blockQ, thenQ, bR, Nat.reduceEqDiff, reduceIte, Int.reduceBNe, Int.reduceBEq]
    simp at h
    have : a ≠ b := fun e => h (by rw [e])
    simp [this]
  · have hab : a.length = b.length := by simp at h; omega
    refine AW.skip ?_; simp only [thenQ, blockQ, reduceIte, Nat.reduceEqDiff]
    refine AW.seq ?_
    refine AW.seq (AW.reg cd16_3 fun K hK => ?_)
    simp only [g16_3, bR, Nat.reduceEqDiff, reduceIte, Int.reduceBNe, Int.reduceBEq]
    refine .done (hK _ ?_); clear hK K; simp only [thenQ, blockQ]
    refine AW.block (AW.loop (fun i : Nat => mkA [(0, enc a), (1, enc b), (5, .int .i64 i)] []) (fun i => i ≤ a.length ∧ a.take i = b.take i) (fun i => a.length - i) 0 ⟨Nat.zero_le _, by simp⟩ ?_ (fun i hi => ?_))
    · refine Sub.of_lists ?_ ?_ ?_ ?_ <;> simp [subT, subO, onlyT, onlyO, isIn, look_cons, lookO_cons, lookO_nil, AV.only, AV.onlys, AO.only, onlys_map, onlys_append, e_only, e_int, e_bool]
    · refine AW.seq (AW.seq ?_)
      refine AW.reg cd16_4 fun K hK => ?_
      simp only [g16_4, bR, Nat.reduceEqDiff, reduceIte, Int.reduceBNe, Int.reduceBEq]
      simp only [useR, bR, Nat.reduceEqDiff, reduceIte, Int.reduceBNe, Int.reduceBEq]
      refine .done (hK _ ?_); clear hK K; simp only [thenQ, blockQ]
      refine AW.ite ?_
      simp only [condQ, bR, Nat.reduceEqDiff, reduceIte, Int.reduceBNe, Int.reduceBEq]
      refine ⟨fun h => ?_, fun h => ?_⟩
      · have hlt : i < a.length := by simpa using h
        have hlb : i < b.length := by omega
        refine AW.skip ?_; simp only [thenQ, blockQ, reduceIte, Nat.reduceEqDiff]
        refine AW.seq (AW.block ?_)
        refine AW.seq (AW.reg cd16_5 fun K hK => ?_)
        simp only [g16_5, bR, Nat.reduceEqDiff, reduceIte, Int.reduceBNe, Int.reduceBEq]
        simp only [isE_nat 1 hlt rfl, isE_nat 1 hlb rfl, okR, bR, Nat.reduceEqDiff, reduceIte, Int.reduceBNe, Int.reduceBEq]
        refine .done (hK _ ?_); clear hK K; simp only [thenQ, blockQ]
        refine AW.ite ?_
        simp only [condQ, bR, Nat.reduceEqDiff, reduceIte, Int.reduceBNe, Int.reduceBEq]
        refine ⟨fun h => ?_, fun h => ?_⟩
        · refine AW.seq (AW.reg cd16_6 fun K hK => ?_)
          simp only [g16_6, bR, Nat.reduceEqDiff, reduceIte, Int.reduceBNe, Int.reduceBEq]
          refine .done (hK _ ?_); clear hK K; simp only [thenQ, blockQ]
          refine AW.ret ?_
          simp only [blockQ, thenQ, bR, Nat.reduceEqDiff, reduceIte, Int.reduceBNe, Int.reduceBEq]
          have hne : a ≠ b := fun e => by subst e; simp at h
          simp [hne]
        · refine AW.skip ?_; simp only [thenQ, blockQ, reduceIte, Nat.reduceEqDiff]
          refine AW.reg cd16_7 fun K hK => ?_
          simp only [g16_7, bR, Nat.reduceEqDiff, reduceIte, Int.reduceBNe, Int.reduceBEq]
          refine .done (hK _ ?_); clear hK K; simp only [thenQ, blockQ]
          refine ⟨i + 1, ⟨by omega, ?_⟩, by omega, ?_⟩
          · rw [List.take_succ_eq_append_getElem hlt, List.take_succ_eq_append_getElem hlb, hi.2]
            simp at h
            rw [h]
          · rw [wrap_id _ (by omega) (by omega)]
            refine Sub.of_lists ?_ ?_ ?_ ?_ <;> simp [subT, subO, onlyT, onlyO, isIn, look_cons, lookO_cons, lookO_nil, AV.only, AV.onlys, AO.only, onlys_map, onlys_append, e_only, e_int, e_bool]
      · have hge : i = a.length := by simp at h; omega
        refine AW.exit ?_; simp only [thenQ, blockQ, reduceIte, Nat.reduceEqDiff]
        refine AW.seq (AW.reg cd16_8 fun K hK => ?_)
        simp only [g16_8, bR, Nat.reduceEqDiff, reduceIte, Int.reduceBNe, Int.reduceBEq]
        refine .done (hK _ ?_); clear hK K; simp only [thenQ, blockQ]
        refine AW.ret ?_
        simp only [blockQ, thenQ, bR, Nat.reduceEqDiff, reduceIte, Int.reduceBNe, Int.reduceBEq]
        have : a = b := by
          have := hi.2
          rw [hge, List.take_length] at this
          rw [hab, List.take_length] at this
          exact this
        simp [this]
end Go.Proofs.Ytkjkbpgdpnapfaa

/-
  THE REFERENCE'S CHECK OF A BOOK OF MARKS, BY CONTRACT.
-/
namespace Go.Proofs.Ytkjkbpgdpnapfaa
open Go Go.Abs
open Go.Abs.Enc (enc)
def gv (m : Marks) (i : Nat) : Given := m.given.getD i ⟨0, ⟨List.replicate 6 0, rfl⟩⟩
theorem gv_eq {m : Marks} {i : Nat} (h : i < m.given.length) : m.given[i] = gv m i := by simp [gv, List.getD_eq_getElem?_getD, h]
theorem isE_gv {A : AState} {m : Marks} {i : Nat} (h : i < m.given.length) : isE A 7 (i : Int) (enc m.given) = some (.ref (enc (gv m i))) := by
  rw [isE_nat 7 h rfl, gv_eq h]
def okWear (w : Arr 5 Int) : Bool := (List.range 5).all (fun i => inR 0 31 (w.g i) && bit (w.g i) i)
theorem F44' (w : Arr 5 Int) : Ctr Try.prog 44 [enc w] (enc (if okWear w then (0 : Int) else 11)) := F44 w
theorem F42' (m : Arr 6 Int) : Ctr Try.prog 42 [enc m] (enc (if okMark m then (0 : Int) else 10)) := F42 m
theorem F94' (n lo hi : Int) : Ctr Try.prog 94 [enc n, enc lo, enc hi] (enc (inR lo hi n)) := F94 n lo hi
def tooNear (m : Marks) (a b : Arr 6 Int) : Bool := decide ((cnt (apartAt m.wear a b) 6 : Int) ≤ IntKind.i64.wrap (2 * m.fls))
def okAt (m : Marks) (i : Nat) : Bool := inR 1 99 (gv m i).owner && (okMark (gv m i).mark && ((i == 0 || decide ((gv m (i - 1)).owner < (gv m i).owner)) && (List.range i).all (fun j => !tooNear m (gv m j).mark (gv m i).mark)))
/-- What the check asks of a book. -/
def okM (m : Marks) : Bool := okWear m.wear && (inR 0 2 m.fls && (decide (m.given.length ≤ 40) && (List.range m.given.length).all (okAt m)))
theorem okAt_mark {m : Marks} {i : Nat} (h : okAt m i = true) : okMark (gv m i).mark = true := by
  simp only [okAt, Bool.and_eq_true] at h
  exact h.2.1
theorem F48 (m : Marks) : Ctr Try.prog 48 [enc m] (enc (if okM m then (0 : Int) else 13)) := by
  refine Ctr.mk' Try.func48 ca48 cc48 cr48 (Nat.le_of_ble_eq_true rfl) (fun hwf W0 D0 E1 => ?_)
  simp only [c48, r48, idx, Nat.zero_add, Nat.reduceAdd]
  refine AW.seq (AW.reg cd48_0 fun K hK => ?_)
  simp only [g48_0, bR, Nat.reduceEqDiff, reduceIte, Int.reduceBNe, Int.reduceBEq]
  refine .done (hK _ ?_); clear hK K; simp only [thenQ, blockQ]
  refine AW.seq (AW.seq ?_)
  refine AW.reg cd48_1 fun K hK => ?_
  simp only [g48_1, bR, Nat.reduceEqDiff, reduceIte, Int.reduceBNe, Int.reduceBEq]
  simp only [typR, useR, okR, e_fin, bR, Nat.reduceEqDiff, reduceIte, Int.reduceBNe, Int.reduceBEq]
  refine .flat _ (F44' m.wear) rfl ?_
  generalize hw : okWear m.wear = bw
  cases bw
  · simp only [typR, useR, okR, bR, Nat.reduceEqDiff, reduceIte, Int.reduceBNe, Int.reduceBEq]
    refine .done (hK _ ?_); clear hK K; simp only [thenQ, blockQ]
    refine AW.ite ?_
    simp only [condQ, bR, Nat.reduceEqDiff, reduceIte, Int.reduceBNe, Int.reduceBEq]
    refine ⟨fun h => ?_, fun h => ?_⟩
    · refine AW.seq (AW.reg cd48_2 fun K hK => ?_)
      simp only [g48_2, bR, Nat.reduceEqDiff, reduceIte, Int.reduceBNe, Int.reduceBEq]
      refine .done (hK _ ?_); clear hK K; simp only [thenQ, blockQ]
      refine AW.ret ?_
      simp only [blockQ, thenQ, bR, Nat.reduceEqDiff, reduceIte, Int.reduceBNe, Int.reduceBEq]
      simp [okM, hw]
    · cases h
  simp only [typR, useR, okR, bR, Nat.reduceEqDiff, reduceIte, Int.reduceBNe, Int.reduceBEq]
  refine .flat _ (F94' m.fls 0 2) rfl ?_
  generalize hf : inR 0 2 m.fls = bf
  cases bf
  · simp only [typR, useR, okR, bR, Nat.reduceEqDiff, reduceIte, Int.reduceBNe, Int.reduceBEq]
    refine .done (hK _ ?_); clear hK K; simp only [thenQ, blockQ]
    refine AW.ite ?_
    simp only [condQ, bR, Nat.reduceEqDiff, reduceIte, Int.reduceBNe, Int.reduceBEq]
    refine ⟨fun h => ?_, fun h => ?_⟩
    · refine AW.seq (AW.reg cd48_2 fun K hK => ?_)
      simp only [g48_2, bR, Nat.reduceEqDiff, reduceIte, Int.reduceBNe, Int.reduceBEq]
      refine .done (hK _ ?_); clear hK K; simp only [thenQ, blockQ]
      refine AW.ret ?_
      simp only [blockQ, thenQ, bR, Nat.reduceEqDiff, reduceIte, Int.reduceBNe, Int.reduceBEq]
      simp [okM, hw, hf]
    · cases h
  simp only [typR, useR, okR, bR, Nat.reduceEqDiff, reduceIte, Int.reduceBNe, Int.reduceBEq]
  refine .done (hK _ ?_); clear hK K; simp only [thenQ, blockQ]
  refine AW.ite ?_
  simp only [condQ, bR, Nat.reduceEqDiff, reduceIte, Int.reduceBNe, Int.reduceBEq]
  refine ⟨fun h => ?_, fun h => ?_⟩
  · refine AW.seq (AW.reg cd48_2 fun K hK => ?_)
    simp only [g48_2, bR, Nat.reduceEqDiff, reduceIte, Int.reduceBNe, Int.reduceBEq]
    refine .done (hK _ ?_); clear hK K; simp only [thenQ, blockQ]
    refine AW.ret ?_
    simp only [blockQ, thenQ, bR, Nat.reduceEqDiff, reduceIte, Int.reduceBNe, Int.reduceBEq]
    have : ¬ m.given.length ≤ 40 := by simp at h; omega
    simp [okM, hw, hf, this]
  have hlen : m.given.length ≤ 40 := by simp at h; omega
  refine AW.skip ?_; simp only [thenQ, blockQ, reduceIte, Nat.reduceEqDiff]
  refine AW.seq (AW.seq ?_)
  refine AW.reg cd48_3 fun K hK => ?_
  simp only [g48_3, bR, Nat.reduceEqDiff, reduceIte, Int.reduceBNe, Int.reduceBEq]
  refine .done (hK _ ?_); clear hK K; simp only [thenQ, blockQ]
  refine AW.block (AW.loop (fun i : Nat => mkA [(1, .ptr 1 []), (3, .int .i64 i)] [(1, .box (enc m))]) (fun i => i ≤ m.given.length ∧ ∀ j, j < i → okAt m j = true) (fun i => m.given.length - i) 0 ⟨by omega, fun k h => by omega⟩ ?_ (fun i hi => ?_))
  · refine Sub.of_lists ?_ ?_ ?_ ?_ <;> simp [subT, subO, onlyT, onlyO, isIn, look_cons, lookO_cons, lookO_nil, AV.only, AV.onlys, AO.only, onlys_map, onlys_append, e_only, e_int, e_bool]
  refine AW.seq (AW.seq ?_)
  refine AW.reg cd48_4 fun K hK => ?_
  simp only [g48_4, bR, Nat.reduceEqDiff, reduceIte, Int.reduceBNe, Int.reduceBEq]
  simp only [typR, useR, okR, bR, Nat.reduceEqDiff, reduceIte, Int.reduceBNe, Int.reduceBEq]
  refine .done (hK _ ?_); clear hK K; simp only [thenQ, blockQ]
  refine AW.ite ?_
  simp only [condQ, bR, Nat.reduceEqDiff, reduceIte, Int.reduceBNe, Int.reduceBEq]
  refine ⟨fun h => ?_, fun h => ?_⟩
  case refine_2.refine_2 =>
    have hge : i = m.given.length := by simp at h; omega
    subst hge
    refine AW.exit ?_; simp only [thenQ, blockQ, reduceIte, Nat.reduceEqDiff]
    refine AW.seq (AW.reg cd48_14 fun K hK => ?_)
    simp only [g48_14, bR, Nat.reduceEqDiff, reduceIte, Int.reduceBNe, Int.reduceBEq]
    refine .done (hK _ ?_); clear hK K; simp only [thenQ, blockQ]
    refine AW.ret ?_
    simp only [blockQ, thenQ, bR, Nat.reduceEqDiff, reduceIte, Int.reduceBNe, Int.reduceBEq]
    have : (List.range m.given.length).all (okAt m) = true := all_true hi.2
    simp [okM, hw, hf, this, hlen]
  have hlt : i < m.given.length := by simpa using h
  refine AW.skip ?_; simp only [thenQ, blockQ, reduceIte, Nat.reduceEqDiff]
  refine AW.seq (AW.block ?_)
  refine AW.seq (AW.reg cd48_5 fun K hK => ?_)
  simp only [g48_5, bR, Nat.reduceEqDiff, reduceIte, Int.reduceBNe, Int.reduceBEq]
  simp only [typR, useR, okR, isE_gv hlt, bR, Nat.reduceEqDiff, reduceIte, Int.reduceBNe, Int.reduceBEq]
  rw [stR3_ok (e_isVal _) (by rw [e_okS]; rfl) ((e_sh _).trans rfl)]
  simp only [typR, useR, okR, bR, Nat.reduceEqDiff, reduceIte, Int.reduceBNe, Int.reduceBEq]
  refine .done (hK _ ?_); clear hK K; simp only [thenQ, blockQ]
  -- what is said of the mark at i alone
  have bad : ∀ b, okAt m i = b → b = false → (if okM m then (0 : Int) else 13) = 13 := fun b h1 h2 => by
    have : (List.range m.given.length).all (okAt m) = false := all_false i hlt (by rw [h1, h2])
    simp [okM, this]
  refine AW.seq (AW.seq ?_)
  refine AW.reg cd48_6 fun K hK => ?_
  simp only [g48_6, bR, Nat.reduceEqDiff, reduceIte, Int.reduceBNe, Int.reduceBEq]
  simp only [typR, useR, okR, e_fin, bR, Nat.reduceEqDiff, reduceIte, Int.reduceBNe, Int.reduceBEq]
  refine .flat _ (F94' (gv m i).owner 1 99) rfl ?_
  generalize ho : inR 1 99 (gv m i).owner = bo
  cases bo
  · simp only [typR, useR, okR, bR, Nat.reduceEqDiff, reduceIte, Int.reduceBNe, Int.reduceBEq]
    refine .done (hK _ ?_); clear hK K; simp only [thenQ, blockQ]
    refine AW.ite ?_
    simp only [condQ, bR, Nat.reduceEqDiff, reduceIte, Int.reduceBNe, Int.reduceBEq]
    refine ⟨fun h => ?_, fun h => ?_⟩
    · refine AW.seq (AW.reg cd48_7 fun K hK => ?_)
      simp only [g48_7, bR, Nat.reduceEqDiff, reduceIte, Int.reduceBNe, Int.reduceBEq]
      refine .done (hK _ ?_); clear hK K; simp only [thenQ, blockQ]
      refine AW.ret ?_
      simp only [blockQ, thenQ, bR, Nat.reduceEqDiff, reduceIte, Int.reduceBNe, Int.reduceBEq]
      rw [bad _ rfl (by simp [okAt, ho])]
    · cases h
  simp only [typR, useR, okR, e_fin, bR, Nat.reduceEqDiff, reduceIte, Int.reduceBNe, Int.reduceBEq]
  refine .flat _ (F42' (gv m i).mark) rfl ?_
  generalize hk : okMark (gv m i).mark = bk
  cases bk
  · simp only [typR, useR, okR, bR, Nat.reduceEqDiff, reduceIte, Int.reduceBNe, Int.reduceBEq]
    refine .done (hK _ ?_); clear hK K; simp only [thenQ, blockQ]
    refine AW.ite ?_
    simp only [condQ, bR, Nat.reduceEqDiff, reduceIte, Int.reduceBNe, Int.reduceBEq]
    refine ⟨fun h => ?_, fun h => ?_⟩
    · refine AW.seq (AW.reg cd48_7 fun K hK => ?_)
      simp only [g48_7, bR, Nat.reduceEqDiff, reduceIte, Int.reduceBNe, Int.reduceBEq]
      refine .done (hK _ ?_); clear hK K; simp only [thenQ, blockQ]
      refine AW.ret ?_
      simp only [blockQ, thenQ, bR, Nat.reduceEqDiff, reduceIte, Int.reduceBNe, Int.reduceBEq]
      rw [bad _ rfl (by simp [okAt, ho, hk])]
    · cases h
  simp only [typR, useR, okR, bR, Nat.reduceEqDiff, reduceIte, Int.reduceBNe, Int.reduceBEq]
  generalize hz : decide (0 < (i : Int)) = bz
  cases bz
  · have hprev : (i == 0 || decide ((gv m (i - 1)).owner < (gv m i).owner)) = true := by simp at hz; simp [hz]
    simp only [typR, useR, okR, bR, Nat.reduceEqDiff, reduceIte, Int.reduceBNe, Int.reduceBEq]
    refine .done (hK _ ?_); clear hK K; simp only [thenQ, blockQ]
    refine AW.ite ?_
    simp only [condQ, bR, Nat.reduceEqDiff, reduceIte, Int.reduceBNe, Int.reduceBEq]
    refine ⟨fun h => ?_, fun h => ?_⟩
    · cases h
    refine AW.skip ?_; simp only [thenQ, blockQ, reduceIte, Nat.reduceEqDiff]
    refine AW.seq (AW.reg cd48_8 fun K hK => ?_)
    simp only [g48_8, bR, Nat.reduceEqDiff, reduceIte, Int.reduceBNe, Int.reduceBEq]
    refine .done (hK _ ?_); clear hK K; simp only [thenQ, blockQ]
    refine AW.block (AW.loop (fun j : Nat => mkA [(1, .ptr 1 []), (3, .int .i64 i), (4, .ptr 4 []), (5, .int .i64 j)] [(1, .box (enc m)), (4, .box (enc (gv m i)))]) (fun j => j ≤ i ∧ ∀ k, k < j → (!tooNear m (gv m k).mark (gv m i).mark) = true) (fun j => i - j) 0 ⟨by omega, fun k h => by omega⟩ ?_ (fun j hj => ?_))
    · refine Sub.of_lists ?_ ?_ ?_ ?_ <;> simp [subT, subO, onlyT, onlyO, isIn, look_cons, lookO_cons, lookO_nil, AV.only, AV.onlys, AO.only, onlys_map, onlys_append, e_only, e_int, e_bool]
    refine AW.seq (AW.seq ?_)
    refine AW.reg cd48_9 fun K hK => ?_
    simp only [g48_9, bR, Nat.reduceEqDiff, reduceIte, Int.reduceBNe, Int.reduceBEq]
    refine .done (hK _ ?_); clear hK K; simp only [thenQ, blockQ]
    refine AW.ite ?_
    simp only [condQ, bR, Nat.reduceEqDiff, reduceIte, Int.reduceBNe, Int.reduceBEq]
    refine ⟨fun h => ?_, fun h => ?_⟩
    · have hji : j < i := by simp at h; omega
      have hjl : j < m.given.length := by omega
      refine AW.skip ?_; simp only [thenQ, blockQ, reduceIte, Nat.reduceEqDiff]
      refine AW.seq (AW.block ?_)
      refine AW.seq (AW.reg cd48_10 fun K hK => ?_)
      simp only [g48_10, bR, Nat.reduceEqDiff, reduceIte, Int.reduceBNe, Int.reduceBEq]
      simp only [typR, useR, okR, isE_gv hjl, e_fin, bR, Nat.reduceEqDiff, reduceIte, Int.reduceBNe, Int.reduceBEq]
      refine .flat _ (F99 m.wear (gv m j).mark (gv m i).mark (okAt_mark (hi.2 j hji)) hk) rfl ?_
      simp only [typR, useR, okR, bR, Nat.reduceEqDiff, reduceIte, Int.reduceBNe, Int.reduceBEq]
      refine .done (hK _ ?_); clear hK K; simp only [thenQ, blockQ]
      refine AW.ite ?_
      simp only [condQ, bR, Nat.reduceEqDiff, reduceIte, Int.reduceBNe, Int.reduceBEq]
      refine ⟨fun h => ?_, fun h => ?_⟩
      · refine AW.seq (AW.reg cd48_11 fun K hK => ?_)
        simp only [g48_11, bR, Nat.reduceEqDiff, reduceIte, Int.reduceBNe, Int.reduceBEq]
        refine .done (hK _ ?_); clear hK K; simp only [thenQ, blockQ]
        refine AW.ret ?_
        simp only [blockQ, thenQ, bR, Nat.reduceEqDiff, reduceIte, Int.reduceBNe, Int.reduceBEq]
        have hn : tooNear m (gv m j).mark (gv m i).mark = true := h
        have : (List.range i).all (fun j => !tooNear m (gv m j).mark (gv m i).mark) = false := all_false j hji (by rw [hn]; rfl)
        rw [bad _ rfl (by simp only [okAt, this, Bool.and_false])]
      · refine AW.skip ?_; simp only [thenQ, blockQ, reduceIte, Nat.reduceEqDiff]
        refine AW.reg cd48_12 fun K hK => ?_
        simp only [g48_12, bR, Nat.reduceEqDiff, reduceIte, Int.reduceBNe, Int.reduceBEq]
        refine .done (hK _ ?_); clear hK K; simp only [thenQ, blockQ]
        refine ⟨j + 1, ⟨by omega, fun k hk' => ?_⟩, by omega, ?_⟩
        · by_cases hkj : k = j
          · subst hkj
            have hn : tooNear m (gv m k).mark (gv m i).mark = false := h
            rw [hn]; rfl
          · exact hj.2 k (by omega)
        · rw [wrap_id _ (by omega) (by omega)]
          refine Sub.of_lists ?_ ?_ ?_ ?_ <;> simp [subT, subO, onlyT, onlyO, isIn, look_cons, lookO_cons, lookO_nil, AV.only, AV.onlys, AO.only, onlys_map, onlys_append, e_only, e_int, e_bool]
    · have hji : j = i := by simp at h; omega
      refine AW.exit ?_; simp only [thenQ, blockQ, reduceIte, Nat.reduceEqDiff]
      refine AW.reg cd48_13 fun K hK => ?_
      simp only [g48_13, bR, Nat.reduceEqDiff, reduceIte, Int.reduceBNe, Int.reduceBEq]
      refine .done (hK _ ?_); clear hK K; simp only [thenQ, blockQ]
      refine ⟨i + 1, ⟨by omega, fun k hk' => ?_⟩, by omega, ?_⟩
      · by_cases hki : k = i
        · have : (List.range i).all (fun j => !tooNear m (gv m j).mark (gv m i).mark) = true := all_true fun k hk => hj.2 k (by omega)
          rw [hki]
          simp only [okAt, ho, hk, hprev, this, Bool.and_self]
        · exact hi.2 k (by omega)
      · rw [wrap_id _ (by omega) (by omega)]
        refine Sub.of_lists ?_ ?_ ?_ ?_ <;> simp [subT, subO, onlyT, onlyO, isIn, look_cons, lookO_cons, lookO_nil, AV.only, AV.onlys, AO.only, onlys_map, onlys_append, e_only, e_int, e_bool]
  · have hpos : 0 < i := by simpa using hz
    have hpl : i - 1 < m.given.length := by omega
    have hpred : IntKind.i64.wrap ((i : Int) - 1) = ((i - 1 : Nat) : Int) := by rw [wrap_id _ (by omega) (by omega)]; omega
    simp only [typR, useR, okR, hpred, isE_gv hpl, bR, Nat.reduceEqDiff, reduceIte, Int.reduceBNe, Int.reduceBEq]
    refine .done (hK _ ?_); clear hK K; simp only [thenQ, blockQ]
    refine AW.ite ?_
    simp only [condQ, bR, Nat.reduceEqDiff, reduceIte, Int.reduceBNe, Int.reduceBEq]
    refine ⟨fun h => ?_, fun h => ?_⟩
    · refine AW.seq (AW.reg cd48_7 fun K hK => ?_)
      simp only [g48_7, bR, Nat.reduceEqDiff, reduceIte, Int.reduceBNe, Int.reduceBEq]
      refine .done (hK _ ?_); clear hK K; simp only [thenQ, blockQ]
      refine AW.ret ?_
      simp only [blockQ, thenQ, bR, Nat.reduceEqDiff, reduceIte, Int.reduceBNe, Int.reduceBEq]
      have : (i == 0 || decide ((gv m (i - 1)).owner < (gv m i).owner)) = false := by simp at h; simp; omega
      rw [bad _ rfl (by simp only [okAt, this, Bool.and_false, Bool.false_and])]
    have hprev : (i == 0 || decide ((gv m (i - 1)).owner < (gv m i).owner)) = true := by simp at h; simp; omega
    refine AW.skip ?_; simp only [thenQ, blockQ, reduceIte, Nat.reduceEqDiff]
    refine AW.seq (AW.reg cd48_8 fun K hK => ?_)
    simp only [g48_8, bR, Nat.reduceEqDiff, reduceIte, Int.reduceBNe, Int.reduceBEq]
    refine .done (hK _ ?_); clear hK K; simp only [thenQ, blockQ]
    refine AW.block (AW.loop (fun j : Nat => mkA [(1, .ptr 1 []), (3, .int .i64 i), (4, .ptr 4 []), (5, .int .i64 j)] [(1, .box (enc m)), (4, .box (enc (gv m i)))]) (fun j => j ≤ i ∧ ∀ k, k < j → (!tooNear m (gv m k).mark (gv m i).mark) = true) (fun j => i - j) 0 ⟨by omega, fun k h => by omega⟩ ?_ (fun j hj => ?_))
    · refine Sub.of_lists ?_ ?_ ?_ ?_ <;> simp [subT, subO, onlyT, onlyO, isIn, look_cons, lookO_cons, lookO_nil, AV.only, AV.onlys, AO.only, onlys_map, onlys_append, e_only, e_int, e_bool]
    refine AW.seq (AW.seq ?_)
    refine AW.reg cd48_9 fun K hK => ?_
    simp only [g48_9, bR, Nat.reduceEqDiff, reduceIte, Int.reduceBNe, Int.reduceBEq]
    refine .done (hK _ ?_); clear hK K; simp only [thenQ, blockQ]
    refine AW.ite ?_
    simp only [condQ, bR, Nat.reduceEqDiff, reduceIte, Int.reduceBNe, Int.reduceBEq]
    refine ⟨fun h => ?_, fun h => ?_⟩
    · have hji : j < i := by simp at h; omega
      have hjl : j < m.given.length := by omega
      refine AW.skip ?_; simp only [thenQ, blockQ, reduceIte, Nat.reduceEqDiff]
      refine AW.seq (AW.block ?_)
      refine AW.seq (AW.reg cd48_10 fun K hK => ?_)
      simp only [g48_10, bR, Nat.reduceEqDiff, reduceIte, Int.reduceBNe, Int.reduceBEq]
      simp only [typR, useR, okR, isE_gv hjl, e_fin, bR, Nat.reduceEqDiff, reduceIte, Int.reduceBNe, Int.reduceBEq]
      refine .flat _ (F99 m.wear (gv m j).mark (gv m i).mark (okAt_mark (hi.2 j hji)) hk) rfl ?_
      simp only [typR, useR, okR, bR, Nat.reduceEqDiff, reduceIte, Int.reduceBNe, Int.reduceBEq]
      refine .done (hK _ ?_); clear hK K; simp only [thenQ, blockQ]
      refine AW.ite ?_
      simp only [condQ, bR, Nat.reduceEqDiff, reduceIte, Int.reduceBNe, Int.reduceBEq]
      refine ⟨fun h => ?_, fun h => ?_⟩
      · refine AW.seq (AW.reg cd48_11 fun K hK => ?_)
        simp only [g48_11, bR, Nat.reduceEqDiff, reduceIte, Int.reduceBNe, Int.reduceBEq]
        refine .done (hK _ ?_); clear hK K; simp only [thenQ, blockQ]
        refine AW.ret ?_
        simp only [blockQ, thenQ, bR, Nat.reduceEqDiff, reduceIte, Int.reduceBNe, Int.reduceBEq]
        have hn : tooNear m (gv m j).mark (gv m i).mark = true := h
        have : (List.range i).all (fun j => !tooNear m (gv m j).mark (gv m i).mark) = false := all_false j hji (by rw [hn]; rfl)
        rw [bad _ rfl (by simp only [okAt, this, Bool.and_false])]
      · refine AW.skip ?_; simp only [thenQ, blockQ, reduceIte, Nat.reduceEqDiff]
        refine AW.reg cd48_12 fun K hK => ?_
        simp only [g48_12, bR, Nat.reduceEqDiff, reduceIte, Int.reduceBNe, Int.reduceBEq]
        refine .done (hK _ ?_); clear hK K; simp only [thenQ, blockQ]
        refine ⟨j + 1, ⟨by omega, fun k hk' => ?_⟩, by omega, ?_⟩
        · by_cases hkj : k = j
          · subst hkj
            have hn : tooNear m (gv m k).mark (gv m i).mark = false := h
            rw [hn]; rfl
          · exact hj.2 k (by omega)
        · rw [wrap_id _ (by omega) (by omega)]
          refine Sub.of_lists ?_ ?_ ?_ ?_ <;> simp [subT, subO, onlyT, onlyO, isIn, look_cons, lookO_cons, lookO_nil, AV.only, AV.onlys, AO.only, onlys_map, onlys_append, e_only, e_int, e_bool]
    · have hji : j = i := by simp at h; omega
      refine AW.exit ?_; simp only [thenQ, blockQ, reduceIte, Nat.reduceEqDiff]
      refine AW.reg cd48_13 fun K hK => ?_
      simp only [g48_13, bR, Nat.reduceEqDiff, reduceIte, Int.reduceBNe, Int.reduceBEq]
      refine .done (hK _ ?_); clear hK K; simp only [thenQ, blockQ]
      refine ⟨i + 1, ⟨by omega, fun k hk' => ?_⟩, by omega, ?_⟩
      · by_cases hki : k = i
        · have : (List.range i).all (fun j => !tooNear m (gv m j).mark (gv m i).mark) = true := all_true fun k hk => hj.2 k (by omega)
          rw [hki]
          simp only [okAt, ho, hk, hprev, this, Bool.and_self]
        · exact hi.2 k (by omega)
      · rw [wrap_id _ (by omega) (by omega)]
        refine Sub.of_lists ?_ ?_ ?_ ?_ <;> simp [subT, subO, onlyT, onlyO, isIn, look_cons, lookO_cons, lookO_nil, AV.only, AV.onlys, AO.only, onlys_map, onlys_append, e_only, e_int, e_bool]
end Go.Proofs.Ytkjkbpgdpnapfaa

/-
  FUNCTIONS OF THE REFERENCE BY CONTRACT: cost, owners, near.
-/
namespace Go.Proofs.Ytkjkbpgdpnapfaa
open Go Go.Abs
open Go.Abs.Enc (enc)
def costAt (w : Arr 5 Int) (a : Arr 6 Int) (r : Arr 6 Int) (i : Nat) : Bool := band (w.g (a.g i).toNat) (r.g i) == 0
def costOf (w : Arr 5 Int) (a r : Arr 6 Int) : Int := (cnt (costAt w a r) 6 : Int)
theorem F86 (w : Arr 5 Int) (a b : Arr 6 Int) (ha : okMark a = true) : Ctr Try.prog 86 [enc w, enc a, enc b] (enc (costOf w a b)) := by
  refine Ctr.mk' Try.func86 ca86 cc86 cr86 (Nat.le_of_ble_eq_true rfl) (fun hwf W0 D0 E1 => ?_)
  simp only [c86, r86, idx, Nat.zero_add, Nat.reduceAdd]
  refine AW.seq (AW.reg cd86_0 fun K hK => ?_)
  simp only [g86_0, bR, Nat.reduceEqDiff, reduceIte, Int.reduceBNe, Int.reduceBEq]
  refine .done (hK _ ?_); clear hK K; simp only [thenQ, blockQ]
  refine AW.seq (AW.reg cd86_1 fun K hK => ?_)
  simp only [g86_1, bR, Nat.reduceEqDiff, reduceIte, Int.reduceBNe, Int.reduceBEq]
  refine .done (hK _ ?_); clear hK K; simp only [thenQ, blockQ]
  refine AW.seq (AW.seq ?_)
  refine AW.reg cd86_2 fun K hK => ?_
  simp only [g86_2, bR, Nat.reduceEqDiff, reduceIte, Int.reduceBNe, Int.reduceBEq]
  refine .done (hK _ ?_); clear hK K; simp only [thenQ, blockQ]
  refine AW.block (AW.loop (fun i : Nat => mkA [(3, .ptr 3 []), (4, .ptr 4 []), (5, .ptr 5 []), (7, .int .i64 (cnt (costAt w a b) i)), (8, .int .i64 i)] [(3, .box (enc w)), (4, .box (enc a)), (5, .box (enc b))]) (fun i => i ≤ 6) (fun i => 6 - i) 0 (by omega) ?_ (fun i hi => ?_))
  · simp only [cnt]
    refine Sub.of_lists ?_ ?_ ?_ ?_ <;> simp [subT, subO, onlyT, onlyO, isIn, look_cons, lookO_cons, lookO_nil, AV.only, AV.onlys, AO.only, onlys_map, onlys_append, e_only, e_int, e_bool]
  · have hc := cnt_le (costAt w a b) i
    refine AW.seq (AW.seq ?_)
    refine AW.reg cd86_3 fun K hK => ?_
    simp only [g86_3, bR, Nat.reduceEqDiff, reduceIte, Int.reduceBNe, Int.reduceBEq]
    refine .done (hK _ ?_); clear hK K; simp only [thenQ, blockQ]
    refine AW.ite ?_
    simp only [condQ, bR, Nat.reduceEqDiff, reduceIte, Int.reduceBNe, Int.reduceBEq]
    refine ⟨fun h => ?_, fun h => ?_⟩
    · have hlt : i < 6 := by simp at h; omega
      have h1 := okMark_at ha hlt
      refine AW.skip ?_; simp only [thenQ, blockQ, reduceIte, Nat.reduceEqDiff]
      refine AW.seq (AW.block ?_)
      refine AW.seq (AW.reg cd86_4 fun K hK => ?_)
      simp only [g86_4, bR, Nat.reduceEqDiff, reduceIte, Int.reduceBNe, Int.reduceBEq]
      have k1 : (a.g i).toNat < 5 := by omega
      simp only [useR, inB_nat 1 a hlt rfl, atL_g a hlt, okR, bR, Nat.reduceEqDiff, reduceIte, Int.reduceBNe, Int.reduceBEq]
      simp only [useR, inB_int 1 w h1 rfl, atL_g w k1, okR, bR, Nat.reduceEqDiff, reduceIte, Int.reduceBNe, Int.reduceBEq]
      simp only [useR, inB_nat 1 b hlt rfl, atL_g b hlt, okR, bR, Nat.reduceEqDiff, reduceIte, Int.reduceBNe, Int.reduceBEq]
      refine .done (hK _ ?_); clear hK K; simp only [thenQ, blockQ]
      refine AW.ite ?_
      simp only [condQ, bR, Nat.reduceEqDiff, reduceIte, Int.reduceBNe, Int.reduceBEq]
      refine ⟨fun h => ?_, fun h => ?_⟩
      · have hap : costAt w a b i = true := h
        refine AW.reg cd86_5 fun K hK => ?_
        simp only [g86_5, bR, Nat.reduceEqDiff, reduceIte, Int.reduceBNe, Int.reduceBEq]
        refine .done (hK _ ?_); clear hK K; simp only [thenQ, blockQ]
        refine AW.reg cd86_6 fun K hK => ?_
        simp only [g86_6, bR, Nat.reduceEqDiff, reduceIte, Int.reduceBNe, Int.reduceBEq]
        refine .done (hK _ ?_); clear hK K; simp only [thenQ, blockQ]
        refine ⟨i + 1, by omega, by omega, ?_⟩
        rw [wrap_id _ (by omega) (by omega), wrap_id _ (by omega) (by omega)]
        simp only [cnt, hap, if_true]
        refine Sub.of_lists ?_ ?_ ?_ ?_ <;> simp [subT, subO, onlyT, onlyO, isIn, look_cons, lookO_cons, lookO_nil, AV.only, AV.onlys, AO.only, onlys_map, onlys_append, e_only, e_int, e_bool]
      · have hap : costAt w a b i = false := h
        refine AW.skip ?_; simp only [thenQ, blockQ, reduceIte, Nat.reduceEqDiff]
        refine AW.reg cd86_6 fun K hK => ?_
        simp only [g86_6, bR, Nat.reduceEqDiff, reduceIte, Int.reduceBNe, Int.reduceBEq]
        refine .done (hK _ ?_); clear hK K; simp only [thenQ, blockQ]
        refine ⟨i + 1, by omega, by omega, ?_⟩
        rw [wrap_id _ (by omega) (by omega)]
        simp only [cnt, hap, Bool.false_eq_true, if_false]
        refine Sub.of_lists ?_ ?_ ?_ ?_ <;> simp [subT, subO, onlyT, onlyO, isIn, look_cons, lookO_cons, lookO_nil, AV.only, AV.onlys, AO.only, onlys_map, onlys_append, e_only, e_int, e_bool]
    · have hge : i = 6 := by simp at h; omega
      subst hge
      refine AW.exit ?_; simp only [thenQ, blockQ, reduceIte, Nat.reduceEqDiff]
      refine AW.seq (AW.reg cd86_7 fun K hK => ?_)
      simp only [g86_7, bR, Nat.reduceEqDiff, reduceIte, Int.reduceBNe, Int.reduceBEq]
      refine .done (hK _ ?_); clear hK K; simp only [thenQ, blockQ]
      refine AW.ret ?_
      simp only [blockQ, thenQ, bR, Nat.reduceEqDiff, reduceIte, Int.reduceBNe, Int.reduceBEq]
      rfl
/-- A book that can be reckoned with: not endless, its marks are marks. -/
structure okBook (m : Marks) : Prop where
  len : m.given.length ≤ 1099511627776
  mark : ∀ g ∈ m.given, okMark g.mark = true
def ownersIn (m : Marks) (r : Arr 6 Int) (l : List Given) : List Int := (l.filter fun g => decide (costOf m.wear g.mark r ≤ m.fls)).map (·.owner)
theorem ownersIn_le (m : Marks) (r : Arr 6 Int) (l : List Given) : (ownersIn m r l).length ≤ l.length := by
  simp only [ownersIn, List.length_map]; exact List.length_filter_le _ _
theorem F84 (m : Marks) (r : Arr 6 Int) (hm : okBook m) : Ctr Try.prog 84 [enc m, enc r] (enc (ownersIn m r m.given)) := by
  refine Ctr.mk' Try.func84 ca84 cc84 cr84 (Nat.le_of_ble_eq_true rfl) (fun hwf W0 D0 E1 => ?_)
  simp only [c84, r84, idx, Nat.zero_add, Nat.reduceAdd]
  have hlen := hm.len
  refine AW.seq (AW.reg cd84_0 fun K hK => ?_)
  simp only [g84_0, bR, Nat.reduceEqDiff, reduceIte, Int.reduceBNe, Int.reduceBEq]
  refine .done (hK _ ?_); clear hK K; simp only [thenQ, blockQ]
  refine AW.seq (AW.reg cd84_1 fun K hK => ?_)
  simp only [g84_1, bR, Nat.reduceEqDiff, reduceIte, Int.reduceBNe, Int.reduceBEq]
  refine .done (hK _ ?_); clear hK K; simp only [thenQ, blockQ]
  refine AW.seq (AW.seq ?_)
  refine AW.reg cd84_2 fun K hK => ?_
  simp only [g84_2, bR, Nat.reduceEqDiff, reduceIte, Int.reduceBNe, Int.reduceBEq]
  refine .done (hK _ ?_); clear hK K; simp only [thenQ, blockQ]
  refine AW.block (AW.loop (fun i : Nat => mkA [(2, .ptr 2 []), (3, .ptr 3 []), (5, .own 5 (ownersIn m r (m.given.take i)).length), (6, .int .i64 i)] [(2, .box (enc m)), (3, .box (enc r)), (5, .row 3 1 ((ownersIn m r (m.given.take i)).map enc))]) (fun i => i ≤ m.given.length) (fun i => m.given.length - i) 0 (by omega) ?_ (fun i hi => ?_))
  · refine Sub.adoptL 5 5 3 1 1 ?_ ?_ ?_
    · simp only [absR, Nat.reduceEqDiff, reduceIte]
    · simp only [absR, Nat.reduceEqDiff, reduceIte]
    · simp only [List.take_zero, ownersIn, List.filter_nil, List.map_nil, List.length_nil]
      refine Sub.of_lists ?_ ?_ ?_ ?_ <;> simp [subT, subO, onlyT, onlyO, isIn, look_cons, lookO_cons, lookO_nil, AV.only, AV.onlys, AO.only, onlys_map, onlys_append, e_only, e_int, e_bool]
  · refine AW.seq (AW.seq ?_)
    refine AW.reg cd84_3 fun K hK => ?_
    simp only [g84_3, bR, Nat.reduceEqDiff, reduceIte, Int.reduceBNe, Int.reduceBEq]
    simp only [typR, useR, okR, bR, Nat.reduceEqDiff, reduceIte, Int.reduceBNe, Int.reduceBEq]
    refine .done (hK _ ?_); clear hK K; simp only [thenQ, blockQ]
    refine AW.ite ?_
    simp only [condQ, bR, Nat.reduceEqDiff, reduceIte, Int.reduceBNe, Int.reduceBEq]
    refine ⟨fun h => ?_, fun h => ?_⟩
    · have hlt : i < m.given.length := by simpa using h
      have hl := ownersIn_le m r (m.given.take i)
      rw [List.length_take] at hl
      refine AW.skip ?_; simp only [thenQ, blockQ, reduceIte, Nat.reduceEqDiff]
      refine AW.seq (AW.block ?_)
      refine AW.seq (AW.reg cd84_4 fun K hK => ?_)
      simp only [g84_4, bR, Nat.reduceEqDiff, reduceIte, Int.reduceBNe, Int.reduceBEq]
      simp only [typR, useR, okR, isE_nat 7 hlt rfl, e_fin, bR, Nat.reduceEqDiff, reduceIte, Int.reduceBNe, Int.reduceBEq]
      refine .flat _ (F86 m.wear m.given[i].mark r (hm.mark _ (List.getElem_mem _))) rfl ?_
      simp only [typR, useR, okR, isE_nat 7 hlt rfl, bR, Nat.reduceEqDiff, reduceIte, Int.reduceBNe, Int.reduceBEq]
      refine .done (hK _ ?_); clear hK K; simp only [thenQ, blockQ]
      have htake : ownersIn m r (m.given.take (i + 1)) = ownersIn m r (m.given.take i) ++ if costOf m.wear m.given[i].mark r ≤ m.fls then [m.given[i].owner] else [] := by
        rw [List.take_succ_eq_append_getElem hlt]
        simp only [ownersIn, List.filter_append, List.map_append, List.filter_cons, List.filter_nil, decide_eq_true_eq]
        split <;> simp
      refine AW.ite ?_
      simp only [condQ, bR, Nat.reduceEqDiff, reduceIte, Int.reduceBNe, Int.reduceBEq]
      refine ⟨fun h => ?_, fun h => ?_⟩
      · refine AW.reg cd84_5 fun K hK => ?_
        simp only [g84_5, bR, Nat.reduceEqDiff, reduceIte, Int.reduceBNe, Int.reduceBEq]
        simp only [typR, useR, okR, isE_nat 7 hlt rfl, bR, Nat.reduceEqDiff, reduceIte, Int.reduceBNe, Int.reduceBEq]
        rw [appR3_enc 3 1 8 5 rfl rfl (by simp) (by simp [maxLen]; omega) (by simp; omega)]
        simp only [bR, Nat.reduceEqDiff, reduceIte, Int.reduceBNe, Int.reduceBEq]
        refine .done (hK _ ?_); clear hK K; simp only [thenQ, blockQ]
        refine AW.reg cd84_6 fun K hK => ?_
        simp only [g84_6, bR, Nat.reduceEqDiff, reduceIte, Int.reduceBNe, Int.reduceBEq]
        refine .done (hK _ ?_); clear hK K; simp only [thenQ, blockQ]
        refine ⟨i + 1, by omega, by omega, ?_⟩
        rw [wrap_id _ (by omega) (by omega), htake, if_pos (by simpa using h)]
        refine Sub.of_lists ?_ ?_ ?_ ?_ <;> simp [subT, subO, onlyT, onlyO, isIn, look_cons, lookO_cons, lookO_nil, AV.only, AV.onlys, AO.only, onlys_map, onlys_append, e_only, e_int, e_bool]
      · refine AW.skip ?_; simp only [thenQ, blockQ, reduceIte, Nat.reduceEqDiff]
        refine AW.reg cd84_6 fun K hK => ?_
        simp only [g84_6, bR, Nat.reduceEqDiff, reduceIte, Int.reduceBNe, Int.reduceBEq]
        refine .done (hK _ ?_); clear hK K; simp only [thenQ, blockQ]
        refine ⟨i + 1, by omega, by omega, ?_⟩
        rw [wrap_id _ (by omega) (by omega), htake, if_neg (by simpa using h), List.append_nil]
        refine Sub.of_lists ?_ ?_ ?_ ?_ <;> simp [subT, subO, onlyT, onlyO, isIn, look_cons, lookO_cons, lookO_nil, AV.only, AV.onlys, AO.only, onlys_map, onlys_append, e_only, e_int, e_bool]
    · have hge : i = m.given.length := by simp at h; omega
      subst hge
      simp only [List.take_length]
      refine AW.exit ?_; simp only [thenQ, blockQ, reduceIte, Nat.reduceEqDiff]
      refine AW.seq (AW.reg cd84_7 fun K hK => ?_)
      simp only [g84_7, bR, Nat.reduceEqDiff, reduceIte, Int.reduceBNe, Int.reduceBEq]
      refine .done (hK _ ?_); clear hK K; simp only [thenQ, blockQ]
      refine AW.ret ?_
      simp only [blockQ, thenQ, bR, Nat.reduceEqDiff, reduceIte, Int.reduceBNe, Int.reduceBEq]
end Go.Proofs.Ytkjkbpgdpnapfaa

/-
  FUNCTIONS OF THE REFERENCE BY CONTRACT: asked, Owners, Owner, MarkOf.
-/
namespace Go.Proofs.Ytkjkbpgdpnapfaa
open Go Go.Abs
open Go.Abs.Enc (enc)
theorem okM_book {m : Marks} (h : okM m = true) : okBook m := by
  simp only [okM, Bool.and_eq_true, decide_eq_true_eq, List.all_eq_true, List.mem_range] at h
  refine ⟨by omega, fun g hg => ?_⟩
  obtain ⟨i, hi, rfl⟩ := List.getElem_of_mem hg
  rw [gv_eq hi]
  exact okAt_mark (h.2.2.2 i hi)
def okReading (r : Arr 6 Int) : Bool := (List.range 6).all fun i => inR 1 31 (r.g i)
theorem F46' (m : Arr 6 Int) : Ctr Try.prog 46 [enc m] (enc (if okReading m then (0 : Int) else 12)) := F46 m
def ownersOf (m : Marks) (r : Arr 6 Int) : List Int × Int := if okM m then (if okReading r then (ownersIn m r m.given, 0) else ([], 12)) else ([], 13)
theorem nilInt : AV.slice 1 [] = enc ([] : List Int) := rfl
theorem F28 (m : Marks) (r : Arr 6 Int) : Ctr Try.prog 28 [enc m, enc r] (.tuple [enc (ownersOf m r).1, enc (ownersOf m r).2]) := by
  refine Ctr.mk' Try.func28 ca28 cc28 cr28 (Nat.le_of_ble_eq_true rfl) (fun hwf W0 D0 E1 => ?_)
  simp only [c28, r28, idx, Nat.zero_add, Nat.reduceAdd]
  refine AW.seq (AW.reg cd28_0 fun K hK => ?_)
  simp only [g28_0, bR, Nat.reduceEqDiff, reduceIte, Int.reduceBNe, Int.reduceBEq]
  refine .done (hK _ ?_); clear hK K; simp only [thenQ, blockQ]
  refine AW.seq (AW.seq ?_)
  refine AW.reg cd28_1 fun K hK => ?_
  simp only [g28_1, bR, Nat.reduceEqDiff, reduceIte, Int.reduceBNe, Int.reduceBEq]
  simp only [typR, useR, okR, e_fin, bR, Nat.reduceEqDiff, reduceIte, Int.reduceBNe, Int.reduceBEq]
  refine .flat _ (F48 m) rfl ?_
  generalize hm : okM m = bm
  cases bm
  · simp only [typR, useR, okR, bR, Nat.reduceEqDiff, reduceIte, Int.reduceBNe, Int.reduceBEq]
    refine .done (hK _ ?_); clear hK K; simp only [thenQ, blockQ]
    refine AW.ite ?_
    simp only [condQ, bR, Nat.reduceEqDiff, reduceIte, Int.reduceBNe, Int.reduceBEq]
    refine ⟨fun h => ?_, fun h => ?_⟩
    · refine AW.seq (AW.reg cd28_2 fun K hK => ?_)
      simp only [g28_2, bR, Nat.reduceEqDiff, reduceIte, Int.reduceBNe, Int.reduceBEq]
      refine .done (hK _ ?_); clear hK K; simp only [thenQ, blockQ]
      refine AW.ret ?_
      simp only [blockQ, thenQ, bR, Nat.reduceEqDiff, reduceIte, Int.reduceBNe, Int.reduceBEq]
      simp [ownersOf, hm, nilInt]
    · cases h
  simp only [typR, useR, okR, bR, Nat.reduceEqDiff, reduceIte, Int.reduceBNe, Int.reduceBEq]
  refine .done (hK _ ?_); clear hK K; simp only [thenQ, blockQ]
  refine AW.ite ?_
  simp only [condQ, bR, Nat.reduceEqDiff, reduceIte, Int.reduceBNe, Int.reduceBEq]
  refine ⟨fun h => ?_, fun h => ?_⟩
  · cases h
  refine AW.skip ?_; simp only [thenQ, blockQ, reduceIte, Nat.reduceEqDiff]
  refine AW.seq (AW.seq ?_)
  refine AW.reg cd28_3 fun K hK => ?_
  simp only [g28_3, bR, Nat.reduceEqDiff, reduceIte, Int.reduceBNe, Int.reduceBEq]
  simp only [typR, useR, okR, e_fin, bR, Nat.reduceEqDiff, reduceIte, Int.reduceBNe, Int.reduceBEq]
  refine .flat _ (F46' r) rfl ?_
  generalize hr : okReading r = br
  cases br
  · simp only [typR, useR, okR, bR, Nat.reduceEqDiff, reduceIte, Int.reduceBNe, Int.reduceBEq]
    refine .done (hK _ ?_); clear hK K; simp only [thenQ, blockQ]
    refine AW.ite ?_
    simp only [condQ, bR, Nat.reduceEqDiff, reduceIte, Int.reduceBNe, Int.reduceBEq]
    refine ⟨fun h => ?_, fun h => ?_⟩
    · refine AW.seq (AW.reg cd28_4 fun K hK => ?_)
      simp only [g28_4, bR, Nat.reduceEqDiff, reduceIte, Int.reduceBNe, Int.reduceBEq]
      refine .done (hK _ ?_); clear hK K; simp only [thenQ, blockQ]
      refine AW.ret ?_
      simp only [blockQ, thenQ, bR, Nat.reduceEqDiff, reduceIte, Int.reduceBNe, Int.reduceBEq]
      simp [ownersOf, hm, hr, nilInt]
    · cases h
  simp only [typR, useR, okR, bR, Nat.reduceEqDiff, reduceIte, Int.reduceBNe, Int.reduceBEq]
  refine .done (hK _ ?_); clear hK K; simp only [thenQ, blockQ]
  refine AW.ite ?_
  simp only [condQ, bR, Nat.reduceEqDiff, reduceIte, Int.reduceBNe, Int.reduceBEq]
  refine ⟨fun h => ?_, fun h => ?_⟩
  · cases h
  refine AW.skip ?_; simp only [thenQ, blockQ, reduceIte, Nat.reduceEqDiff]
  refine AW.seq (AW.reg cd28_5 fun K hK => ?_)
  simp only [g28_5, bR, Nat.reduceEqDiff, reduceIte, Int.reduceBNe, Int.reduceBEq]
  simp only [typR, useR, okR, e_fin, bR, Nat.reduceEqDiff, reduceIte, Int.reduceBNe, Int.reduceBEq]
  refine .lead _ (F84 m r (okM_book hm)) ?_
  simp only [typR, useR, okR, bR, Nat.reduceEqDiff, reduceIte, Int.reduceBNe, Int.reduceBEq]
  refine .done (hK _ ?_); clear hK K; simp only [thenQ, blockQ]
  refine AW.seq (AW.reg cd28_6 fun K hK => ?_)
  simp only [g28_6, bR, Nat.reduceEqDiff, reduceIte, Int.reduceBNe, Int.reduceBEq]
  refine .done (hK _ ?_); clear hK K; simp only [thenQ, blockQ]
  refine AW.ret ?_
  simp only [blockQ, thenQ, bR, Nat.reduceEqDiff, reduceIte, Int.reduceBNe, Int.reduceBEq]
  simp only [e_fin, bR, Nat.reduceEqDiff, reduceIte, Int.reduceBNe, Int.reduceBEq]
  simp [ownersOf, hm, hr]
end Go.Proofs.Ytkjkbpgdpnapfaa

/-
  FUNCTIONS OF THE REFERENCE BY CONTRACT: MarkOf, Cost, Distance.
-/
namespace Go.Proofs.Ytkjkbpgdpnapfaa
open Go Go.Abs
open Go.Abs.Enc (enc)
def zero6 : Arr 6 Int := ⟨List.replicate 6 0, rfl⟩
theorem e_zero6 : AV.agg [.int .i64 0, .int .i64 0, .int .i64 0, .int .i64 0, .int .i64 0, .int .i64 0] = enc zero6 := rfl
end Go.Proofs.Ytkjkbpgdpnapfaa

/-
  FUNCTIONS OF slices BY CONTRACT, over given marks: Clone, DeleteFunc.
-/
namespace Go.Proofs.Ytkjkbpgdpnapfaa
open Go Go.Abs
open Go.Abs.Enc (enc)
instance : Lean0 Given := ⟨fun g => by
  show (AV.agg [.int .i64 g.owner, enc g.mark]).lean = true
  simp only [AV.lean, AV.leans, e_lean, Bool.and_self]⟩
def g0 : Given := ⟨0, zero6⟩
theorem e_g0 : AV.agg [.int .i64 0, .agg [.int .i64 0, .int .i64 0, .int .i64 0, .int .i64 0, .int .i64 0, .int .i64 0]] = enc g0 := rfl
theorem map_only (p : Nat → Bool) (l : List Given) : (AV.agg (l.map enc)).only p = true := by simp only [AV.only]; exact onlys_map p l
theorem map_lean (l : List Given) : (AV.agg (l.map enc)).lean = true := by simp only [AV.lean]; exact leans_map l
/-- A slice of given marks of the caller's own, with room behind it. -/
def rowG (k : Nat) (l : List Given) (m : Nat) : List (Nat × AO) := [(k, .box (.agg ((l ++ List.replicate m g0).map enc)))]
def clonePost (l : List Given) : Post := fun r os' => (l = [] ∧ (r = .nils 7 ∨ r = .c0 7) ∧ os' = []) ∨ (l ≠ [] ∧ ∃ m, r = .view 7 [] 7 0 l.length ∧ os' = rowG 7 l m)
theorem F85 (l : List Given) (hl : l.length ≤ 1000) : CtrO Try.prog 85 [enc l] [] (clonePost l) := by
  refine CtrO.mk' Try.func85 ca85 cc85 cr85 (Nat.le_of_ble_eq_true rfl) (Nat.le_of_ble_eq_true rfl) (fun m hm => by simp [isIn, lookO] at hm) (fun hwf W0 D0 E1 => ?_)
  simp only [c85, r85, idx, Nat.zero_add, Nat.reduceAdd]
  refine AW.seq (AW.reg cd85_0 fun K hK => ?_)
  simp only [g85_0, bR, Nat.reduceEqDiff, reduceIte, Int.reduceBNe, Int.reduceBEq]
  refine .done (hK _ ?_); clear hK K; simp only [thenQ, blockQ]
  refine AW.seq (AW.seq ?_)
  by_cases hn : l = []
  · subst hn
    refine AW.reg cd85_1 fun K hK => ?_
    simp only [g85_1, bR, Nat.reduceEqDiff, reduceIte, Int.reduceBNe, Int.reduceBEq]
    simp only [und_enc, List.isEmpty_nil, nilR]
    refine .any rfl fun b _ => ?_
    simp only [bR, Nat.reduceEqDiff, reduceIte, Int.reduceBNe, Int.reduceBEq]
    generalize (b == 0) = t
    cases t
    · refine .done (hK _ ?_); clear hK K; simp only [thenQ, blockQ]
      refine AW.ite ?_
      simp only [condQ, bR, Nat.reduceEqDiff, reduceIte, Int.reduceBNe, Int.reduceBEq]
      refine ⟨fun h => ?_, fun h => ?_⟩
      · cases h
      refine AW.skip ?_; simp only [thenQ, blockQ, reduceIte, Nat.reduceEqDiff]
      refine AW.seq (AW.reg cd85_3 fun K hK => ?_)
      simp only [g85_3, bR, Nat.reduceEqDiff, reduceIte, Int.reduceBNe, Int.reduceBEq]
      simp only [viewR, e_g0, appR_nothing (α := Given) _ rfl, bR, Nat.reduceEqDiff, reduceIte, Int.reduceBNe, Int.reduceBEq]
      refine .done (hK _ ?_); clear hK K; simp only [thenQ, blockQ]
      refine AW.ret ?_
      simp only [blockQ, thenQ, retO_ret]
      exact ⟨[], [.c0 7], held0, ⟨⟨.c0 7, rfl, .inl ⟨rfl, rfl, rfl⟩⟩, trivial⟩, .inl ⟨rfl, .inr rfl, rfl⟩⟩
    · refine .done (hK _ ?_); clear hK K; simp only [thenQ, blockQ]
      refine AW.ite ?_
      simp only [condQ, bR, Nat.reduceEqDiff, reduceIte, Int.reduceBNe, Int.reduceBEq]
      refine ⟨fun h => ?_, fun h => ?_⟩
      · refine AW.seq (AW.reg cd85_2 fun K hK => ?_)
        simp only [g85_2, bR, Nat.reduceEqDiff, reduceIte, Int.reduceBNe, Int.reduceBEq]
        refine .done (hK _ ?_); clear hK K; simp only [thenQ, blockQ]
        refine AW.ret ?_
        simp only [blockQ, thenQ, retO_ret]
        exact ⟨[], [.nils 7], held0, ⟨⟨.nils 7, rfl, .inl ⟨rfl, rfl, rfl⟩⟩, trivial⟩, .inl ⟨rfl, .inl rfl, rfl⟩⟩
      · cases h
  · have hu : und (enc l) = false := by rw [und_enc]; simpa using hn
    refine AW.reg cd85_1 fun K hK => ?_
    simp only [g85_1, bR, Nat.reduceEqDiff, reduceIte, Int.reduceBNe, Int.reduceBEq]
    simp only [hu, nilE_enc _ l hn, bR, Nat.reduceEqDiff, reduceIte, Int.reduceBNe, Int.reduceBEq]
    refine .done (hK _ ?_); clear hK K; simp only [thenQ, blockQ]
    refine AW.ite ?_
    simp only [condQ, bR, Nat.reduceEqDiff, reduceIte, Int.reduceBNe, Int.reduceBEq]
    refine ⟨fun h => ?_, fun h => ?_⟩
    · cases h
    refine AW.skip ?_; simp only [thenQ, blockQ, reduceIte, Nat.reduceEqDiff]
    refine AW.seq (AW.reg cd85_3 fun K hK => ?_)
    simp only [g85_3, bR, Nat.reduceEqDiff, reduceIte, Int.reduceBNe, Int.reduceBEq]
    simp only [viewR, e_g0, bR, Nat.reduceEqDiff, reduceIte, Int.reduceBNe, Int.reduceBEq]
    refine WP.appNew g0 rfl hn rfl (by omega) (by simp only [maxLen]; omega) fun m => ?_
    simp only [bR, Nat.reduceEqDiff, reduceIte, Int.reduceBNe, Int.reduceBEq]
    refine .done (hK _ ?_); clear hK K; simp only [thenQ, blockQ]
    refine AW.ret ?_
    simp only [blockQ, thenQ, retO_ret]
    exact ⟨rowG 7 l m, [.view 7 [] 7 0 l.length], held1 rfl (fun p => map_only p _), ⟨⟨_, rfl, .inl ⟨rfl, rfl, rfl⟩⟩, trivial⟩, .inr ⟨hn, m, rfl, rfl⟩⟩
end Go.Proofs.Ytkjkbpgdpnapfaa

/-
  FUNCTIONS OF THE REFERENCE BY CONTRACT: arePlaces.
-/
namespace Go.Proofs.Ytkjkbpgdpnapfaa
open Go Go.Abs
open Go.Abs.Enc (enc)
def placeAt (l : List Int) (i : Nat) : Bool := inR 0 5 (l.getD i 0) && (i == 0 || decide (l.getD (i - 1) 0 < l.getD i 0))
/-- Places, in their order, none twice. -/
def okPlaces (l : List Int) : Bool := (List.range l.length).all (placeAt l)
theorem isE_getD {A : AState} {l : List Int} {i : Nat} (h : i < l.length) : isE A 1 (i : Int) (enc l) = some (.ref (.int .i64 (l.getD i 0))) := by
  rw [isE_nat 1 h rfl]
  simp [List.getD_eq_getElem?_getD, h, e_int]
theorem F79 (l : List Int) : Ctr Try.prog 79 [enc l] (enc (okPlaces l)) := by
  refine Ctr.mk' Try.func79 ca79 cc79 cr79 (Nat.le_of_ble_eq_true rfl) (fun hwf W0 D0 E1 => ?_)
  simp only [c79, r79, idx, Nat.zero_add, Nat.reduceAdd]
  have hlen : l.length ≤ maxLen := ((wf_list l).1 hwf.1).1
  simp only [maxLen] at hlen
  refine AW.seq (AW.reg cd79_0 fun K hK => ?_)
  simp only [g79_0, bR, Nat.reduceEqDiff, reduceIte, Int.reduceBNe, Int.reduceBEq]
  refine .done (hK _ ?_); clear hK K; simp only [thenQ, blockQ]
  refine AW.seq ?_
  refine AW.seq (AW.reg cd79_1 fun K hK => ?_)
  simp only [g79_1, bR, Nat.reduceEqDiff, reduceIte, Int.reduceBNe, Int.reduceBEq]
  refine .done (hK _ ?_); clear hK K; simp only [thenQ, blockQ]
  refine AW.block (AW.loop (fun i : Nat => mkA [(0, enc l), (3, .int .i64 i)] []) (fun i => i ≤ l.length ∧ ∀ j, j < i → placeAt l j = true) (fun i => l.length - i) 0 ⟨by omega, fun k h => by omega⟩ ?_ (fun i hi => ?_))
  · refine Sub.of_lists ?_ ?_ ?_ ?_ <;> simp [subT, subO, onlyT, onlyO, isIn, look_cons, lookO_cons, lookO_nil, AV.only, AV.onlys, AO.only, onlys_map, onlys_append, e_only, e_int, e_bool]
  refine AW.seq (AW.seq ?_)
  refine AW.reg cd79_2 fun K hK => ?_
  simp only [g79_2, bR, Nat.reduceEqDiff, reduceIte, Int.reduceBNe, Int.reduceBEq]
  simp only [typR, useR, okR, bR, Nat.reduceEqDiff, reduceIte, Int.reduceBNe, Int.reduceBEq]
  refine .done (hK _ ?_); clear hK K; simp only [thenQ, blockQ]
  refine AW.ite ?_
  simp only [condQ, bR, Nat.reduceEqDiff, reduceIte, Int.reduceBNe, Int.reduceBEq]
  refine ⟨fun h => ?_, fun h => ?_⟩
  case refine_2.refine_2 =>
    have hge : i = l.length := by simp at h; omega
    subst hge
    refine AW.exit ?_; simp only [thenQ, blockQ, reduceIte, Nat.reduceEqDiff]
    refine AW.seq (AW.reg cd79_6 fun K hK => ?_)
    simp only [g79_6, bR, Nat.reduceEqDiff, reduceIte, Int.reduceBNe, Int.reduceBEq]
    refine .done (hK _ ?_); clear hK K; simp only [thenQ, blockQ]
    refine AW.ret ?_
    simp only [blockQ, thenQ, bR, Nat.reduceEqDiff, reduceIte, Int.reduceBNe, Int.reduceBEq]
    rw [okPlaces, all_true hi.2]
  have hlt : i < l.length := by simpa using h
  have bad : placeAt l i = false → okPlaces l = false := fun h => all_false i hlt h
  refine AW.skip ?_; simp only [thenQ, blockQ, reduceIte, Nat.reduceEqDiff]
  refine AW.seq (AW.block ?_)
  refine AW.seq (AW.reg cd79_3 fun K hK => ?_)
  simp only [g79_3, bR, Nat.reduceEqDiff, reduceIte, Int.reduceBNe, Int.reduceBEq]
  simp only [typR, useR, okR, isE_getD hlt, bR, Nat.reduceEqDiff, reduceIte, Int.reduceBNe, Int.reduceBEq]
  refine .flat _ (F94' (l.getD i 0) 0 5) rfl ?_
  generalize hr : inR 0 5 (l.getD i 0) = br
  cases br
  · simp only [typR, useR, okR, bR, Nat.reduceEqDiff, reduceIte, Int.reduceBNe, Int.reduceBEq]
    refine .done (hK _ ?_); clear hK K; simp only [thenQ, blockQ]
    refine AW.ite ?_
    simp only [condQ, bR, Nat.reduceEqDiff, reduceIte, Int.reduceBNe, Int.reduceBEq]
    refine ⟨fun h => ?_, fun h => ?_⟩
    · refine AW.seq (AW.reg cd79_4 fun K hK => ?_)
      simp only [g79_4, bR, Nat.reduceEqDiff, reduceIte, Int.reduceBNe, Int.reduceBEq]
      refine .done (hK _ ?_); clear hK K; simp only [thenQ, blockQ]
      refine AW.ret ?_
      simp only [blockQ, thenQ, bR, Nat.reduceEqDiff, reduceIte, Int.reduceBNe, Int.reduceBEq]
      rw [bad (by simp only [placeAt, hr, Bool.false_and])]
    · cases h
  simp only [typR, useR, okR, bR, Nat.reduceEqDiff, reduceIte, Int.reduceBNe, Int.reduceBEq]
  generalize hz : decide (0 < (i : Int)) = bz
  cases bz
  · have hz' : i = 0 := by simp at hz; omega
    simp only [typR, useR, okR, bR, Nat.reduceEqDiff, reduceIte, Int.reduceBNe, Int.reduceBEq]
    refine .done (hK _ ?_); clear hK K; simp only [thenQ, blockQ]
    refine AW.ite ?_
    simp only [condQ, bR, Nat.reduceEqDiff, reduceIte, Int.reduceBNe, Int.reduceBEq]
    refine ⟨fun h => ?_, fun h => ?_⟩
    · cases h
    refine AW.skip ?_; simp only [thenQ, blockQ, reduceIte, Nat.reduceEqDiff]
    refine AW.reg cd79_5 fun K hK => ?_
    simp only [g79_5, bR, Nat.reduceEqDiff, reduceIte, Int.reduceBNe, Int.reduceBEq]
    refine .done (hK _ ?_); clear hK K; simp only [thenQ, blockQ]
    refine ⟨i + 1, ⟨by omega, fun k hk' => ?_⟩, by omega, ?_⟩
    · by_cases hki : k = i
      · rw [hki, placeAt, hr]; simp [hz']
      · exact hi.2 k (by omega)
    · rw [wrap_id _ (by omega) (by omega)]
      refine Sub.of_lists ?_ ?_ ?_ ?_ <;> simp [subT, subO, onlyT, onlyO, isIn, look_cons, lookO_cons, lookO_nil, AV.only, AV.onlys, AO.only, onlys_map, onlys_append, e_only, e_int, e_bool]
  · have hpos : 0 < i := by simpa using hz
    have hpl : i - 1 < l.length := by omega
    have hpred : IntKind.i64.wrap ((i : Int) - 1) = ((i - 1 : Nat) : Int) := by rw [wrap_id _ (by omega) (by omega)]; omega
    simp only [typR, useR, okR, hpred, isE_getD hpl, isE_getD hlt, bR, Nat.reduceEqDiff, reduceIte, Int.reduceBNe, Int.reduceBEq]
    refine .done (hK _ ?_); clear hK K; simp only [thenQ, blockQ]
    refine AW.ite ?_
    simp only [condQ, bR, Nat.reduceEqDiff, reduceIte, Int.reduceBNe, Int.reduceBEq]
    refine ⟨fun h => ?_, fun h => ?_⟩
    · refine AW.seq (AW.reg cd79_4 fun K hK => ?_)
      simp only [g79_4, bR, Nat.reduceEqDiff, reduceIte, Int.reduceBNe, Int.reduceBEq]
      refine .done (hK _ ?_); clear hK K; simp only [thenQ, blockQ]
      refine AW.ret ?_
      simp only [blockQ, thenQ, bR, Nat.reduceEqDiff, reduceIte, Int.reduceBNe, Int.reduceBEq]
      have : (i == 0 || decide (l.getD (i - 1) 0 < l.getD i 0)) = false := by
        have h1 : l.getD i 0 ≤ l.getD (i - 1) 0 := of_decide_eq_true h
        have h2 : ¬ (l.getD (i - 1) 0 < l.getD i 0) := by omega
        have h3 : ¬ i = 0 := by omega
        simp only [decide_eq_false h2, Bool.or_false, beq_eq_false_iff_ne, ne_eq, h3, not_false_eq_true]
      rw [bad (by simp only [placeAt, this, Bool.and_false])]
    have hprev : (i == 0 || decide (l.getD (i - 1) 0 < l.getD i 0)) = true := by
      have h1 : ¬ (l.getD i 0 ≤ l.getD (i - 1) 0) := of_decide_eq_false h
      have h2 : l.getD (i - 1) 0 < l.getD i 0 := by omega
      simp only [decide_eq_true h2, Bool.or_true]
    refine AW.skip ?_; simp only [thenQ, blockQ, reduceIte, Nat.reduceEqDiff]
    refine AW.reg cd79_5 fun K hK => ?_
    simp only [g79_5, bR, Nat.reduceEqDiff, reduceIte, Int.reduceBNe, Int.reduceBEq]
    refine .done (hK _ ?_); clear hK K; simp only [thenQ, blockQ]
    refine ⟨i + 1, ⟨by omega, fun k hk' => ?_⟩, by omega, ?_⟩
    · by_cases hki : k = i
      · rw [hki, placeAt, hr, hprev]; rfl
      · exact hi.2 k (by omega)
    · rw [wrap_id _ (by omega) (by omega)]
      refine Sub.of_lists ?_ ?_ ?_ ?_ <;> simp [subT, subO, onlyT, onlyO, isIn, look_cons, lookO_cons, lookO_nil, AV.only, AV.onlys, AO.only, onlys_map, onlys_append, e_only, e_int, e_bool]
end Go.Proofs.Ytkjkbpgdpnapfaa

/-
  FUNCTIONS OF THE REFERENCE BY CONTRACT: chosen, Ahead.
-/
namespace Go.Proofs.Ytkjkbpgdpnapfaa
open Go Go.Abs
open Go.Abs.Enc (enc)
theorem F68 (w : Int) : Ctr Try.prog 68 [enc w] (enc (members w 6)) := by
  refine Ctr.mk' Try.func68 ca68 cc68 cr68 (Nat.le_of_ble_eq_true rfl) (fun hwf W0 D0 E1 => ?_)
  simp only [c68, r68, idx, Nat.zero_add, Nat.reduceAdd]
  refine AW.seq (AW.reg cd68_0 fun K hK => ?_)
  simp only [g68_0, bR, Nat.reduceEqDiff, reduceIte, Int.reduceBNe, Int.reduceBEq]
  refine .done (hK _ ?_); clear hK K; simp only [thenQ, blockQ]
  refine AW.seq (AW.reg cd68_1 fun K hK => ?_)
  simp only [g68_1, bR, Nat.reduceEqDiff, reduceIte, Int.reduceBNe, Int.reduceBEq]
  refine .done (hK _ ?_); clear hK K; simp only [thenQ, blockQ]
  refine AW.seq (AW.seq ?_)
  refine AW.reg cd68_2 fun K hK => ?_
  simp only [g68_2, bR, Nat.reduceEqDiff, reduceIte, Int.reduceBNe, Int.reduceBEq]
  refine .done (hK _ ?_); clear hK K; simp only [thenQ, blockQ]
  refine AW.block (AW.loop (fun i : Nat => mkA [(0, .int .i64 w), (2, .nils 1), (3, .own 3 (members w i).length), (4, .int .i64 i)] [(3, .row 3 1 ((members w i).map enc))]) (fun i => i ≤ 6) (fun i => 6 - i) 0 (by omega) ?_ (fun i hi => ?_))
  · refine Sub.adoptL 3 3 3 1 1 ?_ ?_ ?_
    · simp only [absR, Nat.reduceEqDiff, reduceIte]
    · simp only [absR]
    · simp only [members, List.map_nil, List.length_nil]
      refine Sub.of_lists ?_ ?_ ?_ ?_ <;> simp [subT, subO, onlyT, onlyO, isIn, look_cons, lookO_cons, lookO_nil, AV.only, AV.onlys, AO.only, onlys_map, onlys_append, e_only, e_int, e_bool]
  · refine AW.seq (AW.seq ?_)
    refine AW.reg cd68_3 fun K hK => ?_
    simp only [g68_3, bR, Nat.reduceEqDiff, reduceIte, Int.reduceBNe, Int.reduceBEq]
    refine .done (hK _ ?_); clear hK K; simp only [thenQ, blockQ]
    refine AW.ite ?_
    simp only [condQ, bR, Nat.reduceEqDiff, reduceIte, Int.reduceBNe, Int.reduceBEq]
    refine ⟨fun h => ?_, fun h => ?_⟩
    · have hlt : i < 6 := by simp at h; omega
      have hml := members_le w i
      refine AW.skip ?_; simp only [thenQ, blockQ, reduceIte, Nat.reduceEqDiff]
      refine AW.seq (AW.block ?_)
      refine AW.seq (AW.reg cd68_4 fun K hK => ?_)
      simp only [g68_4, bR, Nat.reduceEqDiff, reduceIte, Int.reduceBNe, Int.reduceBEq]
      refine .done (hK _ ?_); clear hK K; simp only [thenQ, blockQ]
      refine AW.ite ?_
      simp only [condQ, bR, Nat.reduceEqDiff, reduceIte, Int.reduceBNe, Int.reduceBEq]
      refine ⟨fun h => ?_, fun h => ?_⟩
      · have hb : bit w i = true := h
        refine AW.reg cd68_5 fun K hK => ?_
        simp only [g68_5, bR, Nat.reduceEqDiff, reduceIte, Int.reduceBNe, Int.reduceBEq]
        rw [appR3_enc 3 1 8 3 rfl rfl (by simp) (by simp [maxLen]; omega) (by simp; omega)]
        simp only [bR, Nat.reduceEqDiff, reduceIte, Int.reduceBNe, Int.reduceBEq]
        refine .done (hK _ ?_); clear hK K; simp only [thenQ, blockQ]
        refine AW.reg cd68_6 fun K hK => ?_
        simp only [g68_6, bR, Nat.reduceEqDiff, reduceIte, Int.reduceBNe, Int.reduceBEq]
        refine .done (hK _ ?_); clear hK K; simp only [thenQ, blockQ]
        refine ⟨i + 1, by omega, by omega, ?_⟩
        rw [wrap_id _ (by omega) (by omega)]
        simp only [members, hb, reduceIte]
        refine Sub.of_lists ?_ ?_ ?_ ?_ <;> simp [subT, subO, onlyT, onlyO, isIn, look_cons, lookO_cons, lookO_nil, AV.only, AV.onlys, AO.only, onlys_map, onlys_append, e_only, e_int, e_bool]
      · have hb : bit w i = false := h
        refine AW.skip ?_; simp only [thenQ, blockQ, reduceIte, Nat.reduceEqDiff]
        refine AW.reg cd68_6 fun K hK => ?_
        simp only [g68_6, bR, Nat.reduceEqDiff, reduceIte, Int.reduceBNe, Int.reduceBEq]
        refine .done (hK _ ?_); clear hK K; simp only [thenQ, blockQ]
        refine ⟨i + 1, by omega, by omega, ?_⟩
        rw [wrap_id _ (by omega) (by omega)]
        simp only [members, hb, reduceIte, Bool.false_eq_true, List.append_nil]
        refine Sub.of_lists ?_ ?_ ?_ ?_ <;> simp [subT, subO, onlyT, onlyO, isIn, look_cons, lookO_cons, lookO_nil, AV.only, AV.onlys, AO.only, onlys_map, onlys_append, e_only, e_int, e_bool]
    · have hge : i = 6 := by simp at h; omega
      subst hge
      refine AW.exit ?_; simp only [thenQ, blockQ, reduceIte, Nat.reduceEqDiff]
      refine AW.seq (AW.reg cd68_7 fun K hK => ?_)
      simp only [g68_7, bR, Nat.reduceEqDiff, reduceIte, Int.reduceBNe, Int.reduceBEq]
      refine .done (hK _ ?_); clear hK K; simp only [thenQ, blockQ]
      refine AW.ret ?_
      simp only [blockQ, thenQ, bR, Nat.reduceEqDiff, reduceIte, Int.reduceBNe, Int.reduceBEq]
/-- The order of lists of places. -/
def ahead : List Int → List Int → Bool
  | [], [] => false
  | [], _ :: _ => true
  | _ :: _, [] => false
  | a :: xs, b :: ys => if a = b then ahead xs ys else decide (a < b)
theorem ahead_drop (a b : List Int) (i : Nat) (ha : i < a.length) (hb : i < b.length) : ahead (a.drop i) (b.drop i) = if a.getD i 0 = b.getD i 0 then ahead (a.drop (i + 1)) (b.drop (i + 1)) else decide (a.getD i 0 < b.getD i 0) := by
  rw [List.drop_eq_getElem_cons ha, List.drop_eq_getElem_cons hb]
  simp [ahead, List.getD_eq_getElem?_getD, ha, hb]
theorem ahead_end (a b : List Int) (i : Nat) (ha : i ≤ a.length) (hb : i ≤ b.length) (h : a.length ≤ i ∨ b.length ≤ i) : ahead (a.drop i) (b.drop i) = decide (a.length < b.length) := by
  rcases h with h | h
  · have : i = a.length := by omega
    subst this
    rw [List.drop_length]
    cases hd : b.drop a.length with
    | nil => have := List.drop_eq_nil_iff.1 hd; simp [ahead]; omega
    | cons x xs =>
      have : ¬ b.length ≤ a.length := fun h => by rw [List.drop_eq_nil_iff.2 h] at hd; cases hd
      simp [ahead]; omega
  · have : i = b.length := by omega
    subst this
    rw [List.drop_length]
    have h2 : ¬ a.length < b.length := by omega
    cases hd : a.drop b.length <;> simp [ahead, h2]
theorem F70 (a b : List Int) : Ctr Try.prog 70 [enc a, enc b] (enc (ahead a b)) := by
  refine Ctr.mk' Try.func70 ca70 cc70 cr70 (Nat.le_of_ble_eq_true rfl) (fun hwf W0 D0 E1 => ?_)
  simp only [c70, r70, idx, Nat.zero_add, Nat.reduceAdd]
  have hlen : a.length ≤ maxLen := ((wf_list a).1 hwf.1).1
  simp only [maxLen] at hlen
  refine AW.seq (AW.reg cd70_0 fun K hK => ?_)
  simp only [g70_0, bR, Nat.reduceEqDiff, reduceIte, Int.reduceBNe, Int.reduceBEq]
  refine .done (hK _ ?_); clear hK K; simp only [thenQ, blockQ]
  refine AW.seq ?_
  refine AW.seq (AW.reg cd70_1 fun K hK => ?_)
  simp only [g70_1, bR, Nat.reduceEqDiff, reduceIte, Int.reduceBNe, Int.reduceBEq]
  refine .done (hK _ ?_); clear hK K; simp only [thenQ, blockQ]
  refine AW.block (AW.loop (fun i : Nat => mkA [(0, enc a), (1, enc b), (5, .int .i64 i)] []) (fun i => i ≤ a.length ∧ i ≤ b.length ∧ ahead a b = ahead (a.drop i) (b.drop i)) (fun i => a.length - i) 0 ⟨by omega, by omega, by simp⟩ ?_ (fun i hi => ?_))
  · refine Sub.of_lists ?_ ?_ ?_ ?_ <;> simp [subT, subO, onlyT, onlyO, isIn, look_cons, lookO_cons, lookO_nil, AV.only, AV.onlys, AO.only, onlys_map, onlys_append, e_only, e_int, e_bool]
  have fin : (a.length ≤ i ∨ b.length ≤ i) → ahead a b = decide (a.length < b.length) := fun h => by rw [hi.2.2, ahead_end a b i hi.1 hi.2.1 h]
  refine AW.seq (AW.seq ?_)
  refine AW.reg cd70_2 fun K hK => ?_
  simp only [g70_2, bR, Nat.reduceEqDiff, reduceIte, Int.reduceBNe, Int.reduceBEq]
  simp only [typR, useR, okR, bR, Nat.reduceEqDiff, reduceIte, Int.reduceBNe, Int.reduceBEq]
  generalize hz : decide ((i : Int) < a.length) = bz
  cases bz
  · have hge : a.length ≤ i := by simp at hz; omega
    simp only [typR, useR, okR, bR, Nat.reduceEqDiff, reduceIte, Int.reduceBNe, Int.reduceBEq]
    refine .done (hK _ ?_); clear hK K; simp only [thenQ, blockQ]
    refine AW.ite ?_
    simp only [condQ, bR, Nat.reduceEqDiff, reduceIte, Int.reduceBNe, Int.reduceBEq]
    refine ⟨fun h => ?_, fun h => ?_⟩
    · cases h
    refine AW.exit ?_; simp only [thenQ, blockQ, reduceIte, Nat.reduceEqDiff]
    refine AW.seq (AW.reg cd70_6 fun K hK => ?_)
    simp only [g70_6, bR, Nat.reduceEqDiff, reduceIte, Int.reduceBNe, Int.reduceBEq]
    simp only [useR, bR, Nat.reduceEqDiff, reduceIte, Int.reduceBNe, Int.reduceBEq]
    refine .done (hK _ ?_); clear hK K; simp only [thenQ, blockQ]
    refine AW.ret ?_
    simp only [blockQ, thenQ, bR, Nat.reduceEqDiff, reduceIte, Int.reduceBNe, Int.reduceBEq]
    rw [fin (.inl hge)]; simp
  have hla : i < a.length := by simpa using hz
  simp only [typR, useR, okR, bR, Nat.reduceEqDiff, reduceIte, Int.reduceBNe, Int.reduceBEq]
  refine .done (hK _ ?_); clear hK K; simp only [thenQ, blockQ]
  refine AW.ite ?_
  simp only [condQ, bR, Nat.reduceEqDiff, reduceIte, Int.reduceBNe, Int.reduceBEq]
  refine ⟨fun h => ?_, fun h => ?_⟩
  case refine_2.true.refine_2 =>
    have hge : b.length ≤ i := by simp at h; omega
    refine AW.exit ?_; simp only [thenQ, blockQ, reduceIte, Nat.reduceEqDiff]
    refine AW.seq (AW.reg cd70_6 fun K hK => ?_)
    simp only [g70_6, bR, Nat.reduceEqDiff, reduceIte, Int.reduceBNe, Int.reduceBEq]
    simp only [useR, bR, Nat.reduceEqDiff, reduceIte, Int.reduceBNe, Int.reduceBEq]
    refine .done (hK _ ?_); clear hK K; simp only [thenQ, blockQ]
    refine AW.ret ?_
    simp only [blockQ, thenQ, bR, Nat.reduceEqDiff, reduceIte, Int.reduceBNe, Int.reduceBEq]
    rw [fin (.inr hge)]; simp
  have hlb : i < b.length := by simpa using h
  have hstep := hi.2.2.trans (ahead_drop a b i hla hlb)
  refine AW.skip ?_; simp only [thenQ, blockQ, reduceIte, Nat.reduceEqDiff]
  refine AW.seq (AW.block ?_)
  refine AW.seq (AW.reg cd70_3 fun K hK => ?_)
  simp only [g70_3, bR, Nat.reduceEqDiff, reduceIte, Int.reduceBNe, Int.reduceBEq]
  simp only [isE_getD hla, isE_getD hlb, okR, bR, Nat.reduceEqDiff, reduceIte, Int.reduceBNe, Int.reduceBEq]
  refine .done (hK _ ?_); clear hK K; simp only [thenQ, blockQ]
  refine AW.ite ?_
  simp only [condQ, bR, Nat.reduceEqDiff, reduceIte, Int.reduceBNe, Int.reduceBEq]
  refine ⟨fun h => ?_, fun h => ?_⟩
  · have hne : ¬ a.getD i 0 = b.getD i 0 := by simpa using h
    rw [if_neg hne] at hstep
    refine AW.seq (AW.reg cd70_4 fun K hK => ?_)
    simp only [g70_4, bR, Nat.reduceEqDiff, reduceIte, Int.reduceBNe, Int.reduceBEq]
    simp only [isE_getD hla, isE_getD hlb, okR, bR, Nat.reduceEqDiff, reduceIte, Int.reduceBNe, Int.reduceBEq]
    refine .done (hK _ ?_); clear hK K; simp only [thenQ, blockQ]
    refine AW.ret ?_
    simp only [blockQ, thenQ, bR, Nat.reduceEqDiff, reduceIte, Int.reduceBNe, Int.reduceBEq]
    rw [hstep]
  have heq : a.getD i 0 = b.getD i 0 := by simpa using h
  rw [if_pos heq] at hstep
  refine AW.skip ?_; simp only [thenQ, blockQ, reduceIte, Nat.reduceEqDiff]
  refine AW.reg cd70_5 fun K hK => ?_
  simp only [g70_5, bR, Nat.reduceEqDiff, reduceIte, Int.reduceBNe, Int.reduceBEq]
  refine .done (hK _ ?_); clear hK K; simp only [thenQ, blockQ]
  refine ⟨i + 1, ⟨by omega, by omega, hstep⟩, by omega, ?_⟩
  rw [wrap_id _ (by omega) (by omega)]
  refine Sub.of_lists ?_ ?_ ?_ ?_ <;> simp [subT, subO, onlyT, onlyO, isIn, look_cons, lookO_cons, lookO_nil, AV.only, AV.onlys, AO.only, onlys_map, onlys_append, e_only, e_int, e_bool]
end Go.Proofs.Ytkjkbpgdpnapfaa

/-
  FUNCTIONS OF THE REFERENCE BY CONTRACT: Cost, Distance.
-/
namespace Go.Proofs.Ytkjkbpgdpnapfaa
open Go Go.Abs
open Go.Abs.Enc (enc)
def distR (w : Arr 5 Int) (a b : Arr 6 Int) : Int × Int := if okWear w then (if okMark a then (if okMark b then ((cnt (apartAt w a b) 6 : Int), 0) else (0, 10)) else (0, 10)) else (0, 11)
end Go.Proofs.Ytkjkbpgdpnapfaa

/-
  FUNCTIONS OF THE REFERENCE BY CONTRACT: Possible.
-/
namespace Go.Proofs.Ytkjkbpgdpnapfaa
open Go Go.Abs
open Go.Abs.Enc (enc)
end Go.Proofs.Ytkjkbpgdpnapfaa

/-
  FUNCTIONS OF THE PACKAGE mark BY CONTRACT: isMark, isReading, isWear, isOwner, CheckMark, CheckReading, CheckWear; IndexFunc and ContainsFunc over whole numbers.
-/
namespace Go.Proofs.Ytkjkbpgdpnapfaa
open Go Go.Abs
open Go.Abs.Enc (enc)
theorem F116 (n : Int) : Ctr Try.prog 116 [enc n] (enc (!inR 0 4 n)) := by
  refine Ctr.mk' Try.func116 ca116 cc116 cr116 (Nat.le_of_ble_eq_true rfl) (fun hwf W0 D0 E1 => ?_)
  simp only [c116, r116, idx, Nat.zero_add, Nat.reduceAdd]
  refine AW.seq (AW.reg cd116_0 fun K hK => ?_)
  simp only [g116_0, bR, Nat.reduceEqDiff, reduceIte, Int.reduceBNe, Int.reduceBEq]
  refine .done (hK _ ?_); clear hK K; simp only [thenQ, blockQ]
  refine AW.seq (AW.reg cd116_1 fun K hK => ?_)
  simp only [g116_1, bR, Nat.reduceEqDiff, reduceIte, Int.reduceBNe, Int.reduceBEq]
  refine .flat _ (F89 n 0 4) rfl ?_
  simp only [bR, Nat.reduceEqDiff, reduceIte, Int.reduceBNe, Int.reduceBEq]
  refine .done (hK _ ?_); clear hK K; simp only [thenQ, blockQ]
  refine AW.ret ?_
  simp only [blockQ, thenQ, bR, Nat.reduceEqDiff, reduceIte, Int.reduceBNe, Int.reduceBEq]
theorem F118 (n : Int) : Ctr Try.prog 118 [enc n] (enc (!inR 1 31 n)) := by
  refine Ctr.mk' Try.func118 ca118 cc118 cr118 (Nat.le_of_ble_eq_true rfl) (fun hwf W0 D0 E1 => ?_)
  simp only [c118, r118, idx, Nat.zero_add, Nat.reduceAdd]
  refine AW.seq (AW.reg cd118_0 fun K hK => ?_)
  simp only [g118_0, bR, Nat.reduceEqDiff, reduceIte, Int.reduceBNe, Int.reduceBEq]
  refine .done (hK _ ?_); clear hK K; simp only [thenQ, blockQ]
  refine AW.seq (AW.reg cd118_1 fun K hK => ?_)
  simp only [g118_1, bR, Nat.reduceEqDiff, reduceIte, Int.reduceBNe, Int.reduceBEq]
  generalize hz : (n == 0) = z
  cases z
  · simp only [bR, Nat.reduceEqDiff, reduceIte, Int.reduceBNe, Int.reduceBEq]
    refine .flat _ (F117 n) rfl ?_
    simp only [bR, Nat.reduceEqDiff, reduceIte, Int.reduceBNe, Int.reduceBEq]
    refine .done (hK _ ?_); clear hK K; simp only [thenQ, blockQ]
    refine AW.ret ?_
    simp only [blockQ, thenQ, bR, Nat.reduceEqDiff, reduceIte, Int.reduceBNe, Int.reduceBEq]
    simp at hz
    have e : (0 ≤ n) ↔ (1 ≤ n) := by omega
    simp [inR, e]
  · simp only [bR, Nat.reduceEqDiff, reduceIte, Int.reduceBNe, Int.reduceBEq]
    refine .done (hK _ ?_); clear hK K; simp only [thenQ, blockQ]
    refine AW.ret ?_
    simp only [blockQ, thenQ, bR, Nat.reduceEqDiff, reduceIte, Int.reduceBNe, Int.reduceBEq]
    simp at hz
    simp [inR, hz]
def idxI (p : Int → Bool) (l : List Int) : Int := match l.findIdx? p with
  | some i => i
  | none => -1
theorem findIdx?_none_take {α : Type} {p : α → Bool} {l : List α} (h : ∀ x ∈ l, p x = false) : l.findIdx? p = none := by
  rw [List.findIdx?_eq_none_iff]; exact h
theorem findIdx?_some_at {α : Type} {p : α → Bool} {l : List α} {i : Nat} (hi : i < l.length) (h : ∀ x ∈ l.take i, p x = false) (hp : p l[i] = true) : l.findIdx? p = some i := by
  rw [List.findIdx?_eq_some_iff_getElem]
  refine ⟨hi, hp, fun j hj => ?_⟩
  have : l[j] ∈ l.take i := by
    rw [List.mem_take_iff_getElem]
    exact ⟨j, by omega, rfl⟩
  simp [h _ this]
theorem F109 (l : List Int) (f : FuncId) (caps : List AV) (hcaps : AV.dones caps = true) (p : Int → Bool) (hf : ∀ x ∈ l, Ctr Try.prog f (enc x :: caps) (enc (p x))) : Ctr Try.prog 109 [enc l, .func f caps] (enc (idxI p l)) := by
  refine Ctr.mk' Try.func109 ca109 cc109 cr109 (Nat.le_of_ble_eq_true rfl) (fun hwf W0 D0 E1 => ?_)
  simp only [c109, r109, idx, Nat.zero_add, Nat.reduceAdd]
  have hlen : l.length ≤ maxLen := ((wf_list l).1 hwf.1).1
  simp only [maxLen] at hlen
  have hcl : AV.closeds caps = true := dones_closed caps hcaps
  have hfc : ∀ bx A, fins bx A caps = some caps := fun bx A => fins_dones bx A caps hcaps
  have hon : ∀ q, AV.onlys q caps = true := fun q => onlys_closed q caps hcl
  refine AW.seq (AW.reg cd109_0 fun K hK => ?_)
  simp only [g109_0, bR, Nat.reduceEqDiff, reduceIte, Int.reduceBNe, Int.reduceBEq]
  refine .done (hK _ ?_); clear hK K; simp only [thenQ, blockQ]
  refine AW.seq ?_
  refine AW.seq (AW.reg cd109_1 fun K hK => ?_)
  simp only [g109_1, useR, bR, Nat.reduceEqDiff, reduceIte, Int.reduceBNe, Int.reduceBEq]
  refine .done (hK _ ?_); clear hK K; simp only [thenQ, blockQ]
  refine AW.block (AW.loop (fun i : Nat => mkA [(0, enc l), (1, .func f caps), (7, .int .i64 l.length), (8, .int .i64 i)] []) (fun i => i ≤ l.length ∧ ∀ x ∈ l.take i, p x = false) (fun i => l.length - i) 0 ⟨Nat.zero_le _, by simp⟩ ?_ (fun i hi => ?_))
  · refine Sub.of_lists ?_ ?_ ?_ ?_ <;> simp [subT, subO, onlyT, onlyO, isIn, look_cons, lookO_cons, lookO_nil, AV.only, AV.onlys, AO.only, onlys_map, onlys_append, e_only, e_int, e_bool, hon]
  · refine AW.seq (AW.reg cd109_2 fun K hK => ?_)
    simp only [g109_2, bR, Nat.reduceEqDiff, reduceIte, Int.reduceBNe, Int.reduceBEq]
    refine .done (hK _ ?_); clear hK K; simp only [thenQ, blockQ]
    refine AW.seq ?_
    refine AW.ite ?_
    simp only [condQ, bR, Nat.reduceEqDiff, reduceIte, Int.reduceBNe, Int.reduceBEq]
    refine ⟨fun h => ?_, fun h => ?_⟩
    · have hlt : i < l.length := by simpa using h
      refine AW.skip ?_; simp only [thenQ, blockQ, reduceIte, Nat.reduceEqDiff]
      refine AW.seq (AW.block ?_)
      refine AW.seq (AW.reg cd109_3 fun K hK => ?_)
      simp only [g109_3, bR, Nat.reduceEqDiff, reduceIte, Int.reduceBNe, Int.reduceBEq]
      refine .done (hK _ ?_); clear hK K; simp only [thenQ, blockQ]
      refine AW.seq (AW.reg cd109_4 fun K hK => ?_)
      simp only [g109_4, bR, Nat.reduceEqDiff, reduceIte, Int.reduceBNe, Int.reduceBEq]
      simp only [isE_nat 1 hlt rfl, okR, List.cons_append, hfc, bR, Nat.reduceEqDiff, reduceIte, Int.reduceBNe, Int.reduceBEq]
      refine .flat _ (hf _ (List.getElem_mem hlt)) rfl ?_
      simp only [bR, Nat.reduceEqDiff, reduceIte, Int.reduceBNe, Int.reduceBEq]
      refine .done (hK _ ?_); clear hK K; simp only [thenQ, blockQ]
      refine AW.ite ?_
      simp only [condQ, bR, Nat.reduceEqDiff, reduceIte, Int.reduceBNe, Int.reduceBEq]
      refine ⟨fun h => ?_, fun h => ?_⟩
      · refine AW.seq (AW.reg cd109_5 fun K hK => ?_)
        simp only [g109_5, bR, Nat.reduceEqDiff, reduceIte, Int.reduceBNe, Int.reduceBEq]
        refine .done (hK _ ?_); clear hK K; simp only [thenQ, blockQ]
        refine AW.ret ?_
        simp only [blockQ, thenQ, bR, Nat.reduceEqDiff, reduceIte, Int.reduceBNe, Int.reduceBEq]
        simp [idxI, findIdx?_some_at hlt hi.2 h]
      · refine AW.skip ?_; simp only [thenQ, blockQ, reduceIte, Nat.reduceEqDiff]
        refine AW.reg cd109_6 fun K hK => ?_
        simp only [g109_6, bR, Nat.reduceEqDiff, reduceIte, Int.reduceBNe, Int.reduceBEq]
        refine .done (hK _ ?_); clear hK K; simp only [thenQ, blockQ]
        refine ⟨i + 1, ⟨by omega, fun x hm => ?_⟩, by omega, ?_⟩
        · rw [List.take_succ_eq_append_getElem hlt] at hm
          rcases List.mem_append.1 hm with hm | hm
          · exact hi.2 x hm
          · simp at hm; rw [hm]; exact h
        · rw [wrap_id _ (by omega) (by omega)]
          refine Sub.of_lists ?_ ?_ ?_ ?_ <;> simp [subT, subO, onlyT, onlyO, isIn, look_cons, lookO_cons, lookO_nil, AV.only, AV.onlys, AO.only, onlys_map, onlys_append, e_only, e_int, e_bool, hon]
    · have hge : i = l.length := by simp at h; omega
      refine AW.exit ?_; simp only [thenQ, blockQ, reduceIte, Nat.reduceEqDiff]
      refine AW.seq (AW.reg cd109_7 fun K hK => ?_)
      simp only [g109_7, bR, Nat.reduceEqDiff, reduceIte, Int.reduceBNe, Int.reduceBEq]
      refine .done (hK _ ?_); clear hK K; simp only [thenQ, blockQ]
      refine AW.ret ?_
      simp only [blockQ, thenQ, bR, Nat.reduceEqDiff, reduceIte, Int.reduceBNe, Int.reduceBEq]
      simp [hge] at hi
      simp [idxI, findIdx?_none_take hi]
theorem idxI_any (p : Int → Bool) (l : List Int) : decide (0 ≤ idxI p l) = l.any p := by
  unfold idxI
  cases h : l.findIdx? p with
  | none =>
    rw [List.findIdx?_eq_none_iff] at h
    have : l.any p = false := by rw [List.any_eq_false]; intro x hx; simp [h x hx]
    simp [this]
  | some i =>
    rw [List.findIdx?_eq_some_iff_getElem] at h
    obtain ⟨h1, h2, _⟩ := h
    have : l.any p = true := by rw [List.any_eq_true]; exact ⟨_, List.getElem_mem h1, h2⟩
    rw [this]
    exact decide_eq_true (Int.natCast_nonneg i)
theorem F75 (l : List Int) (f : FuncId) (caps : List AV) (hcaps : AV.dones caps = true) (p : Int → Bool) (hf : ∀ x ∈ l, Ctr Try.prog f (enc x :: caps) (enc (p x))) : Ctr Try.prog 75 [enc l, .func f caps] (enc (l.any p)) := by
  refine Ctr.mk' Try.func75 ca75 cc75 cr75 (Nat.le_of_ble_eq_true rfl) (fun hwf W0 D0 E1 => ?_)
  simp only [c75, r75, idx, Nat.zero_add, Nat.reduceAdd]
  have hcl : AV.closeds caps = true := dones_closed caps hcaps
  have hfc : ∀ bx A, fins bx A caps = some caps := fun bx A => fins_dones bx A caps hcaps
  refine AW.seq (AW.reg cd75_0 fun K hK => ?_)
  simp only [g75_0, bR, Nat.reduceEqDiff, reduceIte, Int.reduceBNe, Int.reduceBEq]
  refine .done (hK _ ?_); clear hK K; simp only [thenQ, blockQ]
  refine AW.seq (AW.reg cd75_1 fun K hK => ?_)
  simp only [g75_1, bR, Nat.reduceEqDiff, reduceIte, Int.reduceBNe, Int.reduceBEq]
  simp only [e_fin, hfc, bR, Nat.reduceEqDiff, reduceIte, Int.reduceBNe, Int.reduceBEq]
  refine .flat _ (F109 l f caps hcaps p hf) rfl ?_
  simp only [bR, Nat.reduceEqDiff, reduceIte, Int.reduceBNe, Int.reduceBEq]
  refine .done (hK _ ?_); clear hK K; simp only [thenQ, blockQ]
  refine AW.ret ?_
  simp only [blockQ, thenQ, bR, Nat.reduceEqDiff, reduceIte, Int.reduceBNe, Int.reduceBEq]
  rw [idxI_any]
theorem finV_enc {α : Type} [Enc α] {n sz : Nat} (x : Arr n α) (hs : Enc.sz α = sz) : finV sz 0 n (some (x.l.map enc)) = some (enc x.l) := by
  have h : ((x.l.map (enc (α := α))).drop 0).take n = x.l.map enc := by
    rw [List.drop_zero, List.take_of_length_le]; simp [x.h]
  simp only [finV, h]
  rw [if_pos (closeds_map x.l), e_list, hs]
theorem vaF_enc {α : Type} [Enc α] {n sz : Nat} (x : Arr n α) (hs : Enc.sz α = sz) (h1 : n ≤ maxLen) (h0 : n ≠ 0) (y : AV) : vaF n sz (x.l.map enc) y = some y := by
  simp only [vaF]; rw [if_pos ⟨evenly_map n sz x.l x.h hs, h1, h0⟩]
theorem all_g (p : Int → Bool) (x : Arr 6 Int) : x.l.any (fun v => !p v) = !(List.range 6).all (fun i => p (x.g i)) := by
  have h : (List.range 6).all (fun i => p (x.g i)) = x.l.all p := by
    rw [Bool.eq_iff_iff]
    simp only [List.all_eq_true, List.mem_range]
    constructor
    · intro h v hv
      obtain ⟨i, hi, rfl⟩ := List.getElem_of_mem hv
      have := h i (by rw [x.h] at hi; exact hi)
      rwa [← x.g_eq (by rw [x.h] at hi; exact hi)] at this
    · intro h i hi
      rw [← x.g_eq hi]
      exact h _ (List.getElem_mem _)
  rw [h, List.not_all_eq_any_not]
theorem F93 (m : Arr 6 Int) : Ctr Try.prog 93 [enc m] (enc (okMark m)) := by
  refine Ctr.mk' Try.func93 ca93 cc93 cr93 (Nat.le_of_ble_eq_true rfl) (fun hwf W0 D0 E1 => ?_)
  simp only [c93, r93, idx, Nat.zero_add, Nat.reduceAdd]
  refine AW.seq (AW.reg cd93_0 fun K hK => ?_)
  simp only [g93_0, bR, Nat.reduceEqDiff, reduceIte, Int.reduceBNe, Int.reduceBEq]
  refine .done (hK _ ?_); clear hK K; simp only [thenQ, blockQ]
  refine AW.seq (AW.reg cd93_1 fun K hK => ?_)
  simp only [g93_1, bR, Nat.reduceEqDiff, reduceIte, Int.reduceBNe, Int.reduceBEq]
  simp only [useR, vaF_enc (sz := 1) m rfl (Nat.le_of_ble_eq_true rfl) (Nat.succ_ne_zero 5), finV_enc (sz := 1) m rfl, bR, Nat.reduceEqDiff, reduceIte, Int.reduceBNe, Int.reduceBEq]
  refine .flat _ (F75 m.l 116 [] rfl (fun n => !inR 0 4 n) (fun x _ => F116 x)) rfl ?_
  simp only [bR, Nat.reduceEqDiff, reduceIte, Int.reduceBNe, Int.reduceBEq]
  refine .done (hK _ ?_); clear hK K; simp only [thenQ, blockQ]
  refine AW.ret ?_
  simp only [blockQ, thenQ, bR, Nat.reduceEqDiff, reduceIte, Int.reduceBNe, Int.reduceBEq]
  rw [all_g (inR 0 4)]; simp [okMark]
theorem F96 (m : Arr 6 Int) : Ctr Try.prog 96 [enc m] (enc (okReading m)) := by
  refine Ctr.mk' Try.func96 ca96 cc96 cr96 (Nat.le_of_ble_eq_true rfl) (fun hwf W0 D0 E1 => ?_)
  simp only [c96, r96, idx, Nat.zero_add, Nat.reduceAdd]
  refine AW.seq (AW.reg cd96_0 fun K hK => ?_)
  simp only [g96_0, bR, Nat.reduceEqDiff, reduceIte, Int.reduceBNe, Int.reduceBEq]
  refine .done (hK _ ?_); clear hK K; simp only [thenQ, blockQ]
  refine AW.seq (AW.reg cd96_1 fun K hK => ?_)
  simp only [g96_1, bR, Nat.reduceEqDiff, reduceIte, Int.reduceBNe, Int.reduceBEq]
  simp only [useR, vaF_enc (sz := 1) m rfl (Nat.le_of_ble_eq_true rfl) (Nat.succ_ne_zero 5), finV_enc (sz := 1) m rfl, bR, Nat.reduceEqDiff, reduceIte, Int.reduceBNe, Int.reduceBEq]
  refine .flat _ (F75 m.l 118 [] rfl (fun n => !inR 1 31 n) (fun x _ => F118 x)) rfl ?_
  simp only [bR, Nat.reduceEqDiff, reduceIte, Int.reduceBNe, Int.reduceBEq]
  refine .done (hK _ ?_); clear hK K; simp only [thenQ, blockQ]
  refine AW.ret ?_
  simp only [blockQ, thenQ, bR, Nat.reduceEqDiff, reduceIte, Int.reduceBNe, Int.reduceBEq]
  rw [all_g (inR 1 31)]; simp [okReading]
theorem F97 (n : Int) : Ctr Try.prog 97 [enc n] (enc (inR 1 99 n)) := by
  refine Ctr.mk' Try.func97 ca97 cc97 cr97 (Nat.le_of_ble_eq_true rfl) (fun hwf W0 D0 E1 => ?_)
  simp only [c97, r97, idx, Nat.zero_add, Nat.reduceAdd]
  refine AW.seq (AW.reg cd97_0 fun K hK => ?_)
  simp only [g97_0, bR, Nat.reduceEqDiff, reduceIte, Int.reduceBNe, Int.reduceBEq]
  refine .done (hK _ ?_); clear hK K; simp only [thenQ, blockQ]
  refine AW.seq (AW.reg cd97_1 fun K hK => ?_)
  simp only [g97_1, bR, Nat.reduceEqDiff, reduceIte, Int.reduceBNe, Int.reduceBEq]
  refine .flat _ (F89 n 1 99) rfl ?_
  simp only [bR, Nat.reduceEqDiff, reduceIte, Int.reduceBNe, Int.reduceBEq]
  refine .done (hK _ ?_); clear hK K; simp only [thenQ, blockQ]
  refine AW.ret ?_
  simp only [blockQ, thenQ, bR, Nat.reduceEqDiff, reduceIte, Int.reduceBNe, Int.reduceBEq]
theorem F41 (m : Arr 6 Int) : Ctr Try.prog 41 [enc m] (enc (if okMark m then (0 : Int) else 10)) := by
  refine Ctr.mk' Try.func41 ca41 cc41 cr41 (Nat.le_of_ble_eq_true rfl) (fun hwf W0 D0 E1 => ?_)
  simp only [c41, r41, idx, Nat.zero_add, Nat.reduceAdd]
  refine AW.seq (AW.reg cd41_0 fun K hK => ?_)
  simp only [g41_0, bR, Nat.reduceEqDiff, reduceIte, Int.reduceBNe, Int.reduceBEq]
  refine .done (hK _ ?_); clear hK K; simp only [thenQ, blockQ]
  refine AW.seq (AW.seq ?_)
  refine AW.reg cd41_1 fun K hK => ?_
  simp only [g41_1, bR, Nat.reduceEqDiff, reduceIte, Int.reduceBNe, Int.reduceBEq]
  simp only [typR, useR, okR, e_fin, bR, Nat.reduceEqDiff, reduceIte, Int.reduceBNe, Int.reduceBEq]
  refine .flat _ (F93 m) rfl ?_
  generalize hm : okMark m = b
  cases b
  · simp only [bR, Nat.reduceEqDiff, reduceIte, Int.reduceBNe, Int.reduceBEq]
    refine .done (hK _ ?_); clear hK K; simp only [thenQ, blockQ]
    refine AW.ite ?_
    simp only [condQ, bR, Nat.reduceEqDiff, reduceIte, Int.reduceBNe, Int.reduceBEq]
    refine ⟨fun h => ?_, fun h => ?_⟩
    · refine AW.seq (AW.reg cd41_2 fun K hK => ?_)
      simp only [g41_2, bR, Nat.reduceEqDiff, reduceIte, Int.reduceBNe, Int.reduceBEq]
      refine .done (hK _ ?_); clear hK K; simp only [thenQ, blockQ]
      refine AW.ret ?_
      simp only [blockQ, thenQ, bR, Nat.reduceEqDiff, reduceIte, Int.reduceBNe, Int.reduceBEq]
      simp [hm]
    · cases h
  · simp only [bR, Nat.reduceEqDiff, reduceIte, Int.reduceBNe, Int.reduceBEq]
    refine .done (hK _ ?_); clear hK K; simp only [thenQ, blockQ]
    refine AW.ite ?_
    simp only [condQ, bR, Nat.reduceEqDiff, reduceIte, Int.reduceBNe, Int.reduceBEq]
    refine ⟨fun h => ?_, fun h => ?_⟩
    · cases h
    · refine AW.skip ?_; simp only [thenQ, blockQ, reduceIte, Nat.reduceEqDiff]
      refine AW.seq (AW.reg cd41_3 fun K hK => ?_)
      simp only [g41_3, bR, Nat.reduceEqDiff, reduceIte, Int.reduceBNe, Int.reduceBEq]
      refine .done (hK _ ?_); clear hK K; simp only [thenQ, blockQ]
      refine AW.ret ?_
      simp only [blockQ, thenQ, bR, Nat.reduceEqDiff, reduceIte, Int.reduceBNe, Int.reduceBEq]
      simp [hm]
theorem F45 (m : Arr 6 Int) : Ctr Try.prog 45 [enc m] (enc (if okReading m then (0 : Int) else 12)) := by
  refine Ctr.mk' Try.func45 ca45 cc45 cr45 (Nat.le_of_ble_eq_true rfl) (fun hwf W0 D0 E1 => ?_)
  simp only [c45, r45, idx, Nat.zero_add, Nat.reduceAdd]
  refine AW.seq (AW.reg cd45_0 fun K hK => ?_)
  simp only [g45_0, bR, Nat.reduceEqDiff, reduceIte, Int.reduceBNe, Int.reduceBEq]
  refine .done (hK _ ?_); clear hK K; simp only [thenQ, blockQ]
  refine AW.seq (AW.seq ?_)
  refine AW.reg cd45_1 fun K hK => ?_
  simp only [g45_1, bR, Nat.reduceEqDiff, reduceIte, Int.reduceBNe, Int.reduceBEq]
  simp only [typR, useR, okR, e_fin, bR, Nat.reduceEqDiff, reduceIte, Int.reduceBNe, Int.reduceBEq]
  refine .flat _ (F96 m) rfl ?_
  generalize hm : okReading m = b
  cases b
  · simp only [bR, Nat.reduceEqDiff, reduceIte, Int.reduceBNe, Int.reduceBEq]
    refine .done (hK _ ?_); clear hK K; simp only [thenQ, blockQ]
    refine AW.ite ?_
    simp only [condQ, bR, Nat.reduceEqDiff, reduceIte, Int.reduceBNe, Int.reduceBEq]
    refine ⟨fun h => ?_, fun h => ?_⟩
    · refine AW.seq (AW.reg cd45_2 fun K hK => ?_)
      simp only [g45_2, bR, Nat.reduceEqDiff, reduceIte, Int.reduceBNe, Int.reduceBEq]
      refine .done (hK _ ?_); clear hK K; simp only [thenQ, blockQ]
      refine AW.ret ?_
      simp only [blockQ, thenQ, bR, Nat.reduceEqDiff, reduceIte, Int.reduceBNe, Int.reduceBEq]
      simp [hm]
    · cases h
  · simp only [bR, Nat.reduceEqDiff, reduceIte, Int.reduceBNe, Int.reduceBEq]
    refine .done (hK _ ?_); clear hK K; simp only [thenQ, blockQ]
    refine AW.ite ?_
    simp only [condQ, bR, Nat.reduceEqDiff, reduceIte, Int.reduceBNe, Int.reduceBEq]
    refine ⟨fun h => ?_, fun h => ?_⟩
    · cases h
    · refine AW.skip ?_; simp only [thenQ, blockQ, reduceIte, Nat.reduceEqDiff]
      refine AW.seq (AW.reg cd45_3 fun K hK => ?_)
      simp only [g45_3, bR, Nat.reduceEqDiff, reduceIte, Int.reduceBNe, Int.reduceBEq]
      refine .done (hK _ ?_); clear hK K; simp only [thenQ, blockQ]
      refine AW.ret ?_
      simp only [blockQ, thenQ, bR, Nat.reduceEqDiff, reduceIte, Int.reduceBNe, Int.reduceBEq]
      simp [hm]
end Go.Proofs.Ytkjkbpgdpnapfaa

/-
  FUNCTIONS OF THE PACKAGE mark BY CONTRACT: has, isWear, CheckWear, differ.
-/
namespace Go.Proofs.Ytkjkbpgdpnapfaa
open Go Go.Abs
open Go.Abs.Enc (enc)
def hasB (s : Int) (k : Nat) : Bool := band (s.fdiv (2 ^ min k IntKind.i64.bits)) 1 == 1
theorem F110 (s : Int) (k : Nat) : Ctr Try.prog 110 [enc s, enc (k : Int)] (enc (hasB s k)) := by
  refine Ctr.mk' Try.func110 ca110 cc110 cr110 (Nat.le_of_ble_eq_true rfl) (fun hwf W0 D0 E1 => ?_)
  simp only [c110, r110, idx, Nat.zero_add, Nat.reduceAdd]
  refine AW.seq (AW.reg cd110_0 fun K hK => ?_)
  simp only [g110_0, bR, Nat.reduceEqDiff, reduceIte, Int.reduceBNe, Int.reduceBEq]
  refine .done (hK _ ?_); clear hK K; simp only [thenQ, blockQ]
  refine AW.seq (AW.reg cd110_1 fun K hK => ?_)
  simp only [g110_1, bR, Nat.reduceEqDiff, reduceIte, Int.reduceBNe, Int.reduceBEq]
  refine .done (hK _ ?_); clear hK K; simp only [thenQ, blockQ]
  refine AW.ret ?_
  simp only [blockQ, thenQ, bR, Nat.reduceEqDiff, reduceIte, Int.reduceBNe, Int.reduceBEq]
  rfl
theorem has_bit (s : Int) (h0 : 0 ≤ s) (h1 : s ≤ 31) (k : Nat) (hk : k < 5) : hasB s k = bit s k := by
  have key : ∀ s : Fin 32, ∀ k : Fin 5, hasB (s.1 : Int) k.1 = bit (s.1 : Int) k.1 := by decide +kernel
  have := key ⟨s.toNat, by omega⟩ ⟨k, hk⟩
  simpa [Int.toNat_of_nonneg h0] using this
theorem F95 (m : Arr 5 Int) : Ctr Try.prog 95 [enc m] (enc (okWear m)) := by
  refine Ctr.mk' Try.func95 ca95 cc95 cr95 (Nat.le_of_ble_eq_true rfl) (fun hwf W0 D0 E1 => ?_)
  simp only [c95, r95, idx, Nat.zero_add, Nat.reduceAdd]
  refine AW.seq (AW.reg cd95_0 fun K hK => ?_)
  simp only [g95_0, bR, Nat.reduceEqDiff, reduceIte, Int.reduceBNe, Int.reduceBEq]
  refine .done (hK _ ?_); clear hK K; simp only [thenQ, blockQ]
  refine AW.seq ?_
  refine AW.seq (AW.reg cd95_1 fun K hK => ?_)
  simp only [g95_1, typR, useR, okR, bR, Nat.reduceEqDiff, reduceIte, Int.reduceBNe, Int.reduceBEq]
  refine .done (hK _ ?_); clear hK K; simp only [thenQ, blockQ]
  refine AW.block (AW.loop (fun i : Nat => mkA [(2, .bool false), (6, enc m), (7, .int .i64 i)] []) (fun j => j ≤ 5 ∧ ∀ i, i < j → (inR 0 31 (m.g i) && bit (m.g i) i) = true) (fun i => 5 - i) 0 ⟨by omega, fun k h => by omega⟩ ?_ (fun i hi => ?_))
  · refine Sub.of_lists ?_ ?_ ?_ ?_ <;> simp [subT, subO, onlyT, onlyO, isIn, look_cons, lookO_cons, lookO_nil, AV.only, AV.onlys, AO.only, onlys_map, onlys_append, e_only, e_int, e_bool]
  · refine AW.seq (AW.reg cd95_2 fun K hK => ?_)
    simp only [g95_2, bR, Nat.reduceEqDiff, reduceIte, Int.reduceBNe, Int.reduceBEq]
    refine .done (hK _ ?_); clear hK K; simp only [thenQ, blockQ]
    refine AW.seq ?_
    refine AW.ite ?_
    simp only [condQ, bR, Nat.reduceEqDiff, reduceIte, Int.reduceBNe, Int.reduceBEq]
    refine ⟨fun h => ?_, fun h => ?_⟩
    · have hlt : i < 5 := by simp at h; omega
      refine AW.skip ?_; simp only [thenQ, blockQ, reduceIte, Nat.reduceEqDiff]
      refine AW.seq (AW.block ?_)
      refine AW.seq (AW.reg cd95_3 fun K hK => ?_)
      simp only [g95_3, bR, Nat.reduceEqDiff, reduceIte, Int.reduceBNe, Int.reduceBEq]
      simp only [ixI, ixE, useR, inB_nat 1 m hlt rfl, get_g m hlt, okR, bR, Nat.reduceEqDiff, reduceIte, Int.reduceBNe, Int.reduceBEq]
      refine .done (hK _ ?_); clear hK K; simp only [thenQ, blockQ]
      refine AW.seq (AW.reg cd95_4 fun K hK => ?_)
      simp only [g95_4, bR, Nat.reduceEqDiff, reduceIte, Int.reduceBNe, Int.reduceBEq]
      refine .done (hK _ ?_); clear hK K; simp only [thenQ, blockQ]
      refine AW.seq (AW.reg cd95_5 fun K hK => ?_)
      simp only [g95_5, bR, Nat.reduceEqDiff, reduceIte, Int.reduceBNe, Int.reduceBEq]
      refine .flat _ (F117 _) rfl ?_
      generalize hb : inR 0 31 (m.g i) = b
      cases b
      · simp only [bR, Nat.reduceEqDiff, reduceIte, Int.reduceBNe, Int.reduceBEq]
        refine .done (hK _ ?_); clear hK K; simp only [thenQ, blockQ]
        refine AW.ite ?_
        simp only [condQ, bR, Nat.reduceEqDiff, reduceIte, Int.reduceBNe, Int.reduceBEq]
        refine ⟨fun h => ?_, fun h => ?_⟩
        · refine AW.seq (AW.reg cd95_6 fun K hK => ?_)
          simp only [g95_6, bR, Nat.reduceEqDiff, reduceIte, Int.reduceBNe, Int.reduceBEq]
          refine .done (hK _ ?_); clear hK K; simp only [thenQ, blockQ]
          refine AW.ret ?_
          simp only [blockQ, thenQ, bR, Nat.reduceEqDiff, reduceIte, Int.reduceBNe, Int.reduceBEq]
          rw [okWear, all_false i hlt]
          simp [hb]
        · cases h
      · have hr : 0 ≤ m.g i ∧ m.g i ≤ 31 := by simpa [inR] using hb
        simp only [bR, Nat.reduceEqDiff, reduceIte, Int.reduceBNe, Int.reduceBEq]
        refine .flat _ (F110 (m.g i) i) rfl ?_
        rw [has_bit _ hr.1 hr.2 i hlt]
        simp only [bR, Nat.reduceEqDiff, reduceIte, Int.reduceBNe, Int.reduceBEq]
        refine .done (hK _ ?_); clear hK K; simp only [thenQ, blockQ]
        refine AW.ite ?_
        simp only [condQ, bR, Nat.reduceEqDiff, reduceIte, Int.reduceBNe, Int.reduceBEq]
        refine ⟨fun h => ?_, fun h => ?_⟩
        · refine AW.seq (AW.reg cd95_6 fun K hK => ?_)
          simp only [g95_6, bR, Nat.reduceEqDiff, reduceIte, Int.reduceBNe, Int.reduceBEq]
          refine .done (hK _ ?_); clear hK K; simp only [thenQ, blockQ]
          refine AW.ret ?_
          simp only [blockQ, thenQ, bR, Nat.reduceEqDiff, reduceIte, Int.reduceBNe, Int.reduceBEq]
          rw [okWear, all_false i hlt]
          simp at h
          simp [h]
        · refine AW.skip ?_; simp only [thenQ, blockQ, reduceIte, Nat.reduceEqDiff]
          refine AW.reg cd95_7 fun K hK => ?_
          simp only [g95_7, bR, Nat.reduceEqDiff, reduceIte, Int.reduceBNe, Int.reduceBEq]
          refine .done (hK _ ?_); clear hK K; simp only [thenQ, blockQ]
          refine ⟨i + 1, ⟨by omega, fun k hk => ?_⟩, by omega, ?_⟩
          · by_cases hk' : k = i
            · subst hk'
              simp at h
              simp [hb, h]
            · exact hi.2 k (by omega)
          · rw [wrap_id _ (by omega) (by omega)]
            refine Sub.of_lists ?_ ?_ ?_ ?_ <;> simp [subT, subO, onlyT, onlyO, isIn, look_cons, lookO_cons, lookO_nil, AV.only, AV.onlys, AO.only, onlys_map, onlys_append, e_only, e_int, e_bool]
    · have hge : i = 5 := by simp at h; omega
      subst hge
      refine AW.exit ?_; simp only [thenQ, blockQ, reduceIte, Nat.reduceEqDiff]
      refine AW.seq (AW.reg cd95_8 fun K hK => ?_)
      simp only [g95_8, bR, Nat.reduceEqDiff, reduceIte, Int.reduceBNe, Int.reduceBEq]
      refine .done (hK _ ?_); clear hK K; simp only [thenQ, blockQ]
      refine AW.ret ?_
      simp only [blockQ, thenQ, bR, Nat.reduceEqDiff, reduceIte, Int.reduceBNe, Int.reduceBEq]
      rw [okWear, all_true hi.2]
theorem F43 (m : Arr 5 Int) : Ctr Try.prog 43 [enc m] (enc (if okWear m then (0 : Int) else 11)) := by
  refine Ctr.mk' Try.func43 ca43 cc43 cr43 (Nat.le_of_ble_eq_true rfl) (fun hwf W0 D0 E1 => ?_)
  simp only [c43, r43, idx, Nat.zero_add, Nat.reduceAdd]
  refine AW.seq (AW.reg cd43_0 fun K hK => ?_)
  simp only [g43_0, bR, Nat.reduceEqDiff, reduceIte, Int.reduceBNe, Int.reduceBEq]
  refine .done (hK _ ?_); clear hK K; simp only [thenQ, blockQ]
  refine AW.seq (AW.seq ?_)
  refine AW.reg cd43_1 fun K hK => ?_
  simp only [g43_1, bR, Nat.reduceEqDiff, reduceIte, Int.reduceBNe, Int.reduceBEq]
  simp only [typR, useR, okR, e_fin, bR, Nat.reduceEqDiff, reduceIte, Int.reduceBNe, Int.reduceBEq]
  refine .flat _ (F95 m) rfl ?_
  generalize hm : okWear m = b
  cases b
  · simp only [bR, Nat.reduceEqDiff, reduceIte, Int.reduceBNe, Int.reduceBEq]
    refine .done (hK _ ?_); clear hK K; simp only [thenQ, blockQ]
    refine AW.ite ?_
    simp only [condQ, bR, Nat.reduceEqDiff, reduceIte, Int.reduceBNe, Int.reduceBEq]
    refine ⟨fun h => ?_, fun h => ?_⟩
    · refine AW.seq (AW.reg cd43_2 fun K hK => ?_)
      simp only [g43_2, bR, Nat.reduceEqDiff, reduceIte, Int.reduceBNe, Int.reduceBEq]
      refine .done (hK _ ?_); clear hK K; simp only [thenQ, blockQ]
      refine AW.ret ?_
      simp only [blockQ, thenQ, bR, Nat.reduceEqDiff, reduceIte, Int.reduceBNe, Int.reduceBEq]
      simp [hm]
    · cases h
  · simp only [bR, Nat.reduceEqDiff, reduceIte, Int.reduceBNe, Int.reduceBEq]
    refine .done (hK _ ?_); clear hK K; simp only [thenQ, blockQ]
    refine AW.ite ?_
    simp only [condQ, bR, Nat.reduceEqDiff, reduceIte, Int.reduceBNe, Int.reduceBEq]
    refine ⟨fun h => ?_, fun h => ?_⟩
    · cases h
    · refine AW.skip ?_; simp only [thenQ, blockQ, reduceIte, Nat.reduceEqDiff]
      refine AW.seq (AW.reg cd43_3 fun K hK => ?_)
      simp only [g43_3, bR, Nat.reduceEqDiff, reduceIte, Int.reduceBNe, Int.reduceBEq]
      refine .done (hK _ ?_); clear hK K; simp only [thenQ, blockQ]
      refine AW.ret ?_
      simp only [blockQ, thenQ, bR, Nat.reduceEqDiff, reduceIte, Int.reduceBNe, Int.reduceBEq]
      simp [hm]
theorem F111 (f : FuncId) (caps : List AV) (hcaps : AV.dones caps = true) (p : Nat → Bool) (hf : ∀ i : Nat, i < 6 → Ctr Try.prog f (enc (i : Int) :: caps) (enc (p i))) : Ctr Try.prog 111 [.func f caps] (enc (cnt (fun i => !p i) 6 : Int)) := by
  refine Ctr.mk' Try.func111 ca111 cc111 cr111 (Nat.le_of_ble_eq_true rfl) (fun hwf W0 D0 E1 => ?_)
  simp only [c111, r111, idx, Nat.zero_add, Nat.reduceAdd]
  have hcl : AV.closeds caps = true := dones_closed caps hcaps
  have hfc : ∀ bx A, fins bx A caps = some caps := fun bx A => fins_dones bx A caps hcaps
  have hon : ∀ q, AV.onlys q caps = true := fun q => onlys_closed q caps hcl
  refine AW.seq (AW.reg cd111_0 fun K hK => ?_)
  simp only [g111_0, bR, Nat.reduceEqDiff, reduceIte, Int.reduceBNe, Int.reduceBEq]
  refine .done (hK _ ?_); clear hK K; simp only [thenQ, blockQ]
  refine AW.seq (AW.reg cd111_1 fun K hK => ?_)
  simp only [g111_1, bR, Nat.reduceEqDiff, reduceIte, Int.reduceBNe, Int.reduceBEq]
  refine .done (hK _ ?_); clear hK K; simp only [thenQ, blockQ]
  refine AW.seq ?_
  refine AW.seq (AW.reg cd111_2 fun K hK => ?_)
  simp only [g111_2, bR, Nat.reduceEqDiff, reduceIte, Int.reduceBNe, Int.reduceBEq]
  refine .done (hK _ ?_); clear hK K; simp only [thenQ, blockQ]
  refine AW.block (AW.loop (fun i : Nat => mkA [(0, .func f caps), (3, .int .i64 (cnt (fun i => !p i) i : Int)), (5, .int .i64 i)] []) (fun i => i ≤ 6 ∧ cnt (fun i => !p i) i ≤ i) (fun i => 6 - i) 0 ⟨by omega, by simp [cnt]⟩ ?_ (fun i hi => ?_))
  · refine Sub.of_lists ?_ ?_ ?_ ?_ <;> simp [subT, subO, onlyT, onlyO, isIn, look_cons, lookO_cons, lookO_nil, AV.only, AV.onlys, AO.only, onlys_map, onlys_append, e_only, e_int, e_bool, hon, cnt]
  · refine AW.seq (AW.reg cd111_3 fun K hK => ?_)
    simp only [g111_3, bR, Nat.reduceEqDiff, reduceIte, Int.reduceBNe, Int.reduceBEq]
    refine .done (hK _ ?_); clear hK K; simp only [thenQ, blockQ]
    refine AW.seq ?_
    refine AW.ite ?_
    simp only [condQ, bR, Nat.reduceEqDiff, reduceIte, Int.reduceBNe, Int.reduceBEq]
    refine ⟨fun h => ?_, fun h => ?_⟩
    · have hlt : i < 6 := by simp at h; omega
      refine AW.skip ?_; simp only [thenQ, blockQ, reduceIte, Nat.reduceEqDiff]
      refine AW.seq (AW.block ?_)
      refine AW.seq (AW.reg cd111_4 fun K hK => ?_)
      simp only [g111_4, bR, Nat.reduceEqDiff, reduceIte, Int.reduceBNe, Int.reduceBEq]
      refine .done (hK _ ?_); clear hK K; simp only [thenQ, blockQ]
      refine AW.seq (AW.reg cd111_5 fun K hK => ?_)
      simp only [g111_5, bR, Nat.reduceEqDiff, reduceIte, Int.reduceBNe, Int.reduceBEq]
      simp only [List.cons_append, hfc, bR, Nat.reduceEqDiff, reduceIte, Int.reduceBNe, Int.reduceBEq]
      refine .flat _ (hf i hlt) rfl ?_
      simp only [bR, Nat.reduceEqDiff, reduceIte, Int.reduceBNe, Int.reduceBEq]
      refine .done (hK _ ?_); clear hK K; simp only [thenQ, blockQ]
      refine AW.ite ?_
      simp only [condQ, bR, Nat.reduceEqDiff, reduceIte, Int.reduceBNe, Int.reduceBEq]
      refine ⟨fun h => ?_, fun h => ?_⟩
      · simp at h
        refine AW.reg cd111_6 fun K hK => ?_
        simp only [g111_6, bR, Nat.reduceEqDiff, reduceIte, Int.reduceBNe, Int.reduceBEq]
        refine .done (hK _ ?_); clear hK K; simp only [thenQ, blockQ]
        refine AW.reg cd111_7 fun K hK => ?_
        simp only [g111_7, bR, Nat.reduceEqDiff, reduceIte, Int.reduceBNe, Int.reduceBEq]
        refine .done (hK _ ?_); clear hK K; simp only [thenQ, blockQ]
        refine ⟨i + 1, ⟨by omega, ?_⟩, by omega, ?_⟩
        · simp only [cnt]; split <;> omega
        · rw [wrap_id _ (by omega) (by omega), wrap_id _ (by omega) (by omega)]
          refine Sub.of_lists ?_ ?_ ?_ ?_ <;> simp [subT, subO, onlyT, onlyO, isIn, look_cons, lookO_cons, lookO_nil, AV.only, AV.onlys, AO.only, onlys_map, onlys_append, e_only, e_int, e_bool, hon, cnt, h]
      · simp at h
        refine AW.skip ?_; simp only [thenQ, blockQ, reduceIte, Nat.reduceEqDiff]
        refine AW.reg cd111_7 fun K hK => ?_
        simp only [g111_7, bR, Nat.reduceEqDiff, reduceIte, Int.reduceBNe, Int.reduceBEq]
        refine .done (hK _ ?_); clear hK K; simp only [thenQ, blockQ]
        refine ⟨i + 1, ⟨by omega, ?_⟩, by omega, ?_⟩
        · simp only [cnt]; split <;> omega
        · rw [wrap_id _ (by omega) (by omega)]
          refine Sub.of_lists ?_ ?_ ?_ ?_ <;> simp [subT, subO, onlyT, onlyO, isIn, look_cons, lookO_cons, lookO_nil, AV.only, AV.onlys, AO.only, onlys_map, onlys_append, e_only, e_int, e_bool, hon, cnt, h]
    · have hge : i = 6 := by simp at h; omega
      subst hge
      refine AW.exit ?_; simp only [thenQ, blockQ, reduceIte, Nat.reduceEqDiff]
      refine AW.seq (AW.reg cd111_8 fun K hK => ?_)
      simp only [g111_8, bR, Nat.reduceEqDiff, reduceIte, Int.reduceBNe, Int.reduceBEq]
      refine .done (hK _ ?_); clear hK K; simp only [thenQ, blockQ]
      refine AW.ret ?_
      simp only [blockQ, thenQ, bR, Nat.reduceEqDiff, reduceIte, Int.reduceBNe, Int.reduceBEq]
end Go.Proofs.Ytkjkbpgdpnapfaa

/-
  FUNCTIONS OF THE PACKAGE mark BY CONTRACT: cost, distance; IndexFunc and ContainsFunc over given marks; isApart.
-/
namespace Go.Proofs.Ytkjkbpgdpnapfaa
open Go Go.Abs
open Go.Abs.Enc (enc)
theorem F113 (w : Arr 5 Int) (m r : Arr 6 Int) (hm : okMark m = true) (i : Nat) (hi : i < 6) : Ctr Try.prog 113 (enc (i : Int) :: [.ref (.func 78 []), .ref (enc w), .ref (enc m), .ref (enc r)]) (enc (!costAt w m r i)) := by
  obtain ⟨h0, h5⟩ := okMark_at hm hi
  refine Ctr.mk' Try.func113 ca113 cc113 cr113 (Nat.le_of_ble_eq_true rfl) (fun hwf W0 D0 E1 => ?_)
  simp only [c113, r113, idx, Nat.zero_add, Nat.reduceAdd]
  refine AW.seq (AW.reg cd113_0 fun K hK => ?_)
  simp only [g113_0, bR, Nat.reduceEqDiff, reduceIte, Int.reduceBNe, Int.reduceBEq]
  refine .done (hK _ ?_); clear hK K; simp only [thenQ, blockQ]
  refine AW.seq (AW.reg cd113_1 fun K hK => ?_)
  simp only [g113_1, bR, Nat.reduceEqDiff, reduceIte, Int.reduceBNe, Int.reduceBEq]
  simp only [typR, useR, okR, e_fin, bR, Nat.reduceEqDiff, reduceIte, Int.reduceBNe, Int.reduceBEq]
  refine .flat _ (F77 w m i hi h0 h5) rfl ?_
  simp only [typR, useR, okR, inB_nat 1 r hi rfl, iaR, get_g r hi, List.append_nil, bR, Nat.reduceEqDiff, reduceIte, Int.reduceBNe, Int.reduceBEq]
  refine .flat _ (F78 _ _) rfl ?_
  simp only [bR, Nat.reduceEqDiff, reduceIte, Int.reduceBNe, Int.reduceBEq]
  refine .done (hK _ ?_); clear hK K; simp only [thenQ, blockQ]
  refine AW.ret ?_
  simp only [blockQ, thenQ, bR, Nat.reduceEqDiff, reduceIte, Int.reduceBNe, Int.reduceBEq]
  simp [costAt, bne]
theorem F112 (w : Arr 5 Int) (a b : Arr 6 Int) (ha : okMark a = true) (hb : okMark b = true) (i : Nat) (hi : i < 6) : Ctr Try.prog 112 (enc (i : Int) :: [.ref (.func 78 []), .ref (enc w), .ref (enc a), .ref (enc b)]) (enc (!apartAt w a b i)) := by
  obtain ⟨h0, h5⟩ := okMark_at ha hi
  obtain ⟨k0, k5⟩ := okMark_at hb hi
  refine Ctr.mk' Try.func112 ca112 cc112 cr112 (Nat.le_of_ble_eq_true rfl) (fun hwf W0 D0 E1 => ?_)
  simp only [c112, r112, idx, Nat.zero_add, Nat.reduceAdd]
  refine AW.seq (AW.reg cd112_0 fun K hK => ?_)
  simp only [g112_0, bR, Nat.reduceEqDiff, reduceIte, Int.reduceBNe, Int.reduceBEq]
  refine .done (hK _ ?_); clear hK K; simp only [thenQ, blockQ]
  refine AW.seq (AW.reg cd112_1 fun K hK => ?_)
  simp only [g112_1, bR, Nat.reduceEqDiff, reduceIte, Int.reduceBNe, Int.reduceBEq]
  simp only [typR, useR, okR, e_fin, bR, Nat.reduceEqDiff, reduceIte, Int.reduceBNe, Int.reduceBEq]
  refine .flat _ (F77 w a i hi h0 h5) rfl ?_
  simp only [typR, useR, okR, e_fin, bR, Nat.reduceEqDiff, reduceIte, Int.reduceBNe, Int.reduceBEq]
  refine .flat _ (F77 w b i hi k0 k5) rfl ?_
  simp only [okR, List.append_nil, bR, Nat.reduceEqDiff, reduceIte, Int.reduceBNe, Int.reduceBEq]
  refine .flat _ (F78 _ _) rfl ?_
  simp only [bR, Nat.reduceEqDiff, reduceIte, Int.reduceBNe, Int.reduceBEq]
  refine .done (hK _ ?_); clear hK K; simp only [thenQ, blockQ]
  refine AW.ret ?_
  simp only [blockQ, thenQ, bR, Nat.reduceEqDiff, reduceIte, Int.reduceBNe, Int.reduceBEq]
  simp [apartAt, bne]
theorem stR3_f {A : AState} {n : Nat} {b : AV} {f : FuncId} {caps : List AV} {rest : List G} : stR3 A none n [] b (.func f caps) rest (some .nilf) = aops rest (A.setO n (.box (b.setAt [] (.func f caps)))) := stR3_ok rfl rfl (by simp [AV.sh])
theorem F88 (w : Arr 5 Int) (m r : Arr 6 Int) (hm : okMark m = true) : Ctr Try.prog 88 [enc w, enc m, enc r] (enc (costOf w m r)) := by
  refine Ctr.mk' Try.func88 ca88 cc88 cr88 (Nat.le_of_ble_eq_true rfl) (fun hwf W0 D0 E1 => ?_)
  simp only [c88, r88, idx, Nat.zero_add, Nat.reduceAdd]
  refine AW.seq (AW.reg cd88_0 fun K hK => ?_)
  simp only [g88_0, bR, Nat.reduceEqDiff, reduceIte, Int.reduceBNe, Int.reduceBEq]
  simp only [e_isVal, bR, Nat.reduceEqDiff, reduceIte, Int.reduceBNe, Int.reduceBEq]
  refine .done (hK _ ?_); clear hK K; simp only [thenQ, blockQ]
  refine AW.seq (AW.reg cd88_1 fun K hK => ?_)
  simp only [g88_1, bR, Nat.reduceEqDiff, reduceIte, Int.reduceBNe, Int.reduceBEq]
  simp only [stR3_f, bR, Nat.reduceEqDiff, reduceIte, Int.reduceBNe, Int.reduceBEq]
  refine .done (hK _ ?_); clear hK K; simp only [thenQ, blockQ]
  refine AW.seq (AW.reg cd88_2 fun K hK => ?_)
  simp only [g88_2, bR, Nat.reduceEqDiff, reduceIte, Int.reduceBNe, Int.reduceBEq]
  simp only [List.all_cons, List.all_nil, AV.isVal, Bool.and_self, e_closed, bR, Nat.reduceEqDiff, reduceIte, Int.reduceBNe, Int.reduceBEq]
  refine .flat _ (F111 113 [.ref (.func 78 []), .ref (enc w), .ref (enc m), .ref (enc r)] ?_ (fun i => !costAt w m r i) (fun i hi => F113 w m r hm i hi)) rfl ?_
  · simp only [AV.dones, AV.done, AV.closed, AV.closeds, e_closed, Bool.and_self]
  simp only [bR, Nat.reduceEqDiff, reduceIte, Int.reduceBNe, Int.reduceBEq]
  refine .done (hK _ ?_); clear hK K; simp only [thenQ, blockQ]
  refine AW.ret ?_
  simp only [blockQ, thenQ, bR, Nat.reduceEqDiff, reduceIte, Int.reduceBNe, Int.reduceBEq]
  simp only [costOf, Bool.not_not]
theorem F87 (w : Arr 5 Int) (a b : Arr 6 Int) (ha : okMark a = true) (hb : okMark b = true) : Ctr Try.prog 87 [enc w, enc a, enc b] (enc (cnt (apartAt w a b) 6 : Int)) := by
  refine Ctr.mk' Try.func87 ca87 cc87 cr87 (Nat.le_of_ble_eq_true rfl) (fun hwf W0 D0 E1 => ?_)
  simp only [c87, r87, idx, Nat.zero_add, Nat.reduceAdd]
  refine AW.seq (AW.reg cd87_0 fun K hK => ?_)
  simp only [g87_0, bR, Nat.reduceEqDiff, reduceIte, Int.reduceBNe, Int.reduceBEq]
  simp only [e_isVal, bR, Nat.reduceEqDiff, reduceIte, Int.reduceBNe, Int.reduceBEq]
  refine .done (hK _ ?_); clear hK K; simp only [thenQ, blockQ]
  refine AW.seq (AW.reg cd87_1 fun K hK => ?_)
  simp only [g87_1, bR, Nat.reduceEqDiff, reduceIte, Int.reduceBNe, Int.reduceBEq]
  simp only [stR3_f, bR, Nat.reduceEqDiff, reduceIte, Int.reduceBNe, Int.reduceBEq]
  refine .done (hK _ ?_); clear hK K; simp only [thenQ, blockQ]
  refine AW.seq (AW.reg cd87_2 fun K hK => ?_)
  simp only [g87_2, bR, Nat.reduceEqDiff, reduceIte, Int.reduceBNe, Int.reduceBEq]
  simp only [List.all_cons, List.all_nil, AV.isVal, Bool.and_self, e_closed, bR, Nat.reduceEqDiff, reduceIte, Int.reduceBNe, Int.reduceBEq]
  refine .flat _ (F111 112 [.ref (.func 78 []), .ref (enc w), .ref (enc a), .ref (enc b)] ?_ (fun i => !apartAt w a b i) (fun i hi => F112 w a b ha hb i hi)) rfl ?_
  · simp only [AV.dones, AV.done, AV.closed, AV.closeds, e_closed, Bool.and_self]
  simp only [bR, Nat.reduceEqDiff, reduceIte, Int.reduceBNe, Int.reduceBEq]
  refine .done (hK _ ?_); clear hK K; simp only [thenQ, blockQ]
  refine AW.ret ?_
  simp only [blockQ, thenQ, bR, Nat.reduceEqDiff, reduceIte, Int.reduceBNe, Int.reduceBEq]
  simp only [Bool.not_not]
end Go.Proofs.Ytkjkbpgdpnapfaa

